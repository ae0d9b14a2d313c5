/-
  Texts of these claims, joined: Ze Zf Zg Zh Zi Zj Zk Zl Zm Zn Zo Zp Zs Zt Zu Zv Zx Zy Zz Na Nd Nj No Nq Nv.
-/
import Derived.Test.YteajddicacjkhaaGreatEd
namespace Go.Proofs.YteajddicacjkhaaGreat
open Go.MW
variable{H:bB}{w:World}{σ:List Ent}
theorem a6{a0 a1 a2:Int}(hs:St H w σ):Cl Tryz.prog 164 [I a0,I a1,I a2] w fun v w'=>v= .bool (decide (a1≤a0∧a0≤a2))∧St H w' σ:=by
 refine Cl.o Tryz.func164 Tryz.ntmps164 ag3 ?_
 refine .ai (.z zg (.nil (.ai (.z zm (.z zm (.z um (.z zm ?_)))))))
 refine .jM (t':=10) rfl (fun hb10=>?_) (fun hb10=>?_)
 ·refine .gT rfl rfl ?_
  refine .z zm ?_
  refine .gT rfl rfl ?_
  refine .z zm ?_
  refine .gT rfl rfl ?_
  refine .z um (.z zpT (.z zg (.nil ?_)))
  refine .ret (Fin.bw Tryz.results164 rfl ?_)
  exact ⟨by simp [*],hs.out⟩
 ·refine .gFs 3 3 true rfl rfl rfl ?_
  refine .z zpF (.z zg (.nil ?_))
  refine .ret (Fin.bw Tryz.results164 rfl ?_)
  exact ⟨by simp [*],hs.out⟩
theorem fX{a0:Int}(hs:St H w σ):Cl Tryz.prog 165 [I a0] w fun v w'=>v= .bool (decide (1≤a0∧a0≤99999))∧St H w' σ:=by
 refine Cl.o Tryz.func165 Tryz.ntmps165 ag1 ?_
 refine .ai (.z zg (.nil (.ai (.z zm ?_))))
 refine .o (.call db rfl (a6 hs) ?_);rintro _ w ⟨rfl,hs⟩
 refine .z zg (.nil ?_)
 refine .ret (Fin.bw Tryz.results165 rfl ?_)
 exact ⟨rfl,hs⟩
def Spc.agg(s:Spc)(vst vwa:Value):Value:= .agg #[I s.id,I s.src,vst,vwa,I s.al,I s.up]
theorem iC{s:Spc}{vst vwa:Value}(hs:St H w σ)(h1:RI H vst s.st)(h2:RI H vwa s.wa):
  Cl Tryz.prog 111 [.agg #[I s.id,I s.src,vst,vwa,I s.al,I s.up]] w fun v w'=>∃H1 e,HLe H H1∧v=I e∧((dP s∧e=0)∨(¬dP s∧e=30))∧St H1 w' σ:=by
 obtain ⟨ast,cst,rfl⟩:=RI.shape h1
 obtain ⟨awa,cwa,rfl⟩:=RI.shape h2
 refine Cl.o Tryz.func111 Tryz.ntmps111 ag1 ?_
 refine .ai ?_
 refine .bx hs fun b1 w hs=>?_
 refine .z zg (.nil (.seq (.ai (.z (zfa bH) (.y hs (zld an) (.z (zfa a8) (.y hs (zld an) ?_)))))))
 refine .o (.call Tryz.call163 rfl (mF hs h1 h2) ?_);rintro _ w ⟨H1,vo,e,hle1,rfl,hG,hG',hs⟩
 refine .z zm (.z zex (.z zex (.z zg (.z zg (.nil (.ai (.z zm (.z gE (.z zm ?_)))))))))
 refine .DQ (t':=15) rfl (fun hb15=>?_) (fun hb15=>?_)
 ·refine .gFs 4 2 false rfl rfl rfl ?_
  refine .z zpT (.z zm ?_)
  refine .gFs 4 8 false rfl rfl rfl ?_
  refine .z zpT (.z zm ?_)
  refine .gFs 5 14 false rfl rfl rfl ?_
  refine .z zpT (.z zm ?_)
  refine .gFs 5 21 false rfl rfl rfl ?_
  refine .z zpT (.nil ?_)
  refine (.cT ?_)
  refine .ai (.z zg (.nil ?_))
  refine .ret (rT (Fin.bw sH rfl ?_))
  exact ⟨H1,_,hle1,rfl,.inr ⟨fun h=>by have:=(hG ⟨h.st,h.wa⟩).1;simp_all,rfl⟩,hs.out⟩
 ·refine .gT rfl rfl ?_
  refine .z (zfa uD) ?_
  refine .gT rfl rfl ?_
  refine .y hs (zld af) ?_
  refine .gT rfl rfl ?_
  refine .o (.call db rfl (a6 hs) ?_);rintro _ w ⟨rfl,hs⟩
  refine .gT rfl rfl ?_
  refine .z gy (.z zpF (.z zm ?_))
  refine .bif (t':=21) rfl (fun hb21=>?_) (fun hb21=>?_)
  ·refine .gFs 4 8 false rfl rfl rfl ?_
   refine .z zpT (.z zm ?_)
   refine .gFs 5 14 false rfl rfl rfl ?_
   refine .z zpT (.z zm ?_)
   refine .gFs 5 21 false rfl rfl rfl ?_
   refine .z zpT (.nil ?_)
   refine (.cT ?_)
   refine .ai (.z zg (.nil ?_))
   refine .ret (rT (Fin.bw sH rfl ?_))
   exact ⟨H1,_,hle1,rfl,.inr ⟨fun h=>by have:=h.id;simp_all,rfl⟩,hs.out⟩
  ·refine .gT rfl rfl ?_
   refine .z (zfa dB) ?_
   refine .gT rfl rfl ?_
   refine .y hs (zld af) ?_
   refine .gT rfl rfl ?_
   refine .o (.call Tryz.call165 rfl (fX hs) ?_);rintro _ w ⟨rfl,hs⟩
   refine .gT rfl rfl ?_
   refine .z gy (.z zpF (.z zm ?_))
   refine .bif (t':=27) rfl (fun hb27=>?_) (fun hb27=>?_)
   ·refine .gFs 5 14 false rfl rfl rfl ?_
    refine .z zpT (.z zm ?_)
    refine .gFs 5 21 false rfl rfl rfl ?_
    refine .z zpT (.nil ?_)
    refine (.cT ?_)
    refine .ai (.z zg (.nil ?_))
    refine .ret (rT (Fin.bw sH rfl ?_))
    exact ⟨H1,_,hle1,rfl,.inr ⟨fun h=>by have:=h.src;simp_all,rfl⟩,hs.out⟩
   ·refine .gT rfl rfl ?_
    refine .z (zfa eU) ?_
    refine .gT rfl rfl ?_
    refine .z (zfa lG) ?_
    refine .gT rfl rfl ?_
    refine .y hs (zld af) ?_
    refine .gT rfl rfl ?_
    refine .o (.call db rfl (a6 hs) ?_);rintro _ w ⟨rfl,hs⟩
    refine .gT rfl rfl ?_
    refine .z gy (.z zpF (.z zm ?_))
    refine .bif (t':=34) rfl (fun hb34=>?_) (fun hb34=>?_)
    ·refine .gFs 5 21 false rfl rfl rfl ?_
     refine .z zpT (.nil ?_)
     refine (.cT ?_)
     refine .ai (.z zg (.nil ?_))
     refine .ret (rT (Fin.bw sH rfl ?_))
     exact ⟨H1,_,hle1,rfl,.inr ⟨fun h=>by have:=h.al;simp_all,rfl⟩,hs.out⟩
    ·refine .gT rfl rfl ?_
     refine .z (zfa eU) ?_
     refine .gT rfl rfl ?_
     refine .z (zfa lF) ?_
     refine .gT rfl rfl ?_
     refine .y hs (zld af) ?_
     refine .gT rfl rfl ?_
     refine .o (.call db rfl (a6 hs) ?_);rintro _ w ⟨rfl,hs⟩
     refine .gT rfl rfl ?_
     refine .z gy (.z zpF (.nil ?_))
     refine (.cond rfl (fun hc40=>?_) (fun hc40=>?_))
     ·refine .ai (.z zg (.nil ?_))
      refine .ret (rT (Fin.bw sH rfl ?_))
      exact ⟨H1,_,hle1,rfl,.inr ⟨fun h=>by have:=h.up;simp_all,rfl⟩,hs.out⟩
     ·refine .skip ?_
      refine nT ?_
      refine .ai (.z zg (.nil ?_))
      refine .ret (Fin.bw sH rfl ?_)
      have hg:=hG' (by simp_all)
      exact ⟨H1,_,hle1,rfl,.inl ⟨⟨hg.1,hg.2,by simp_all,by simp_all,by simp_all,by simp_all⟩,rfl⟩,hs.out⟩
theorem mi{s:Spc}{r:Rdg}{vst vwa:Value}(hs:St H w σ)(h1:RI H vst s.st)(h2:RI H vwa s.wa):
  Cl Tryz.prog 120 [.agg #[I s.id,I s.src,vst,vwa,I s.al,I s.up],.agg #[I r.src,I r.st,I r.wa,I r.val,I r.tol,I r.tape,I r.day]] w fun v w'=>∃b:Bool,v= .bool b∧(b=true↔gP s r)∧St H w' σ:=by
 obtain ⟨ast,cst,rfl⟩:=RI.shape h1
 obtain ⟨awa,cwa,rfl⟩:=RI.shape h2
 have l1:=(RI.len h1).2.2
 have l2:=(RI.len h2).2.2
 refine Cl.o Tryz.func120 Tryz.ntmps120 ag2 ?_
 refine .ai ?_
 refine .bx hs fun b2 w hs=>?_
 refine .bx hs fun b3 w hs=>?_
 refine .z zg (.nil (.ai (.z (zfa fI) (.y hs (zld af) ?_))))
 refine .o (.call Tryz.call165 rfl (fX hs) ?_);rintro _ w ⟨rfl,hs⟩
 refine .z zm ?_
 refine .bif (t':=8) rfl (fun hb8=>?_) (fun hb8=>?_)
 ·refine .gT rfl rfl ?_
  refine .z (zfa fH) ?_
  refine .gT rfl rfl ?_
  refine .y hs (zld af) ?_
  refine .gT rfl rfl ?_
  refine .z (zfa bH) ?_
  refine .gT rfl rfl ?_
  refine .y hs (zld an) ?_
  refine .gT rfl rfl ?_
  refine .z (cZ ae) ?_
  refine .gT rfl rfl ?_
  refine .z gZ ?_
  refine .gT rfl rfl ?_
  refine .o (.call db rfl (a6 hs) ?_);rintro _ w ⟨rfl,hs⟩
  refine .z zpT (.z zm ?_)
  refine .bif (t':=17) rfl (fun hb17=>?_) (fun hb17=>?_)
  ·refine .gT rfl rfl ?_
   refine .z (zfa fG) ?_
   refine .gT rfl rfl ?_
   refine .y hs (zld af) ?_
   refine .gT rfl rfl ?_
   refine .z (zfa a8) ?_
   refine .gT rfl rfl ?_
   refine .y hs (zld an) ?_
   refine .gT rfl rfl ?_
   refine .z (cZ ae) ?_
   refine .gT rfl rfl ?_
   refine .z gZ ?_
   refine .gT rfl rfl ?_
   refine .o (.call db rfl (a6 hs) ?_);rintro _ w ⟨rfl,hs⟩
   refine .z zpT (.z zm ?_)
   refine .bif (t':=26) rfl (fun hb26=>?_) (fun hb26=>?_)
   ·refine .gT rfl rfl ?_
    refine .z (zfa df) ?_
    refine .gT rfl rfl ?_
    refine .y hs (zld af) ?_
    refine .gT rfl rfl ?_
    refine .o (.call db rfl (a6 hs) ?_);rintro _ w ⟨rfl,hs⟩
    refine .z zpT (.z zm ?_)
    refine .bif (t':=31) rfl (fun hb31=>?_) (fun hb31=>?_)
    ·refine .gT rfl rfl ?_
     refine .z (zfa dZ) ?_
     refine .gT rfl rfl ?_
     refine .y hs (zld af) ?_
     refine .gT rfl rfl ?_
     refine .z (zfa df) ?_
     refine .gT rfl rfl ?_
     refine .y hs (zld af) ?_
     refine .gT rfl rfl ?_
     have ht:0≤r.tol∧r.tol≤1000:=by simp_all
     refine .z gZ ?_
     refine .gT rfl rfl ?_
     refine .o (.call db rfl (a6 hs) ?_);rintro _ w ⟨rfl,hs⟩
     refine .z zpT (.z zm ?_)
     refine .bif (t':=39) rfl (fun hb39=>?_) (fun hb39=>?_)
     ·refine .gT rfl rfl ?_
      refine .z (zfa dY) ?_
      refine .gT rfl rfl ?_
      refine .y hs (zld af) ?_
      refine .gT rfl rfl ?_
      refine .o (.call db rfl (a6 hs) ?_);rintro _ w ⟨rfl,hs⟩
      refine .z zpT (.z zm ?_)
      refine .bif (t':=44) rfl (fun hb44=>?_) (fun hb44=>?_)
      ·refine .gT rfl rfl ?_
       refine .z (zfa dX) ?_
       refine .gT rfl rfl ?_
       refine .y hs (zld af) ?_
       refine .gT rfl rfl ?_
       refine .o (.call db rfl (a6 hs) ?_);rintro _ w ⟨rfl,hs⟩
       refine .z zpT (.z zg (.nil ?_))
       refine .ret (Fin.bw ma rfl ?_)
       first
       |exact ⟨false,rfl,⟨fun h=>(by cases h),fun h=>(by obtain ⟨g1,g2,g3,g4,g5,g6,g7⟩:=h;simp_all;done)⟩,hs.out⟩
       |exact ⟨_,rfl,⟨fun h=>⟨by simp_all,by simp_all,by simp_all,by simp_all,by simp_all,by simp_all,by simpa using h⟩,fun h=>by simpa using h.day⟩,hs.out⟩
      ·refine .gFs 3 39 true rfl rfl rfl ?_
       refine .z zpF (.z zg (.nil ?_))
       refine .ret (Fin.bw ma rfl ?_)
       first
       |exact ⟨false,rfl,⟨fun h=>(by cases h),fun h=>(by obtain ⟨g1,g2,g3,g4,g5,g6,g7⟩:=h;simp_all;done)⟩,hs.out⟩
       |exact ⟨_,rfl,⟨fun h=>⟨by simp_all,by simp_all,by simp_all,by simp_all,by simp_all,by simp_all,by simpa using h⟩,fun h=>by simpa using h.day⟩,hs.out⟩
     ·refine .gFs 3 34 true rfl rfl rfl ?_
      refine .z zpF (.z zm ?_)
      refine .gFs 3 39 true rfl rfl rfl ?_
      refine .z zpF (.z zg (.nil ?_))
      refine .ret (Fin.bw ma rfl ?_)
      first
      |exact ⟨false,rfl,⟨fun h=>(by cases h),fun h=>(by obtain ⟨g1,g2,g3,g4,g5,g6,g7⟩:=h;simp_all;done)⟩,hs.out⟩
      |exact ⟨_,rfl,⟨fun h=>⟨by simp_all,by simp_all,by simp_all,by simp_all,by simp_all,by simp_all,by simpa using h⟩,fun h=>by simpa using h.day⟩,hs.out⟩
    ·refine .gFs 6 26 true rfl rfl rfl ?_
     refine .z zpF (.z zm ?_)
     refine .gFs 3 34 true rfl rfl rfl ?_
     refine .z zpF (.z zm ?_)
     refine .gFs 3 39 true rfl rfl rfl ?_
     refine .z zpF (.z zg (.nil ?_))
     refine .ret (Fin.bw ma rfl ?_)
     first
     |exact ⟨false,rfl,⟨fun h=>(by cases h),fun h=>(by obtain ⟨g1,g2,g3,g4,g5,g6,g7⟩:=h;simp_all;done)⟩,hs.out⟩
     |exact ⟨_,rfl,⟨fun h=>⟨by simp_all,by simp_all,by simp_all,by simp_all,by simp_all,by simp_all,by simpa using h⟩,fun h=>by simpa using h.day⟩,hs.out⟩
   ·refine .gFs 3 21 true rfl rfl rfl ?_
    refine .z zpF (.z zm ?_)
    refine .gFs 6 26 true rfl rfl rfl ?_
    refine .z zpF (.z zm ?_)
    refine .gFs 3 34 true rfl rfl rfl ?_
    refine .z zpF (.z zm ?_)
    refine .gFs 3 39 true rfl rfl rfl ?_
    refine .z zpF (.z zg (.nil ?_))
    refine .ret (Fin.bw ma rfl ?_)
    first
    |exact ⟨false,rfl,⟨fun h=>(by cases h),fun h=>(by obtain ⟨g1,g2,g3,g4,g5,g6,g7⟩:=h;simp_all;done)⟩,hs.out⟩
    |exact ⟨_,rfl,⟨fun h=>⟨by simp_all,by simp_all,by simp_all,by simp_all,by simp_all,by simp_all,by simpa using h⟩,fun h=>by simpa using h.day⟩,hs.out⟩
  ·refine .gFs 7 12 true rfl rfl rfl ?_
   refine .z zpF (.z zm ?_)
   refine .gFs 3 21 true rfl rfl rfl ?_
   refine .z zpF (.z zm ?_)
   refine .gFs 6 26 true rfl rfl rfl ?_
   refine .z zpF (.z zm ?_)
   refine .gFs 3 34 true rfl rfl rfl ?_
   refine .z zpF (.z zm ?_)
   refine .gFs 3 39 true rfl rfl rfl ?_
   refine .z zpF (.z zg (.nil ?_))
   refine .ret (Fin.bw ma rfl ?_)
   first
   |exact ⟨false,rfl,⟨fun h=>(by cases h),fun h=>(by obtain ⟨g1,g2,g3,g4,g5,g6,g7⟩:=h;simp_all;done)⟩,hs.out⟩
   |exact ⟨_,rfl,⟨fun h=>⟨by simp_all,by simp_all,by simp_all,by simp_all,by simp_all,by simp_all,by simpa using h⟩,fun h=>by simpa using h.day⟩,hs.out⟩
 ·refine .gFs 7 3 true rfl rfl rfl ?_
  refine .z zpF (.z zm ?_)
  refine .gFs 7 12 true rfl rfl rfl ?_
  refine .z zpF (.z zm ?_)
  refine .gFs 3 21 true rfl rfl rfl ?_
  refine .z zpF (.z zm ?_)
  refine .gFs 6 26 true rfl rfl rfl ?_
  refine .z zpF (.z zm ?_)
  refine .gFs 3 34 true rfl rfl rfl ?_
  refine .z zpF (.z zm ?_)
  refine .gFs 3 39 true rfl rfl rfl ?_
  refine .z zpF (.z zg (.nil ?_))
  refine .ret (Fin.bw ma rfl ?_)
  first
  |exact ⟨false,rfl,⟨fun h=>(by cases h),fun h=>(by obtain ⟨g1,g2,g3,g4,g5,g6,g7⟩:=h;simp_all;done)⟩,hs.out⟩
  |exact ⟨_,rfl,⟨fun h=>⟨by simp_all,by simp_all,by simp_all,by simp_all,by simp_all,by simp_all,by simpa using h⟩,fun h=>by simpa using h.day⟩,hs.out⟩
theorem mj{c:Cmp}(hs:St H w σ):
  Cl Tryz.prog 170 [.agg #[I c.src,I c.tape,I c.fr,I c.to,I c.lo,I c.hi]] w fun v w'=>∃b:Bool,v= .bool b∧(b=true↔rp c)∧St H w' σ:=by
 refine Cl.o Tryz.func170 Tryz.ntmps170 ag1 ?_
 refine .ai ?_
 refine .bx hs fun b1 w hs=>?_
 refine .z zg (.nil (.ai (.z (zfa gW) (.y hs (zld af) ?_))))
 refine .o (.call Tryz.call165 rfl (fX hs) ?_);rintro _ w ⟨rfl,hs⟩
 refine .z zm ?_
 refine .bif (t':=6) rfl (fun hb6=>?_) (fun hb6=>?_)
 ·refine .gT rfl rfl ?_
  refine .z (zfa jy) ?_
  refine .gT rfl rfl ?_
  refine .y hs (zld af) ?_
  refine .gT rfl rfl ?_
  refine .o (.call db rfl (a6 hs) ?_);rintro _ w ⟨rfl,hs⟩
  refine .z zpT (.z zm ?_)
  refine .bif (t':=11) rfl (fun hb11=>?_) (fun hb11=>?_)
  ·refine .gT rfl rfl ?_
   refine .z (zfa jx) ?_
   refine .gT rfl rfl ?_
   refine .y hs (zld af) ?_
   refine .gT rfl rfl ?_
   refine .z (zfa gV) ?_
   refine .gT rfl rfl ?_
   refine .y hs (zld af) ?_
   refine .gT rfl rfl ?_
   refine .o (.call db rfl (a6 hs) ?_);rintro _ w ⟨rfl,hs⟩
   refine .z zpT (.z zm ?_)
   refine .bif (t':=18) rfl (fun hb18=>?_) (fun hb18=>?_)
   ·refine .gT rfl rfl ?_
    refine .z (zfa gV) ?_
    refine .gT rfl rfl ?_
    refine .y hs (zld af) ?_
    refine .gT rfl rfl ?_
    refine .o (.call db rfl (a6 hs) ?_);rintro _ w ⟨rfl,hs⟩
    refine .z zpT (.z zm ?_)
    refine .bif (t':=23) rfl (fun hb23=>?_) (fun hb23=>?_)
    ·refine .gT rfl rfl ?_
     refine .z (zfa jw) ?_
     refine .gT rfl rfl ?_
     refine .y hs (zld af) ?_
     refine .gT rfl rfl ?_
     refine .z (zfa gU) ?_
     refine .gT rfl rfl ?_
     refine .y hs (zld af) ?_
     refine .gT rfl rfl ?_
     refine .o (.call db rfl (a6 hs) ?_);rintro _ w ⟨rfl,hs⟩
     refine .z zpT (.z zm ?_)
     refine .bif (t':=30) rfl (fun hb30=>?_) (fun hb30=>?_)
     ·refine .gT rfl rfl ?_
      refine .z (zfa gU) ?_
      refine .gT rfl rfl ?_
      refine .y hs (zld af) ?_
      refine .gT rfl rfl ?_
      refine .o (.call db rfl (a6 hs) ?_);rintro _ w ⟨rfl,hs⟩
      refine .z zpT (.z zg (.nil ?_))
      refine .ret (Fin.bw sF rfl ?_)
      first
      |exact ⟨false,rfl,⟨fun h=>(by cases h),fun h=>(by obtain ⟨g1,g2,g3,g4,g5,g6⟩:=h;simp_all;omega)⟩,hs.out⟩
      |exact ⟨false,rfl,⟨fun h=>(by cases h),fun h=>(by obtain ⟨g1,g2,g3,g4,g5,g6⟩:=h;simp_all;done)⟩,hs.out⟩
      |exact ⟨_,rfl,⟨fun h=>⟨by simp_all,by simp_all,by simp_all,by simp_all,by simp_all,(by simpa using h:_∧_).2⟩,fun h=>by have:=h.lo;have:=h.hi;simp;omega⟩,hs.out⟩
     ·refine .gFs 3 27 true rfl rfl rfl ?_
      refine .z zpF (.z zg (.nil ?_))
      refine .ret (Fin.bw sF rfl ?_)
      first
      |exact ⟨false,rfl,⟨fun h=>(by cases h),fun h=>(by obtain ⟨g1,g2,g3,g4,g5,g6⟩:=h;simp_all;omega)⟩,hs.out⟩
      |exact ⟨false,rfl,⟨fun h=>(by cases h),fun h=>(by obtain ⟨g1,g2,g3,g4,g5,g6⟩:=h;simp_all;done)⟩,hs.out⟩
      |exact ⟨_,rfl,⟨fun h=>⟨by simp_all,by simp_all,by simp_all,by simp_all,by simp_all,(by simpa using h:_∧_).2⟩,fun h=>by have:=h.lo;have:=h.hi;simp;omega⟩,hs.out⟩
    ·refine .gFs 5 20 true rfl rfl rfl ?_
     refine .z zpF (.z zm ?_)
     refine .gFs 3 27 true rfl rfl rfl ?_
     refine .z zpF (.z zg (.nil ?_))
     refine .ret (Fin.bw sF rfl ?_)
     first
     |exact ⟨false,rfl,⟨fun h=>(by cases h),fun h=>(by obtain ⟨g1,g2,g3,g4,g5,g6⟩:=h;simp_all;omega)⟩,hs.out⟩
     |exact ⟨false,rfl,⟨fun h=>(by cases h),fun h=>(by obtain ⟨g1,g2,g3,g4,g5,g6⟩:=h;simp_all;done)⟩,hs.out⟩
     |exact ⟨_,rfl,⟨fun h=>⟨by simp_all,by simp_all,by simp_all,by simp_all,by simp_all,(by simpa using h:_∧_).2⟩,fun h=>by have:=h.lo;have:=h.hi;simp;omega⟩,hs.out⟩
   ·refine .gFs 3 15 true rfl rfl rfl ?_
    refine .z zpF (.z zm ?_)
    refine .gFs 5 20 true rfl rfl rfl ?_
    refine .z zpF (.z zm ?_)
    refine .gFs 3 27 true rfl rfl rfl ?_
    refine .z zpF (.z zg (.nil ?_))
    refine .ret (Fin.bw sF rfl ?_)
    first
    |exact ⟨false,rfl,⟨fun h=>(by cases h),fun h=>(by obtain ⟨g1,g2,g3,g4,g5,g6⟩:=h;simp_all;omega)⟩,hs.out⟩
    |exact ⟨false,rfl,⟨fun h=>(by cases h),fun h=>(by obtain ⟨g1,g2,g3,g4,g5,g6⟩:=h;simp_all;done)⟩,hs.out⟩
    |exact ⟨_,rfl,⟨fun h=>⟨by simp_all,by simp_all,by simp_all,by simp_all,by simp_all,(by simpa using h:_∧_).2⟩,fun h=>by have:=h.lo;have:=h.hi;simp;omega⟩,hs.out⟩
  ·refine .gFs 5 8 true rfl rfl rfl ?_
   refine .z zpF (.z zm ?_)
   refine .gFs 3 15 true rfl rfl rfl ?_
   refine .z zpF (.z zm ?_)
   refine .gFs 5 20 true rfl rfl rfl ?_
   refine .z zpF (.z zm ?_)
   refine .gFs 3 27 true rfl rfl rfl ?_
   refine .z zpF (.z zg (.nil ?_))
   refine .ret (Fin.bw sF rfl ?_)
   first
   |exact ⟨false,rfl,⟨fun h=>(by cases h),fun h=>(by obtain ⟨g1,g2,g3,g4,g5,g6⟩:=h;simp_all;omega)⟩,hs.out⟩
   |exact ⟨false,rfl,⟨fun h=>(by cases h),fun h=>(by obtain ⟨g1,g2,g3,g4,g5,g6⟩:=h;simp_all;done)⟩,hs.out⟩
   |exact ⟨_,rfl,⟨fun h=>⟨by simp_all,by simp_all,by simp_all,by simp_all,by simp_all,(by simpa using h:_∧_).2⟩,fun h=>by have:=h.lo;have:=h.hi;simp;omega⟩,hs.out⟩
 ·refine .gFs 3 3 true rfl rfl rfl ?_
  refine .z zpF (.z zm ?_)
  refine .gFs 5 8 true rfl rfl rfl ?_
  refine .z zpF (.z zm ?_)
  refine .gFs 3 15 true rfl rfl rfl ?_
  refine .z zpF (.z zm ?_)
  refine .gFs 5 20 true rfl rfl rfl ?_
  refine .z zpF (.z zm ?_)
  refine .gFs 3 27 true rfl rfl rfl ?_
  refine .z zpF (.z zg (.nil ?_))
  refine .ret (Fin.bw sF rfl ?_)
  first
  |exact ⟨false,rfl,⟨fun h=>(by cases h),fun h=>(by obtain ⟨g1,g2,g3,g4,g5,g6⟩:=h;simp_all;omega)⟩,hs.out⟩
  |exact ⟨false,rfl,⟨fun h=>(by cases h),fun h=>(by obtain ⟨g1,g2,g3,g4,g5,g6⟩:=h;simp_all;done)⟩,hs.out⟩
  |exact ⟨_,rfl,⟨fun h=>⟨by simp_all,by simp_all,by simp_all,by simp_all,by simp_all,(by simpa using h:_∧_).2⟩,fun h=>by have:=h.lo;have:=h.hi;simp;omega⟩,hs.out⟩
theorem k7{s:Spc}{vst vwa:Value}(hs:St H w σ)(h1:RI H vst s.st)(h2:RI H vwa s.wa)(hb:s.st.length≤1000∧s.wa.length≤1000):
  Cl Tryz.prog 196 [.agg #[I s.id,I s.src,vst,vwa,I s.al,I s.up]] w fun v w'=>v=I (s.many:Int)∧St H w' σ:=by
 obtain ⟨ast,cst,rfl⟩:=RI.shape h1
 obtain ⟨awa,cwa,rfl⟩:=RI.shape h2
 have hm:=kv (a:=(s.st.length:Int)) (b:=(s.wa.length:Int)) (A:=1000) (B:=1000) ak ak
 refine Cl.o Tryz.func196 Tryz.ntmps196 ag1 ?_
 refine .ai ?_
 refine .bx hs fun b1 w hs=>?_
 refine .z zg (.nil (.ai (.z (zfa bH) (.y hs (zld an) (.z (cZ ae) (.z (zfa a8) (.y hs (zld an) (.z (cZ ae) (.z kS ?_)))))))))
 refine .z zg (.nil ?_)
 refine .ret (Fin.bw Tryz.results196 rfl ?_)
 exact ⟨by unfold Spc.many;rw [Int.natCast_mul],hs.out⟩
theorem nH{s:Spc}{vst vwa:Value}{a b:Int}(hs:St H w σ)(h2:RI H vwa s.wa)(hb:s.wa.length≤1000)(ha: -1000≤a∧a≤1000)(hb': -1000≤b∧b≤1000):
  Cl Tryz.prog 247 [.agg #[I s.id,I s.src,vst,vwa,I s.al,I s.up],I a,I b] w fun v w'=>v=I (1+a*s.wa.length+b)∧St H w' σ:=by
 obtain ⟨awa,cwa,rfl⟩:=RI.shape h2
 have hm:=kv (a:=a) (b:=(s.wa.length:Int)) (A:=1000) (B:=1000) ak ak
 refine Cl.o Tryz.func247 Tryz.ntmps247 ag3 ?_
 refine .ai ?_
 refine .bx hs fun b3 w hs=>?_
 refine .z zg (.nil (.ai (.z zm (.z (zfa a8) (.y hs (zld an) (.z (cZ ae) (.z kS (.z cf (.z zm ?_)))))))))
 refine .z cf (.z zg (.nil ?_))
 refine .ret (Fin.bw Tryz.results247 rfl ?_)
 exact ⟨rfl,hs.out⟩
theorem ib{r:Rdg}(hs:St H w σ):
  Cl Tryz.prog 241 [.agg #[I r.src,I r.st,I r.wa,I r.val,I r.tol,I r.tape,I r.day]] w fun v w'=>v= .agg #[I r.tape,I r.day]∧St H w' σ:=by
 refine Cl.o Tryz.func241 Tryz.ntmps241 ag1 ?_
 refine .ai ?_
 refine .bx hs fun b1 w hs=>?_
 refine .o (.alloc hs jR rfl fun b2 w hs=>?_)
 refine .nil (.ai (.z (zfa dY) (.y hs (zld af) (.z (zfa dX) (.y hs (zld af) (.z (zbd [_,_] gq) ?_))))))
 refine .o (.aI (vs:=[_,_]) hs rfl rfl bj fun w hs=>?_)
 refine .nil ?_
 refine .ret ?_
 exact Fin.ia [] [] hs fun w hs=>⟨_,results1 Tryz.results241 (di (vs:=[_,_]) hs rfl dv bj),rfl,hs.out⟩
theorem k8{a b:Int}(hs:St H w σ)(ha:0≤a∧a≤100000)(hb:0≤b∧b≤100000):
  Cl Tryz.prog 243 [I a,I b] w fun v w'=>v=I (ju a b)∧St H w' σ:=by
 have hm:=kv (a:=a) (b:=b) (A:=100000) (B:=100000) ak ak
 have h0:=Int.mul_nonneg ha.1 hb.1
 have hq0:0≤(a*b+999).tdiv 1000:=Int.tdiv_nonneg ak ak
 have hq1:(a*b+999).tdiv 1000≤a*b+999:=by rw [Int.tdiv_eq_ediv_of_nonneg ak];omega
 refine Cl.o Tryz.func243 Tryz.ntmps243 ag2 ?_
 refine .ai (.z zg (.nil (.ai (.z zm (.z zm (.z kS (.z cf ?_)))))))
 refine .q hs (xP rfl rfl ak ak) ?_
 refine .z BE (.z zg (.nil ?_))
 refine .ret (Fin.bw Tryz.results243 rfl ?_)
 exact ⟨rfl,hs⟩
def vI(s:Spc):List (List Value):=(List.range s.many).map fun p=>[Value.agg #[I ((p/s.wa.length:Nat):Int),I ((p%s.wa.length:Nat):Int),I ((p+1:Nat):Int)]]
theorem dD(s:Spc):(vI s).length=s.many:=by simp [vI]
theorem lO{s:Spc}{p:Nat}(h:p<(vI s).length):(vI s)[p]=[Value.agg #[I ((p/s.wa.length:Nat):Int),I ((p%s.wa.length:Nat):Int),I ((p+1:Nat):Int)]]:=by simp [vI]
theorem pT{H:bB}{b:Nat}{s:Spc}{vst vwa:Value}(hb:Row H b [I s.id,I s.src,vst,vwa,I s.al,I s.up])(h1:RI H vst s.st)(h2:RI H vwa s.wa)(hbd:s.st.length≤1000∧s.wa.length≤1000):
  Iter Tryz.prog 188 [.pointer (some ⟨b,0,none⟩)] H (vI s):=by
 intro ly II Ix hmI _ hy H0 σb0 σf w hle hI0 hs
 obtain ⟨ast,cst,rfl⟩:=RI.shape h1
 obtain ⟨awa,cwa,rfl⟩:=RI.shape h2
 have g2:cellAt H0 b 2=some (.slice ast s.st.length cst):=cellAt.mono (hb.at 2) hle
 have g3:cellAt H0 b 3=some (.slice awa s.wa.length cwa):=cellAt.mono (hb.at 3) hle
 have hm:s.many≤1000000:=Nat.mul_le_mul hbd.1 hbd.2
 refine Cl.o Tryz.func188 Tryz.ntmps188 ag2 ?_
 refine .ai (.z zg (.nil (.ai (.z (zfa bH) (.y hs (zld an) (.z (cZ ae) (.z zm (.nil ?_))))))))
 refine .for (N:=s.st.length) (J:=fun i fr w=>fr=[(3,I ((i*s.wa.length:Nat):Int)),(0,.func (.yield ly) #[] #[]),(1,.pointer (some ⟨b,0,none⟩))]∧∃H1 σb,HLe H H1∧HLe H0 H1∧II (i*s.wa.length) H1 σb∧St H1 w (σb++σf)) ak ?_ ?_ ?_
 ·exact .mk ⟨by rw [Nat.zero_mul],H0,σb0,hle,HLe.refl _,by rw [Nat.zero_mul];exact hI0,hs⟩
 ·rintro i fr w hi ⟨rfl,H1,σb,hle1,hle0,hI,hs⟩
  have h23:=cellAt.mono g3 hle0
  refine .block (.ai (.z zm (.z zg (.nil (.ai (.z (zfa a8) (.y hs (zld an) (.z (cZ ae) (.z zm ?_)))))))))
  refine .nil ?_
  refine .for (N:=s.wa.length) (J:=fun k fr w=>fr=[(3,I ((i*s.wa.length+k:Nat):Int)),(4,I (i:Int)),(9,I (i:Int)),(8,I (s.st.length:Int)),(0,.func (.yield ly) #[] #[]),(1,.pointer (some ⟨b,0,none⟩))]∧∃H3 σb,HLe H1 H3∧II (i*s.wa.length+k) H3 σb∧St H3 w (σb++σf)) ak ?_ ?_ ?_
  ·exact .mk ⟨rfl,H1,σb,HLe.refl _,hI,hs⟩
  ·rintro k fr w hk ⟨rfl,H3,σb3,hle3,hI3,hs⟩
   obtain ⟨d1,d2⟩:=Gb (nw:=s.wa.length) (i:=i) (k:=k) hk
   have hlt:=JU hi hk
   refine .block (.ai (.z zm (.z zg (.nil (.ai (.z zm (.z cf (.z zg (.nil ?_)))))))))
   refine .ai (.z zm (.z zm (.z zm (.z zm (.z (zbd [_,_,_] qp) ?_)))))
   have hk':i*s.wa.length+k<(vI s).length:=by rw [dD];exact hlt
   have hyd:=hy (i*s.wa.length+k) hk' H3 σb3 σf w (hle1.trans hle3) hI3 hs
   rw [lO hk',d1,d2,show ((i*s.wa.length+k+1:Nat):Int)=((i*s.wa.length+k:Nat):Int)+1 by omega] at hyd
   refine .o (.yield rfl rfl hyd ?_);rintro v25 w ⟨H5,σ5,g1,hs,g3'⟩
   obtain ⟨bb,rfl,gT,gF⟩:=mC g3'
   refine .z gy (.nil ?_)
   refine (.cond rfl (fun hc26=>?_) (fun hc26=>?_))
   ·refine .ret (rB (rT (rB (rB (rT (rB (Fin.Hg Tryz.results188 ?_)))))))
    exact ⟨H5,σ5,hle0.trans (hle3.trans g1),hs,.inr (gF (by simpa using hc26))⟩
   ·refine .skip ?_
    refine nB (nT ?_)
    exact .mk ⟨rfl,H5,σ5,hle3.trans g1,gT (by simpa using hc26),hs⟩
  ·rintro fr w ⟨rfl,H3,σb3,hle3,hI3,hs⟩
   have e:i*s.wa.length+s.wa.length=(i+1)*s.wa.length:=by rw [Nat.add_mul,Nat.one_mul]
   rw [e] at hI3 ⊢
   refine nB (nT ?_)
   exact .mk ⟨rfl,H3,σb3,hle1.trans hle3,hle0.trans hle3,hI3,hs⟩
 ·rintro fr w ⟨rfl,H1,σb,hle1,hle0,hI,hs⟩
  exact Fin.yx Tryz.results188 ⟨H1,σb,hle0,hs,.inl (by rw [dD];exact hI)⟩
theorem eJ{s:Spc}{vst vwa:Value}(hs:St H w σ)(h1:RI H vst s.st)(h2:RI H vwa s.wa)(hbd:s.st.length≤1000∧s.wa.length≤1000):
  Cl Tryz.prog 131 [.agg #[I s.id,I s.src,vst,vwa,I s.al,I s.up]] w fun u w'=>∃H1 b,HLe H H1∧u= .func (.func 188) #[] #[.pointer (some ⟨b,0,none⟩)]∧Iter Tryz.prog 188 [.pointer (some ⟨b,0,none⟩)] H1 (vI s)∧St H1 w' σ:=by
 obtain ⟨ast,cst,rfl⟩:=RI.shape h1
 obtain ⟨awa,cwa,rfl⟩:=RI.shape h2
 refine Cl.o Tryz.func131 Tryz.ntmps131 ag1 ?_
 refine .ai ?_
 refine .bx hs fun b1 w hs=>?_
 refine .z zg (.nil (.ai ?_))
 refine .q hs (cJ (f:=[]) (c:=[_]) rfl rfl) ?_
 refine .z zg (.nil ?_)
 refine .ret (Fin.bw Tryz.results131 rfl ?_)
 obtain ⟨H1,g1,g2,hs⟩:=hs.cg .here
 exact ⟨H1,b1,g1,rfl,pT g2 (h1.mono g1) (h2.mono g1) hbd,hs⟩
set_option maxRecDepth 100000 in
theorem sK:Tryz.prog.stoodInHeld 162=false:=by kernel_rfl
set_option maxRecDepth 100000 in
theorem sL:Tryz.prog.eqGuardType Tryz.prog.depth 162=false:=by kernel_rfl
theorem oL{v:Value}{en:Ent}{xs:List TD}{g:Nat}{cap:List Value}(q:TD→Bool)(hs:St H w (en::σ))(hO:bU 2 v (tdc xs).flatten en)(hl:xs.length≤1000000)(hc:∀args w,(callFunc g args).run Tryz.prog w= .ok (.enter g args) w)
  (hp:∀w (t:TD),St H w (en::σ)→Cl Tryz.prog g ([.agg #[I t.tape,I t.day]]++cap) w fun u w'=>u= .bool (q t)∧St H w' (en::σ)):
  Cl Tryz.prog 276 [v,.func (.func g) #[] cap.toArray] w fun u w'=>∃i:Int,u=I i∧(0≤i↔∃x∈xs,q x=true)∧St H w' (en::σ):=by
 obtain ⟨a,c,rfl⟩:=hO.kX (oG xs) ak
 rw [dJ] at hO ⊢
 refine Cl.o Tryz.func276 Tryz.ntmps276 ag2 ?_
 refine .ai (.z zg (.nil (.seq (.ai (.z zm (.z (cZ aV) (.z zm (.nil ?_))))))))
 refine .for (N:=xs.length) (J:=fun k fr w=>fr=[(1,.func (.func g) #[] cap.toArray),(0,.slice a xs.length c)]∧(∀j<k,∀y,xs[j]? =some y→¬q y=true)∧St H w (en::σ)) ak ?_ ?_ ?_
 ·exact .mk ⟨rfl,fun j hj=>by omega,hs⟩
 ·rintro k fr w hk ⟨rfl,hno,hs⟩
  obtain ⟨x,hx⟩:=nth hk
  obtain ⟨b,c',sp,hv,rfl,_⟩:=hO.Jz (oG xs) ak (by rw [dJ];omega)
  rw [dJ] at hv
  cases hv
  refine .block (.ai (.z zm (.z zg (.nil (.ai (.z zm (.z zm (.z zm (.z (AV aV bj) ?_)))))))))
  refine .q hs (jZ (vs:=x.c) rfl dv bj .here (Ct (oG xs) (BW hx) sp)) ?_
  refine .o (.nO (first:=[]) (cap:=cap) rfl rfl hc (hp _ x hs) ?_);rintro _ w ⟨rfl,hs⟩
  refine .nil ?_
  refine (.cond rfl (fun hc16=>?_) (fun hc16=>?_))
  ·refine .ai (.z zm (.z zg (.nil ?_)))
   refine .ret (rB (rT (rB (rT (Fin.bw Tryz.results276 rfl ?_)))))
   exact ⟨_,rfl,⟨fun _=>⟨x,List.mem_of_getElem? hx,hc16⟩,fun _=>by omega⟩,hs⟩
  ·refine .skip ?_
   refine nB (nT ?_)
   exact .mk ⟨rfl,eK hno hx (by simpa using hc16),hs⟩
 ·rintro fr w ⟨rfl,hno,hs⟩
  refine nT ?_
  refine .ai (.z zg (.nil ?_))
  refine .ret (Fin.bw Tryz.results276 rfl ?_)
  exact ⟨_,rfl,⟨fun h=>by omega,fun ⟨x,h1,h2⟩=>by
   obtain ⟨j,hj⟩:=List.getElem?_of_mem h1
   exact (hno j (List.getElem?_eq_some_iff.1 hj).1 x hj h2).elim⟩,hs⟩
theorem mg{v:Value}{en:Ent}{xs:List TD}{g:Nat}{cap:List Value}(q:TD→Bool)(hs:St H w (en::σ))(hO:bU 2 v (tdc xs).flatten en)(hl:xs.length≤1000000)(hc:∀args w,(callFunc g args).run Tryz.prog w= .ok (.enter g args) w)
  (hp:∀w (t:TD),St H w (en::σ)→Cl Tryz.prog g ([.agg #[I t.tape,I t.day]]++cap) w fun u w'=>u= .bool (q t)∧St H w' (en::σ)):
  Cl Tryz.prog 239 [v,.func (.func g) #[] cap.toArray] w fun u w'=>∃b:Bool,u= .bool b∧(b=true↔∃x∈xs,q x=true)∧St H w' (en::σ):=by
 refine Cl.o Tryz.func239 Tryz.ntmps239 ag2 ?_
 refine .ai (.z zg (.nil (.ai (.z zm (.z zm ?_)))))
 refine .o (.call Tryz.call276 rfl (oL q hs hO hl hc hp) ?_);rintro _ w ⟨i,rfl,hi,hs⟩
 refine .z y7 (.z zg (.nil ?_))
 refine .ret (Fin.bw Tryz.results239 rfl ?_)
 exact ⟨_,rfl,by simp only [decide_eq_true_eq];exact hi,hs⟩
theorem ti{v:Value}{xs:List TD}{t:TD}(hs:St H w σ)(hr:RTd H v xs)(hl:xs.length≤1000000):
  Cl Tryz.prog 246 [v,.agg #[I t.tape,I t.day]] w fun u w'=>u=I (iU xs t)∧St H w' σ:=by
 obtain ⟨a,c,rfl⟩:=RTd.shape hr
 refine Cl.o Tryz.func246 Tryz.ntmps246 ag2 ?_
 refine .ai ?_
 refine .bx hs fun b3 w hs=>?_
 refine .z zg (.nil (.seq (.ai (.z zm (.z (cZ aV) (.z zm (.nil ?_)))))))
 refine .for (N:=xs.length) (J:=fun k fr w=>fr=[(0,.slice a xs.length c),(3,.pointer (some ⟨b3,0,none⟩))]∧(∀j<k,∀y,xs[j]? =some y→¬y=t)∧St H w (.blk b3 [I t.tape,I t.day]::σ)) ak ?_ ?_ ?_
 ·exact .mk ⟨rfl,fun j hj=>by omega,hs⟩
 ·rintro k fr w hk ⟨rfl,hno,hs⟩
  obtain ⟨x,hx⟩:=nth hk
  refine .block (.ai (.z zm (.z zg (.nil ?_))))
  refine .seq (.draw mix rfl hs fun w hs=>?_)
  refine .ys 0 rfl hs [_,_] dv bj ?_;refine .z 1 rfl zm ?_;refine .z 2 rfl zm ?_
  refine .ixX (enc:=TD.c) (i:=3) hs rfl aq .none hr rfl rfl aV bj hx dn ?_;intro b14 o14 hc14
  refine .r (i:=4) hs rfl aq .none (bK (vs:=x.c) rfl dv bj hc14) ?_
  refine .z 5 rfl (xR sK sL gz (fun f hf=>by
   simp only [List.mem_cons,List.not_mem_nil,or_false] at hf
   rcases hf with rfl|rfl<;>exact ⟨by decide,aS,af⟩) rfl rfl) ?_
  refine .D hs ?_
  refine (.cond rfl (fun hc16=>?_) (fun hc16=>?_))
  ·refine .ai (.z zm (.z zg (.nil ?_)))
   refine .ret (rB (rT (rB (rT (Fin.bw Tryz.results246 rfl ?_)))))
   have e:x=t:=D5.1 (by have:=of_decide_eq_true hc16;exact ⟨this.1.symm,this.2.symm⟩)
   subst e
   exact ⟨by rw [pG hx fun j hj h=>hno j hj _ h rfl],hs.tail⟩
  ·refine .skip ?_
   refine nB (nT ?_)
   exact .mk ⟨rfl,eK hno hx (fun e=>by subst e;simp at hc16),hs⟩
 ·rintro fr w ⟨rfl,hno,hs⟩
  refine nT ?_
  refine .ai (.z zg (.nil ?_))
  refine .ret (Fin.bw Tryz.results246 rfl ?_)
  exact ⟨by rw [wb hno],hs.tail⟩
theorem nI{t:TD}{r:Rdg}{b:Nat}(hs:St H w σ)(hb:Row H b r.c):
  Cl Tryz.prog 240 [.agg #[I t.tape,I t.day],.pointer (some ⟨b,0,none⟩)] w fun u w'=>u= .bool (decide (t=r.td))∧St H w' σ:=by
 have hb0:bO H b 0 r.c:=hb.cells 0 r.c
 refine Cl.o Tryz.func240 Tryz.ntmps240 ag2 ?_
 refine .ai ?_
 refine .bx hs fun b2 w hs=>?_
 refine .z zg (.nil ?_)
 refine .seq (.draw mix rfl hs fun w hs=>?_)
 refine .ys 0 rfl hs [_,_] dv bj ?_;refine .ys 1 rfl hs [_,_,_,_,_,_,_] fS aW ?_
 refine .E 2 hs ?_
 refine .call Tryz.call241 rfl (ib hs) ?_;rintro _ w ⟨rfl,hs⟩
 refine .go ?_
 refine .z 3 rfl (xR sK sL gz (fun f hf=>by
  simp only [List.mem_cons,List.not_mem_nil,or_false] at hf
  rcases hf with rfl|rfl<;>exact ⟨by decide,aS,af⟩) rfl rfl) ?_
 refine .z 4 rfl zg ?_;refine .D hs ?_
 refine .ret (Fin.bw Tryz.results240 rfl ?_)
 exact ⟨by congr 1;rw [decide_eq_decide];exact D5 (t:=t) (u:=r.td),hs.tail⟩
set_option maxHeartbeats 1000000 in
theorem qX{s:Srv}{vst vwa vr vc:Value}(hs:St H w σ)(hr:RRd H vr s.rs)(hl:s.rs.length≤1000000):
  Cl Tryz.prog 189 [.agg #[I s.sp.id,I s.sp.src,vst,vwa,I s.sp.al,I s.sp.up,vr,vc]] w fun u w'=>∃H1 en,HLe H H1∧bU 2 u (tdc s.bq).flatten en∧St H1 w' (en::σ):=by
 obtain ⟨ar,cr,rfl⟩:=RRd.shape hr
 refine Cl.o Tryz.func189 Tryz.ntmps189 ag1 ?_
 refine .ai ?_
 refine .bx hs fun b1 w hs=>?_
 refine .z zg (.nil (.ai (.z zg (.nil (.seq (.ai (.z (zfa br) (.y hs (zld cS) (.z (cZ aN) ?_)))))))))
 refine .z zm (.nil ?_)
 refine .for (N:=s.rs.length) (J:=fun k fr w=>∃vo en H1,fr=[(7,.slice ar s.rs.length cr),(3,vo)]∧HLe H H1∧bU 2 vo (tdc (aK (s.rs.take k))).flatten en∧St H1 w (en::σ)) ak ?_ ?_ ?_
 ·exact .mk ⟨_,.nul,H,rfl,HLe.refl _,.nil 2 none,hs.tail.nul⟩
 ·rintro k fr w hk ⟨vo,en,H1,rfl,hle1,hO,hs⟩
  obtain ⟨r,hx⟩:=nth hk
  have htk:=iq hx
  have htl:=jX s.rs k ak
  obtain ⟨ao,co,rfl⟩:=hO.kX (oG _) ak
  rw [dJ] at hO ⊢
  refine .block (.ai ?_)
  refine .ixX (enc:=Rdg.c) hs (hr.mono hle1) rfl rfl aN aW hx dn ?_;intro b11 o11 hc11
  refine .q hs (bK (vs:=(Rdg.c r)) rfl fS aW hc11) ?_
  refine .o (.alloc hs fD rfl fun b5 w hs=>?_)
  refine .o (.aI (vs:=r.c) hs rfl rfl aW fun w hs=>?_)
  obtain ⟨H2,hle2,r5,hs⟩:=hs.cg (b:=b5) (c:=r.c) .here
  have c5:bO H2 b5 0 r.c:=r5.cells 0 r.c
  refine .nil (.ai (.z zm ?_))
  refine .q hs (cJ (f:=[]) (c:=[_]) rfl rfl) ?_
  refine .o (.call Tryz.call239 rfl (mg (g:=240) (cap:=[.pointer (some ⟨b5,0,none⟩)]) (fun t=>decide (t=r.td)) hs hO ak Tryz.call240 (fun w t hs=>nI hs r5)) ?_);rintro _ w ⟨b15,rfl,hb15,hs⟩
  refine .z gy (.nil ?_)
  refine (.cond rfl (fun hc16=>?_) (fun hc16=>?_))
  ·refine .region (.z zm ?_)
   refine .q hs (bK (vs:=r.c) rfl fS aW c5) ?_
   refine .o (.call Tryz.call241 rfl (ib (r:=r) hs) ?_);rintro _ w ⟨rfl,hs⟩
   refine .o (.buildSlice (cells:=[_,_]) hs gK rfl rfl fun b20 w hs=>?_)
   refine .o (.append (ys:=r.td.c) hs dQ rfl rfl hO (.own .here rfl rfl) (by simp [TD.c,Value.oneCell']) (fun l h=>by rw [cK _ (oG _),dJ] at h;omega) ?_);intro v21 en21 w hO2 hs
   refine .z zg (.nil ?_)
   refine nB (nT ?_)
   have hn:r.td∉aK (s.rs.take k):=fun hm=>by
    rw [hb15.2 ⟨_,hm,bV⟩] at hc16;cases hc16
   rw [←vZ,show aK (s.rs.take k)++[r.td]=aK (s.rs.take (k+1)) by rw [htk];unfold nS;rw [if_neg hn]] at hO2
   exact .mk ⟨_,_,H2,rfl,hle1.trans hle2,hO2,hs.sb⟩
  ·refine .skip ?_
   refine nB (nT ?_)
   have hm:r.td∈aK (s.rs.take k):=by
    obtain ⟨x,h1,h2⟩:=hb15.1 (by simpa using hc16)
    rw [←of_decide_eq_true h2];exact h1
   exact .mk ⟨_,_,H2,rfl,hle1.trans hle2,by rw [htk];unfold nS;rw [if_pos hm];exact hO,hs⟩
 ·rintro fr w ⟨vo,en,H1,rfl,hle1,hO,hs⟩
  rw [List.take_length] at hO
  refine nT ?_
  refine .ai (.z zm (.z zg (.nil ?_)))
  refine .ret (Fin.bw Tryz.results189 rfl ?_)
  exact ⟨H1,en,hle1,hO,hs⟩
theorem pQ{s:Srv}{vst vwa vr vc:Value}(hs:St H w σ)(hr:RRd H vr s.rs)(hl:s.rs.length≤1000000):
  Cl Tryz.prog 189 [.agg #[I s.sp.id,I s.sp.src,vst,vwa,I s.sp.al,I s.sp.up,vr,vc]] w fun u w'=>∃H1,HLe H H1∧RTd H1 u s.bq∧St H1 w' σ:=by
 refine (qX hs hr hl).mono ?_
 rintro u w' ⟨H1,en,hle1,hO,hs⟩
 have htl:=dc s.rs
 have htl':s.bq.length≤1000000:=by unfold Srv.bq;omega
 obtain ⟨H2,hle2,hR,hs⟩:=bU.cg (m:=2) hO (oG _) ak (by rw [dJ];omega) hs .here
 exact ⟨H2,hle1.trans hle2,hR,hs⟩
theorem fL{x0 x1 x2 x3 x4 x5 x6 x7 x8 vl:Value}{en:Ent}{bm:Nat}{ls:List Lim}{a b hi lo by_:Int}(hs:St H w (.blk bm [x0,x1,x2,x3,x4,x5,x6,x7,x8,vl]::en::σ))(hO:bU 4 vl (fK ls) en)(hl:ls.length≤100000):
  Cl Tryz.prog 242 [.pointer (some ⟨bm,0,none⟩),I a,I b,I hi,I lo,I by_] w fun _ w'=>∃vl' en',bU 4 vl' (fK (ls++two a b hi lo by_)) en'∧St H w' (.blk bm [x0,x1,x2,x3,x4,x5,x6,x7,x8,vl']::en'::σ):=by
 obtain ⟨al,ll,cl,rfl,h⟩:=hO.shape
 refine Cl.of Tryz.func242 rfl Tryz.ntmps242 bV (du (k:=0) rfl (du (k:=1) rfl (du (k:=2) rfl (du (k:=3) rfl (du (k:=4) rfl (du (k:=5) rfl (w7))))))) ?_
 refine .region (.z zm (.z zm (.z znc (.z (zfa iD) (.y hs (zld cu) (.z zm (.z zm (.z zm (.z zm ?_)))))))))
 refine .z (zbd [_,_,_,_] dO) (.z zm (.z zm (.z zm (.z zm (.z (zbd [_,_,_,_] dO) ?_)))))
 refine .o (.buildSlice (cells:=fK (two a b hi lo by_)) hs eP rfl aq fun b27 w hs=>?_)
 refine .o (.append (ys:=fK (two a b hi lo by_)) hs bP rfl rfl hO (.own .here rfl rfl) (kc _) (fun l h=>by rw [eb] at h;omega) ?_);intro v28 en28 w hO2 hs
 rw [←gx] at hO2
 obtain ⟨a28,l28,c28,rfl,h28⟩:=hO2.shape
 refine .z znc (.z (zfa iD) ?_)
 refine .o (.store hs rfl rfl nY fun w hs=>?_)
 refine .nil ?_
 exact Fin.yx Tryz.results242 ⟨_,_,hO2,hs.sb⟩
theorem j6{s:Spc}{vst vwa x6 x7 x8 vl:Value}{bm:Nat}{j:Int}(hs:St H w σ)(hm:Mem σ (.blk bm [I s.id,I s.src,vst,vwa,I s.al,I s.up,x6,x7,x8,vl]))(h1:RI H vst s.st)(h2:RI H vwa s.wa)(hb:s.st.length≤1000∧s.wa.length≤1000)(hj: -1≤j∧j≤1000):
  Cl Tryz.prog 244 [.pointer (some ⟨bm,0,none⟩),I j] w fun u w'=>u=I ((s.many:Int)+1+j)∧St H w' σ:=by
 have hmm:s.many≤1000000:=Nat.mul_le_mul hb.1 hb.2
 refine Cl.o Tryz.func244 Tryz.ntmps244 ag2 ?_
 refine .ai (.z zg (.nil (.ai (.z zm (.z znc (.z (zfa cV) (.z (zfa bC) ?_)))))))
 refine .q hs (jZ (vs:=[I s.id,I s.src,vst,vwa,I s.al,I s.up]) rfl aT aF hm) ?_
 refine .o (.call Tryz.call196 rfl (k7 (s:=s) hs h1 h2 hb) ?_);rintro _ w ⟨rfl,hs⟩
 refine .z cf (.z zm (.z cf (.z zg (.nil ?_))))
 refine .ret (Fin.bw Tryz.results244 rfl ?_)
 exact ⟨rfl,hs⟩
theorem eL{s:Spc}(h:dP s):s.st.length≤1000∧s.wa.length≤1000∧0<s.wa.length∧s.many≤63:=by
 have h1:=h.st.many;have h2:=h.wa.many;have h3:=h.wa.two
 have:s.many≤9*7:=Nat.mul_le_mul h1 h2
 omega
theorem o6{s:Srv}{ts:List TD}{vst vwa vr vc vt vl:Value}{en:Ent}{bm:Nat}{ls:List Lim}(hs:St H w (.blk bm [I s.sp.id,I s.sp.src,vst,vwa,I s.sp.al,I s.sp.up,vr,vc,vt,vl]::en::σ))(hk:MkK H s ts vst vwa vr vc vt)(hO:bU 4 vl (fK ls) en)(hl:ls.length≤10000)(hok:dP s.sp):
  Cl Tryz.prog 190 [.pointer (some ⟨bm,0,none⟩)] w fun _ w'=>∃H1 vl' en',HLe H H1∧bU 4 vl' (fK (ls++dG (qh s.sp) s.sp.wa.length s.sp.st.length)) en'∧St H1 w' (.blk bm [I s.sp.id,I s.sp.src,vst,vwa,I s.sp.al,I s.sp.up,vr,vc,vt,vl']::en'::σ):=by
 have hsm:=eL hok
 refine Cl.o Tryz.func190 Tryz.ntmps190 ag1 ?_
 refine .ai ?_
 refine .bx hs fun b1 w hs=>?_
 refine .nil (.ai (.y hs (zld qD) (.z znc (.z (zfa cV) (.z (zfa bC) (.y hs (zls [_,_,_,_,_,_] aT aF) ?_))))))
 refine .o (.call BD rfl (eJ (s:=s.sp) hs hk.st hk.wa ⟨ak,ak⟩) ?_);rintro _ w ⟨H1,ba,hle1,rfl,hit,hs⟩
 refine .nil (.block ?_)
 refine .rangeFunc (gf:=188) (cap:=[.pointer (some ⟨ba,0,none⟩)]) (xs:=vI s.sp) (σb:=[.blk bm [I s.sp.id,I s.sp.src,vst,vwa,I s.sp.al,I s.sp.up,vr,vc,vt,vl],en,.blk b1 [.pointer (some ⟨bm,0,none⟩)]]) (σf:=σ) (hs.sb) trivial rfl hit BC (fun x hx=>by
   simp only [vI,List.mem_map] at hx
   obtain ⟨j,_,rfl⟩:=hx;rfl) rfl
  (I:=fun p H' σb=>∃vl en,σb=[.blk bm [I s.sp.id,I s.sp.src,vst,vwa,I s.sp.al,I s.sp.up,vr,vc,vt,vl],en,.blk b1 [.pointer (some ⟨bm,0,none⟩)]]∧bU 4 vl (fK (ls++pY (qh s.sp) s.sp.wa.length p)) en) (Ix:=fun _ _ _=>False)
  (fun j _ _ σ g1 g2=>g2) (fun _ _ _ _ _ h=>h) ⟨vl,en,rfl,by rw [nu,List.append_nil];exact hO⟩ ?_ ?_ (fun D c H' σb w _ h _=>h.elim)
 ·rintro ly p hp H2 σb2 σf2 w hle2 ⟨vl,en,rfl,hO⟩ hs ⟨rr,hrr⟩
  have hpm:p<s.sp.many:=by rw [dD] at hp;exact hp
  have hsucc:=nv (qh s.sp) (p:=p) hsm.2.2.1
  have hpl:=je (lI s.sp) hsm.2.2.1 p
  have hin:p/s.sp.wa.length<s.sp.st.length:=Nat.div_lt_of_lt_mul (by rw [Nat.mul_comm];exact hpm)
  have hkm:=Nat.mod_lt p hsm.2.2.1
  have hdm:=Nat.div_add_mod p s.sp.wa.length
  rw [Nat.mul_comm] at hdm
  have hu:(s.sp.u (p/s.sp.wa.length) (p%s.sp.wa.length):Int)=(p:Int)+1:=by unfold Spc.u;omega
  rw [lO hp]
  obtain ⟨al,ll,cl,rfl,hll⟩:=hO.shape
  generalize p/s.sp.wa.length=i at*
  generalize p%s.sp.wa.length=k at*
  have hk2:=hk.mono (hle1.trans hle2)
  refine .region ?_
  refine .o (.alloc hs jQ rfl fun b2 w hs=>?_)
  refine .o (.aI (vs:=[_,_,_]) hs rfl rfl nX fun w hs=>?_)
  refine .nil ?_
  refine nT ?_
  refine ⟨H2,[.blk b2 [I (i:Int),I (k:Int),I ((p+1:Nat):Int)],.blk bm [I s.sp.id,I s.sp.src,vst,vwa,I s.sp.al,I s.sp.up,vr,vc,vt,.slice al ll cl],en,.blk b1 [.pointer (some ⟨bm,0,none⟩)]],HLe.refl _,hs,?_⟩;rintro w σf4 - hs
  refine .block ?_
  refine .draw mix rfl hs fun w hs=>?_
  refine .y 0 rfl hs qD ?_;refine .z 1 rfl (zfa dL) ?_;refine .y 2 rfl hs af ?_;refine .y 3 rfl hs qD ?_;refine .z 4 rfl znc ?_;refine .z 5 rfl (zfa cV) ?_;refine .z 6 rfl (zfa bC) ?_;refine .z 7 rfl (zfa dB) ?_;refine .y 8 rfl hs af ?_
  refine .E 9 hs ?_
  refine .call Bz rfl (fL (ls:=ls++pY (qh s.sp) s.sp.wa.length p) (hs.sb:St H2 w (.blk bm _::en:: .blk b1 _::σf4)) hO (by rw [List.length_append];omega)) ?_;rintro _ w ⟨vl3,en3,hO3,hs⟩
  rw [show two 0 ((p+1:Nat):Int) 20000 0 s.sp.src=qh s.sp i k by unfold qh;rw [hu];rfl,List.append_assoc,←hsucc] at hO3
  refine .go ?_
  refine .D hs ?_
  refine nB ?_
  exact ⟨H2,_,HLe.refl _,hs,_,_,rfl,hO3⟩
 ·rintro D H2 σb2 w hle2 ⟨vl,en,rfl,hO⟩ hs
  rw [dD,show s.sp.many=s.sp.st.length*s.sp.wa.length from rfl,pX _ hsm.2.2.1] at hO
  refine nB ?_
  exact Fin.I0 [D] [] hs fun w hs=>⟨_,results0 Tryz.results190,H2,vl,en,hle1.trans hle2,hO,(hs.sb:St H2 w (.blk bm _::en::σ))⟩
theorem sq{s:Srv}{ts:List TD}{vst vwa vr vc vt vl:Value}{en:Ent}{bm:Nat}{ls:List Lim}(hs:St H w (.blk bm [I s.sp.id,I s.sp.src,vst,vwa,I s.sp.al,I s.sp.up,vr,vc,vt,vl]::en::σ))(hk:MkK H s ts vst vwa vr vc vt)(hO:bU 4 vl (fK ls) en)(hl:ls.length≤10000)(hok:dP s.sp):
  Cl Tryz.prog 191 [.pointer (some ⟨bm,0,none⟩)] w fun _ w'=>∃H1 vl' en',HLe H H1∧bU 4 vl' (fK (ls++dG (alL s.sp) s.sp.wa.length s.sp.st.length)) en'∧St H1 w' (.blk bm [I s.sp.id,I s.sp.src,vst,vwa,I s.sp.al,I s.sp.up,vr,vc,vt,vl']::en'::σ):=by
 have hsm:=eL hok
 obtain ⟨ast,cst,rfl⟩:=RI.shape hk.st
 obtain ⟨awa,cwa,rfl⟩:=RI.shape hk.wa
 refine Cl.o Tryz.func191 Tryz.ntmps191 ag1 ?_
 refine .ai ?_
 refine .bx hs fun b1 w hs=>?_
 refine .nil (.ai (.y hs (zld qD) (.z znc (.z (zfa cV) (.z (zfa bC) (.y hs (zls [_,_,_,_,_,_] aT aF) ?_))))))
 refine .o (.alloc hs iO rfl fun b2 w hs=>?_)
 refine .o (.aI (vs:=[_,_,_,_,_,_]) hs rfl rfl aF fun w hs=>?_)
 refine .nil (.ai (.y hs (zls [_,_,_,_,_,_] aT aF) ?_))
 refine .o (.call BD rfl (eJ (s:=s.sp) hs hk.st hk.wa ⟨ak,ak⟩) ?_);rintro _ w ⟨H1,ba,hle1,rfl,hit,hs⟩
 refine .nil (.block ?_)
 refine .rangeFunc (gf:=188) (cap:=[.pointer (some ⟨ba,0,none⟩)]) (xs:=vI s.sp) (σb:=[.blk bm [I s.sp.id,I s.sp.src,.slice ast s.sp.st.length cst,.slice awa s.sp.wa.length cwa,I s.sp.al,I s.sp.up,vr,vc,vt,vl],en,.blk b1 [.pointer (some ⟨bm,0,none⟩)],.blk b2 [I s.sp.id,I s.sp.src,.slice ast s.sp.st.length cst,.slice awa s.sp.wa.length cwa,I s.sp.al,I s.sp.up]]) (σf:=σ) (hs.sb) trivial rfl hit BC (fun x hx=>by
   simp only [vI,List.mem_map] at hx
   obtain ⟨j,_,rfl⟩:=hx;rfl) rfl
  (I:=fun p H' σb=>∃vl en,σb=[.blk bm [I s.sp.id,I s.sp.src,.slice ast s.sp.st.length cst,.slice awa s.sp.wa.length cwa,I s.sp.al,I s.sp.up,vr,vc,vt,vl],en,.blk b1 [.pointer (some ⟨bm,0,none⟩)],.blk b2 [I s.sp.id,I s.sp.src,.slice ast s.sp.st.length cst,.slice awa s.sp.wa.length cwa,I s.sp.al,I s.sp.up]]∧bU 4 vl (fK (ls++pY (alL s.sp) s.sp.wa.length p)) en) (Ix:=fun _ _ _=>False)
  (fun j _ _ σ g1 g2=>g2) (fun _ _ _ _ _ h=>h) ⟨vl,en,rfl,by rw [nu,List.append_nil];exact hO⟩ ?_ ?_ (fun D c H' σb w _ h _=>h.elim)
 ·rintro ly p hp H2 σb2 σf2 w hle2 ⟨vl,en,rfl,hO⟩ hs ⟨rr,hrr⟩
  have hpm:p<s.sp.many:=by rw [dD] at hp;exact hp
  have hsucc:=nv (alL s.sp) (p:=p) hsm.2.2.1
  have hpl:=je (pn s.sp) hsm.2.2.1 p
  have hin:p/s.sp.wa.length<s.sp.st.length:=Nat.div_lt_of_lt_mul (by rw [Nat.mul_comm];exact hpm)
  have hkm:=Nat.mod_lt p hsm.2.2.1
  have hdm:=Nat.div_add_mod p s.sp.wa.length
  rw [Nat.mul_comm] at hdm
  have hu:(s.sp.u (p/s.sp.wa.length) (p%s.sp.wa.length):Int)=(p:Int)+1:=by unfold Spc.u;omega
  rw [lO hp]
  obtain ⟨al,ll,cl,rfl,hll⟩:=hO.shape
  generalize p/s.sp.wa.length=i at*
  generalize p%s.sp.wa.length=k at*
  have hk2:=hk.mono (hle1.trans hle2)
  refine .region ?_
  refine .o (.alloc hs jQ rfl fun b3 w hs=>?_)
  refine .o (.aI (vs:=[_,_,_]) hs rfl rfl nX fun w hs=>?_)
  refine .nil ?_
  refine nT ?_
  refine ⟨H2,[.blk b3 [I (i:Int),I (k:Int),I ((p+1:Nat):Int)],.blk bm [I s.sp.id,I s.sp.src,.slice ast s.sp.st.length cst,.slice awa s.sp.wa.length cwa,I s.sp.al,I s.sp.up,vr,vc,vt,.slice al ll cl],en,.blk b1 [.pointer (some ⟨bm,0,none⟩)],.blk b2 [I s.sp.id,I s.sp.src,.slice ast s.sp.st.length cst,.slice awa s.sp.wa.length cwa,I s.sp.al,I s.sp.up]],HLe.refl _,hs,?_⟩;rintro w σf4 - hs
  refine .block (.ai (.z (zfa cM) (.y hs (zld af) (.z cf (.z (zfa bH) (.y hs (zld an) (.z (cZ ae) (.z iM (.nil ?_)))))))))
  refine (.bT rfl (fun hc19=>?_) (fun hc19=>?_))
  ·refine .seq (.draw mix rfl hs fun w hs=>?_)
   refine .z 0 rfl (zfa eU) ?_;refine .z 1 rfl (zfa lG) ?_;refine .y 2 rfl hs af ?_;refine .z 3 rfl (zfa bH) ?_;refine .y 4 rfl hs an ?_;refine .z 5 rfl (zfa cM) ?_;refine .y 6 rfl hs af ?_;refine .z 7 rfl cf ?_
   have hris:=hok.st.rise i ak
   have hq0:=hok.st.bd (i:=i) ak
   have hq1:=hok.st.bd (i:=i+1) ak
   have hal:=hok.al
   refine .ixX (enc:=fun x=>[I x]) (i:=8) hs rfl aq .none hk2.st rfl rfl ae aj (bF (l:=s.sp.st) (i:=(i+1)) ak) dn ?_;intro b28 o28 hc28;replace hc28:=bO.one hc28
   refine .r (i:=9) hs rfl aq .none (aR rfl af hc28) ?_
   refine .z 10 rfl (zfa bH) ?_;refine .y 11 rfl hs an ?_;refine .z 12 rfl (zfa cM) ?_;refine .y 13 rfl hs af ?_
   refine .ixX (enc:=fun x=>[I x]) (i:=14) hs rfl aq .none hk2.st rfl rfl ae aj (bF (l:=s.sp.st) (i:=i) ak) dn ?_;intro b34 o34 hc34;replace hc34:=bO.one hc34
   refine .r (i:=15) hs rfl aq .none (aR rfl af hc34) ?_
   refine .z 16 rfl gZ ?_
   refine .E 17 hs ?_
   refine .call Tryz.call243 rfl (k8 hs ak ak) ?_;rintro _ w ⟨rfl,hs⟩
   refine .go ?_
   refine .z 18 rfl zg ?_;refine .D hs ?_
   refine .region (.y hs (zld qD) (.z (zfa dL) (.y hs (zld af) (.z (zfa dL) (.y hs (zld af) (.z (zfa a8) (.y hs (zld an) (.z (cZ ae) (.z cf ?_)))))))))
   refine .z zm (.z zm (.z (zfa dB) (.y hs (zld af) ?_)))
   refine .o (.call Bz rfl (fL (ls:=ls++pY (alL s.sp) s.sp.wa.length p) (hs.sb:St H2 w (.blk bm _::en:: .blk b1 _:: .blk b2 _::σf4)) hO (by rw [List.length_append];omega)) ?_);rintro _ w ⟨vl3,en3,hO3,hs⟩
   have hu2:(s.sp.u (i+1) k:Int)=((p+1:Nat):Int)+(s.sp.wa.length:Int):=by unfold Spc.u at hu ⊢;rw [Nat.add_mul];omega
   rw [show two ((p+1:Nat):Int) (((p+1:Nat):Int)+(s.sp.wa.length:Int)) (ju s.sp.al (gi s.sp.st (i+1) - gi s.sp.st i)) (ju s.sp.al (gi s.sp.st (i+1) - gi s.sp.st i)) s.sp.src=alL s.sp i k by unfold alL;rw [if_pos ak,hu,hu2];rfl,List.append_assoc,←hsucc] at hO3
   refine .nil ?_
   refine nB ?_
   exact ⟨H2,_,HLe.refl _,hs,_,_,rfl,hO3⟩
  ·refine .skip ?_
   refine nB ?_
   rw [show alL s.sp i k=[] by unfold alL;rw [if_neg ak],List.append_nil] at hsucc
   exact ⟨H2,_,HLe.refl _,(hs.sb:St H2 w (.blk bm _::en:: .blk b1 _:: .blk b2 _::σf4)),_,_,rfl,by rw [hsucc];exact hO⟩
 ·rintro D H2 σb2 w hle2 ⟨vl,en,rfl,hO⟩ hs
  rw [dD,show s.sp.many=s.sp.st.length*s.sp.wa.length from rfl,pX _ hsm.2.2.1] at hO
  refine nB ?_
  exact Fin.I0 [D] [] hs fun w hs=>⟨_,results0 Tryz.results191,H2,vl,en,hle1.trans hle2,hO,(hs.sb:St H2 w (.blk bm _::en::σ))⟩
theorem wF{s:Srv}{ts:List TD}{vst vwa vr vc vt vl:Value}{en:Ent}{bm:Nat}{ls:List Lim}(hs:St H w (.blk bm [I s.sp.id,I s.sp.src,vst,vwa,I s.sp.al,I s.sp.up,vr,vc,vt,vl]::en::σ))(hk:MkK H s ts vst vwa vr vc vt)(hO:bU 4 vl (fK ls) en)(hl:ls.length≤10000)(hok:dP s.sp):
  Cl Tryz.prog 192 [.pointer (some ⟨bm,0,none⟩)] w fun _ w'=>∃H1 vl' en',HLe H H1∧bU 4 vl' (fK (ls++dG (upL s.sp) s.sp.wa.length s.sp.st.length)) en'∧St H1 w' (.blk bm [I s.sp.id,I s.sp.src,vst,vwa,I s.sp.al,I s.sp.up,vr,vc,vt,vl']::en'::σ):=by
 have hsm:=eL hok
 obtain ⟨ast,cst,rfl⟩:=RI.shape hk.st
 obtain ⟨awa,cwa,rfl⟩:=RI.shape hk.wa
 refine Cl.o Tryz.func192 Tryz.ntmps192 ag1 ?_
 refine .ai ?_
 refine .bx hs fun b1 w hs=>?_
 refine .nil (.ai (.y hs (zld qD) (.z znc (.z (zfa cV) (.z (zfa bC) (.y hs (zls [_,_,_,_,_,_] aT aF) ?_))))))
 refine .o (.alloc hs iO rfl fun b2 w hs=>?_)
 refine .o (.aI (vs:=[_,_,_,_,_,_]) hs rfl rfl aF fun w hs=>?_)
 refine .nil (.ai (.y hs (zls [_,_,_,_,_,_] aT aF) ?_))
 refine .o (.call BD rfl (eJ (s:=s.sp) hs hk.st hk.wa ⟨ak,ak⟩) ?_);rintro _ w ⟨H1,ba,hle1,rfl,hit,hs⟩
 refine .nil (.block ?_)
 refine .rangeFunc (gf:=188) (cap:=[.pointer (some ⟨ba,0,none⟩)]) (xs:=vI s.sp) (σb:=[.blk bm [I s.sp.id,I s.sp.src,.slice ast s.sp.st.length cst,.slice awa s.sp.wa.length cwa,I s.sp.al,I s.sp.up,vr,vc,vt,vl],en,.blk b1 [.pointer (some ⟨bm,0,none⟩)],.blk b2 [I s.sp.id,I s.sp.src,.slice ast s.sp.st.length cst,.slice awa s.sp.wa.length cwa,I s.sp.al,I s.sp.up]]) (σf:=σ) (hs.sb) trivial rfl hit BC (fun x hx=>by
   simp only [vI,List.mem_map] at hx
   obtain ⟨j,_,rfl⟩:=hx;rfl) rfl
  (I:=fun p H' σb=>∃vl en,σb=[.blk bm [I s.sp.id,I s.sp.src,.slice ast s.sp.st.length cst,.slice awa s.sp.wa.length cwa,I s.sp.al,I s.sp.up,vr,vc,vt,vl],en,.blk b1 [.pointer (some ⟨bm,0,none⟩)],.blk b2 [I s.sp.id,I s.sp.src,.slice ast s.sp.st.length cst,.slice awa s.sp.wa.length cwa,I s.sp.al,I s.sp.up]]∧bU 4 vl (fK (ls++pY (upL s.sp) s.sp.wa.length p)) en) (Ix:=fun _ _ _=>False)
  (fun j _ _ σ g1 g2=>g2) (fun _ _ _ _ _ h=>h) ⟨vl,en,rfl,by rw [nu,List.append_nil];exact hO⟩ ?_ ?_ (fun D c H' σb w _ h _=>h.elim)
 ·rintro ly p hp H2 σb2 σf2 w hle2 ⟨vl,en,rfl,hO⟩ hs ⟨rr,hrr⟩
  have hpm:p<s.sp.many:=by rw [dD] at hp;exact hp
  have hsucc:=nv (upL s.sp) (p:=p) hsm.2.2.1
  have hpl:=je (oF s.sp) hsm.2.2.1 p
  have hin:p/s.sp.wa.length<s.sp.st.length:=Nat.div_lt_of_lt_mul (by rw [Nat.mul_comm];exact hpm)
  have hkm:=Nat.mod_lt p hsm.2.2.1
  have hdm:=Nat.div_add_mod p s.sp.wa.length
  rw [Nat.mul_comm] at hdm
  have hu:(s.sp.u (p/s.sp.wa.length) (p%s.sp.wa.length):Int)=(p:Int)+1:=by unfold Spc.u;omega
  rw [lO hp]
  obtain ⟨al,ll,cl,rfl,hll⟩:=hO.shape
  generalize p/s.sp.wa.length=i at*
  generalize p%s.sp.wa.length=k at*
  have hk2:=hk.mono (hle1.trans hle2)
  refine .region ?_
  refine .o (.alloc hs jQ rfl fun b3 w hs=>?_)
  refine .o (.aI (vs:=[_,_,_]) hs rfl rfl nX fun w hs=>?_)
  refine .nil ?_
  refine nT ?_
  refine ⟨H2,[.blk b3 [I (i:Int),I (k:Int),I ((p+1:Nat):Int)],.blk bm [I s.sp.id,I s.sp.src,.slice ast s.sp.st.length cst,.slice awa s.sp.wa.length cwa,I s.sp.al,I s.sp.up,vr,vc,vt,.slice al ll cl],en,.blk b1 [.pointer (some ⟨bm,0,none⟩)],.blk b2 [I s.sp.id,I s.sp.src,.slice ast s.sp.st.length cst,.slice awa s.sp.wa.length cwa,I s.sp.al,I s.sp.up]],HLe.refl _,hs,?_⟩;rintro w σf4 - hs
  refine .block (.ai (.z (zfa ck) (.y hs (zld af) (.z cf (.z (zfa a8) (.y hs (zld an) (.z (cZ ae) (.z iM (.nil ?_)))))))))
  refine (.bT rfl (fun hc19=>?_) (fun hc19=>?_))
  ·refine .seq (.draw mix rfl hs fun w hs=>?_)
   refine .z 0 rfl (zfa eU) ?_;refine .z 1 rfl (zfa lF) ?_;refine .y 2 rfl hs af ?_;refine .z 3 rfl (zfa a8) ?_;refine .y 4 rfl hs an ?_;refine .z 5 rfl (zfa ck) ?_;refine .y 6 rfl hs af ?_;refine .z 7 rfl cf ?_
   have hris:=hok.wa.rise k ak
   have hq0:=hok.wa.bd (i:=k) ak
   have hq1:=hok.wa.bd (i:=k+1) ak
   have hal:=hok.up
   refine .ixX (enc:=fun x=>[I x]) (i:=8) hs rfl aq .none hk2.wa rfl rfl ae aj (bF (l:=s.sp.wa) (i:=(k+1)) ak) dn ?_;intro b28 o28 hc28;replace hc28:=bO.one hc28
   refine .r (i:=9) hs rfl aq .none (aR rfl af hc28) ?_
   refine .z 10 rfl (zfa a8) ?_;refine .y 11 rfl hs an ?_;refine .z 12 rfl (zfa ck) ?_;refine .y 13 rfl hs af ?_
   refine .ixX (enc:=fun x=>[I x]) (i:=14) hs rfl aq .none hk2.wa rfl rfl ae aj (bF (l:=s.sp.wa) (i:=k) ak) dn ?_;intro b34 o34 hc34;replace hc34:=bO.one hc34
   refine .r (i:=15) hs rfl aq .none (aR rfl af hc34) ?_
   refine .z 16 rfl gZ ?_
   refine .E 17 hs ?_
   refine .call Tryz.call243 rfl (k8 hs ak ak) ?_;rintro _ w ⟨rfl,hs⟩
   refine .go ?_
   refine .z 18 rfl zg ?_;refine .D hs ?_
   refine .region (.y hs (zld qD) (.z (zfa dL) (.y hs (zld af) (.z (zfa dL) (.y hs (zld af) (.z cf (.z zm (.z zm (.z (zfa dB) ?_)))))))))
   refine .y hs (zld af) ?_
   refine .o (.call Bz rfl (fL (ls:=ls++pY (upL s.sp) s.sp.wa.length p) (hs.sb:St H2 w (.blk bm _::en:: .blk b1 _:: .blk b2 _::σf4)) hO (by rw [List.length_append];omega)) ?_);rintro _ w ⟨vl3,en3,hO3,hs⟩
   have hu2:(s.sp.u i (k+1):Int)=((p+1:Nat):Int)+1:=by unfold Spc.u at hu ⊢;omega
   rw [show two ((p+1:Nat):Int) (((p+1:Nat):Int)+1) (ju s.sp.up (gi s.sp.wa (k+1) - gi s.sp.wa k)) (ju s.sp.up (gi s.sp.wa (k+1) - gi s.sp.wa k)) s.sp.src=upL s.sp i k by unfold upL;rw [if_pos ak,hu,hu2];rfl,List.append_assoc,←hsucc] at hO3
   refine .nil ?_
   refine nB ?_
   exact ⟨H2,_,HLe.refl _,hs,_,_,rfl,hO3⟩
  ·refine .skip ?_
   refine nB ?_
   rw [show upL s.sp i k=[] by unfold upL;rw [if_neg ak],List.append_nil] at hsucc
   exact ⟨H2,_,HLe.refl _,(hs.sb:St H2 w (.blk bm _::en:: .blk b1 _:: .blk b2 _::σf4)),_,_,rfl,by rw [hsucc];exact hO⟩
 ·rintro D H2 σb2 w hle2 ⟨vl,en,rfl,hO⟩ hs
  rw [dD,show s.sp.many=s.sp.st.length*s.sp.wa.length from rfl,pX _ hsm.2.2.1] at hO
  refine nB ?_
  exact Fin.I0 [D] [] hs fun w hs=>⟨_,results0 Tryz.results192,H2,vl,en,hle1.trans hle2,hO,(hs.sb:St H2 w (.blk bm _::en::σ))⟩
theorem q8{s:Srv}{ts:List TD}{vst vwa vr vc vt vl:Value}{en:Ent}{bm:Nat}{ls:List Lim}(hs:St H w (.blk bm [I s.sp.id,I s.sp.src,vst,vwa,I s.sp.al,I s.sp.up,vr,vc,vt,vl]::en::σ))(hk:MkK H s ts vst vwa vr vc vt)(hO:bU 4 vl (fK ls) en)(hl:ls.length≤10000)(hok:dP s.sp)(htl:ts.length≤100):
  Cl Tryz.prog 193 [.pointer (some ⟨bm,0,none⟩)] w fun _ w'=>∃H1 vl' en',HLe H H1∧bU 4 vl' (fK (ls++vE s.sp ts.length)) en'∧St H1 w' (.blk bm [I s.sp.id,I s.sp.src,vst,vwa,I s.sp.al,I s.sp.up,vr,vc,vt,vl']::en'::σ):=by
 have hsm:=eL hok
 obtain ⟨at_,ct,rfl⟩:=RTd.shape hk.ts
 refine Cl.o Tryz.func193 Tryz.ntmps193 ag1 ?_
 refine .ai (.z zm (.z znc (.z (zfa eN) (.y hs (zld Hs) (.z (cZ aV) (.z zm (.nil ?_)))))))
 refine .for (N:=ts.length) (J:=fun j fr w=>fr=[(0,.pointer (some ⟨bm,0,none⟩))]∧∃vl en,bU 4 vl (fK (ls++vE s.sp j)) en∧St H w (.blk bm [I s.sp.id,I s.sp.src,vst,vwa,I s.sp.al,I s.sp.up,vr,vc,.slice at_ ts.length ct,vl]::en::σ)) ak ?_ ?_ ?_
 ·exact .mk ⟨rfl,vl,en,by show bU 4 vl (fK (ls++[])) en;rw [List.append_nil];exact hO,hs⟩
 ·rintro j fr w hj ⟨rfl,vl,en,hO,hs⟩
  have hel:=fC s.sp j
  obtain ⟨al,ll,cl,rfl,hll⟩:=hO.shape
  refine .block (.ai (.z zm (.z zg (.nil ?_))))
  refine .draw mix rfl hs fun w hs=>?_
  refine .z 0 rfl zm ?_;refine .z 1 rfl zm ?_;refine .z 2 rfl zm ?_;refine .z 4 rfl zm ?_;refine .z 5 rfl znc ?_;refine .z 6 rfl (zfa cV) ?_;refine .z 7 rfl (zfa bC) ?_;refine .z 8 rfl (zfa dB) ?_;refine .y 9 rfl hs af ?_
  refine .E 3 hs ?_
  refine .call Tryz.call244 rfl (j6 (s:=s.sp) hs .here hk.st hk.wa ⟨ak,ak⟩ ⟨ak,ak⟩) ?_;rintro _ w ⟨rfl,hs⟩
  refine .go ?_
  refine .E 10 hs ?_
  refine .call Bz rfl (fL (ls:=ls++vE s.sp j) hs hO (by rw [List.length_append];omega)) ?_;rintro _ w ⟨vl3,en3,hO3,hs⟩
  rw [show (s.sp.many:Int)+1+(j:Int)=((s.sp.many+1+j:Nat):Int) by omega,List.append_assoc] at hO3
  refine .go ?_
  refine .D hs ?_
  refine nB (nT ?_)
  exact .mk ⟨rfl,vl3,en3,hO3,hs⟩
 ·rintro fr w ⟨rfl,vl,en,hO,hs⟩
  exact Fin.yx Tryz.results193 ⟨H,vl,en,HLe.refl _,hO,hs⟩
set_option maxHeartbeats 1000000 in
theorem o5{s:Srv}{ts:List TD}{vst vwa vr vc vt vl:Value}{en:Ent}{bm:Nat}{ls:List Lim}(hs:St H w (.blk bm [I s.sp.id,I s.sp.src,vst,vwa,I s.sp.al,I s.sp.up,vr,vc,vt,vl]::en::σ))(hk:MkK H s ts vst vwa vr vc vt)(hO:bU 4 vl (fK ls) en)(hl:ls.length≤10000)(hok:dP s.sp)(htl:ts.length≤100)(hcl:s.cs.length≤20)(hc:∀c∈s.cs,rp c){j0:Nat}(hj0:j0≤ts.length):
  Cl Tryz.prog 245 [.pointer (some ⟨bm,0,none⟩),I (j0:Int)] w fun _ w'=>∃H1 vl' en',HLe H H1∧bU 4 vl' (fK (ls++qf s.sp ts s.cs j0 s.cs.length)) en'∧St H1 w' (.blk bm [I s.sp.id,I s.sp.src,vst,vwa,I s.sp.al,I s.sp.up,vr,vc,vt,vl']::en'::σ):=by
 have hsm:=eL hok
 obtain ⟨at_,ct,rfl⟩:=RTd.shape hk.ts
 obtain ⟨ac,cc,rfl⟩:=RCm.shape hk.cs
 refine Cl.o Tryz.func245 Tryz.ntmps245 ag2 ?_
 refine .ai (.z zm (.z znc (.z (zfa cV) (.z (zfa dr) (.y hs (zld oa) (.z (cZ cR) (.z zm (.nil ?_))))))))
 refine .for (N:=s.cs.length) (J:=fun i fr w=>fr=[(12,.slice ac s.cs.length cc),(0,.pointer (some ⟨bm,0,none⟩)),(1,I (j0:Int))]∧∃vl en,bU 4 vl (fK (ls++qf s.sp ts s.cs j0 i)) en∧St H w (.blk bm [I s.sp.id,I s.sp.src,vst,vwa,I s.sp.al,I s.sp.up,vr,.slice ac s.cs.length cc,.slice at_ ts.length ct,vl]::en::σ)) ak ?_ ?_ ?_
 ·exact .mk ⟨rfl,vl,en,by show bU 4 vl (fK (ls++[])) en;rw [List.append_nil];exact hO,hs⟩
 ·rintro i fr w hi ⟨rfl,vl,en,hO,hs⟩
  obtain ⟨c,hx⟩:=nth hi
  obtain ⟨g1,g2,g3,g4,g5,g6⟩:=hc c (List.mem_of_getElem? hx)
  have hcl1:=ig s.sp ts s.cs j0 i
  have hcl2:i*(2*(ts.length - j0))≤20*(2*100):=Nat.mul_le_mul ak ak
  refine .block (.ai ?_)
  refine .ixX (enc:=Cmp.c) hs hk.cs rfl rfl cR eF hx dn ?_;intro b16 o16 hc16
  refine .q hs (bK (vs:=(Cmp.c c)) rfl Tryz.isAgg153 eF hc16) ?_
  refine .o (.alloc hs xn rfl fun b5 w hs=>?_)
  refine .o (.aI (vs:=c.c) hs rfl rfl eF fun w hs=>?_)
  replace hs:St H w (.blk bm [I s.sp.id,I s.sp.src,vst,vwa,I s.sp.al,I s.sp.up,vr,.slice ac s.cs.length cc,.slice at_ ts.length ct,vl]::en:: .blk b5 [I c.src,I c.tape,I c.fr,I c.to,I c.lo,I c.hi]::σ):=hs.sb
  refine .nil (.ai (.z zm (.z zg (.nil (.block ?_)))))
  refine .loop (fun j:Nat=>⟨62,[],[(6,I ((j0+j:Nat):Int)),(5,.pointer (some ⟨b5,0,none⟩)),(14,I (i:Int)),(13,I (s.cs.length:Int)),(12,.slice ac s.cs.length cc),(0,.pointer (some ⟨bm,0,none⟩)),(1,I (j0:Int))]⟩)
   (fun j w=>j0+j≤ts.length∧∃vl en,bU 4 vl (fK (ls++qf s.sp ts s.cs j0 i++jj s.sp ts c j0 j)) en∧St H w (.blk bm [I s.sp.id,I s.sp.src,vst,vwa,I s.sp.al,I s.sp.up,vr,.slice ac s.cs.length cc,.slice at_ ts.length ct,vl]::en:: .blk b5 [I c.src,I c.tape,I c.fr,I c.to,I c.lo,I c.hi]::σ)) (fun j=>ts.length - (j0+j)) 0 bD
   ⟨ak,vl,en,by show bU 4 vl (fK (_++[])) en;rw [List.append_nil];exact hO,hs⟩ ?_
  clear hO hs
  rintro j w ⟨hj,vl,en,hO,hs⟩
  have hl1:=kz s.sp ts c j0 j
  obtain ⟨al,ll,cl,rfl,hll⟩:=hO.shape
  refine .seq (.ai (.z zm (.z zm (.z znc (.z (zfa eN) (.y hs (zld Hs) (.z (cZ aV) (.z iM (.nil ?_)))))))))
  refine (.bT rfl (fun hc25=>?_) (fun hc25=>?_))
  ·refine .skip ?_
   refine nT ?_
   refine .seq (.block (.ai (.z zm (.z znc (.z (zfa eN) (.y hs (zld Hs) (.z zm ?_)))))))
   obtain ⟨t,ht⟩:=nth (l:=ts) (k:=j0+j) ak
   have ht0:=FG ht
   refine .ixX (enc:=TD.c) hs hk.ts rfl rfl aV bj ht dn ?_;intro b33 o33 hc33
   refine .q hs (bK (vs:=(TD.c t)) rfl dv bj hc33) ?_
   refine .o (.alloc hs jR rfl fun b7 w hs=>?_)
   refine .o (.aI (vs:=t.c) hs rfl rfl bj fun w hs=>?_)
   change St _ _ (.blk b7 [I t.tape,I t.day]::_) at hs
   refine .nil (.ai (.z (zfa l5) (.y hs (zld af) (.z (zfa jy) (.y hs (zld af) (.z jU (.z zm ?_)))))))
   refine .jM (t':=40) rfl (fun hb40=>?_) (fun hb40=>?_)
   ·refine .gT rfl rfl ?_
    refine .z (zfa jv) ?_
    refine .gT rfl rfl ?_
    refine .y hs (zld af) ?_
    refine .gT rfl rfl ?_
    refine .z (zfa jx) ?_
    refine .gT rfl rfl ?_
    refine .y hs (zld af) ?_
    refine .gT rfl rfl ?_
    refine .z (zfa gV) ?_
    refine .gT rfl rfl ?_
    refine .y hs (zld af) ?_
    refine .gT rfl rfl ?_
    refine .o (.call db rfl (a6 hs) ?_);rintro _ w ⟨rfl,hs⟩
    refine .z zpT (.nil ?_)
    refine (.cond rfl (fun hc48=>?_) (fun hc48=>?_))
    ·refine .draw mix rfl hs fun w hs=>?_
     refine .z 0 rfl zm ?_;refine .z 1 rfl zm ?_;refine .z 2 rfl zm ?_;refine .z 4 rfl (zfa jw) ?_;refine .y 5 rfl hs af ?_;refine .z 6 rfl DS ?_;refine .z 7 rfl (zfa gU) ?_;refine .y 8 rfl hs af ?_;refine .z 9 rfl (zfa gW) ?_;refine .y 10 rfl hs af ?_
     refine .E 3 hs ?_
     refine .call Tryz.call244 rfl (j6 (s:=s.sp) hs (.there .here) hk.st hk.wa ⟨ak,ak⟩ ⟨ak,ak⟩) ?_;rintro _ w ⟨rfl,hs⟩
     refine .go ?_
     refine .E 11 hs ?_
     refine .call Bz rfl (fL (ls:=ls++qf s.sp ts s.cs j0 i++jj s.sp ts c j0 j) (hs.tail:St H w (.blk bm _::en:: .blk b5 _::σ)) hO (by rw [List.length_append,List.length_append];omega)) ?_;rintro _ w ⟨vl3,en3,hO3,hs⟩
     refine .go ?_
     refine .D hs ?_
     refine nB (nT ?_)
     refine .region (.z zm (.z cf (.z zg (.nil ?_))))
     refine nT ?_
     have e:jj s.sp ts c j0 (j+1)=jj s.sp ts c j0 j++two 0 ((s.sp.many:Int)+1+((j0+j:Nat):Int)) (-c.lo) c.hi c.src:=by
      show _++jW c (td0 ts (j0+j)) _=_
      rw [ht0];unfold jW;rw [if_pos (by simp at hc48;omega)]
      rw [show ((s.sp.many+1+(j0+j):Nat):Int)=(s.sp.many:Int)+1+((j0+j:Nat):Int) by omega]
     rw [List.append_assoc _ (jj _ _ _ _ _),←e] at hO3
     exact ⟨j+1,.dA rfl (by simp;omega) bD,⟨ak,vl3,en3,hO3,hs⟩,ak⟩
    ·refine .skip ?_
     refine nB (nT ?_)
     refine .region (.z zm (.z cf (.z zg (.nil ?_))))
     refine nT ?_
     have e:jj s.sp ts c j0 (j+1)=jj s.sp ts c j0 j:=by
      show _++jW c (td0 ts (j0+j)) _=_
      rw [ht0];unfold jW;rw [if_neg (by simp at hc48;omega),List.append_nil]
     exact ⟨j+1,.dA rfl (by simp;omega) bD,⟨ak,_,en,by rw [e];exact hO,hs.tail⟩,ak⟩
   ·refine .gFs 7 5 true rfl rfl rfl ?_
    refine .z zpF (.nil ?_)
    refine (.cF ?_)
    refine .skip ?_
    refine nB (nT ?_)
    refine .region (.z zm (.z cf (.z zg (.nil ?_))))
    refine nT ?_
    have e:jj s.sp ts c j0 (j+1)=jj s.sp ts c j0 j:=by
     show _++jW c (td0 ts (j0+j)) _=_
     rw [ht0];unfold jW;rw [if_neg ak,List.append_nil]
    exact ⟨j+1,.dA rfl (by simp;omega) bD,⟨ak,_,en,by rw [e];exact hO,hs.tail⟩,ak⟩
  ·refine .exit ?_
   refine xT (xT (xB (nB (nT ?_))))
   obtain rfl:j=ts.length - j0:=by omega
   rw [List.append_assoc,show qf s.sp ts s.cs j0 i++jj s.sp ts c j0 (ts.length - j0)=qf s.sp ts s.cs j0 (i+1) by rw [←Dc hx];rfl] at hO
   exact .mk ⟨rfl,_,en,hO,hs.sb⟩
 ·rintro fr w ⟨rfl,vl,en,hO,hs⟩
  exact Fin.yx Tryz.results245 ⟨H,vl,en,HLe.refl _,hO,hs⟩
theorem mu{s:Srv}{ts:List TD}{vst vwa vr vc vt vl:Value}{en:Ent}{bm:Nat}{ls:List Lim}(hs:St H w (.blk bm [I s.sp.id,I s.sp.src,vst,vwa,I s.sp.al,I s.sp.up,vr,vc,vt,vl]::en::σ))(hk:MkK H s ts vst vwa vr vc vt)(hO:bU 4 vl (fK ls) en)(hl:ls.length≤10000)(hok:dP s.sp)(htl:ts.length≤100)(hcl:s.cs.length≤20)(hc:∀c∈s.cs,rp c):
  Cl Tryz.prog 194 [.pointer (some ⟨bm,0,none⟩)] w fun _ w'=>∃H1 vl' en',HLe H H1∧bU 4 vl' (fK (ls++qf s.sp ts s.cs 0 s.cs.length)) en'∧St H1 w' (.blk bm [I s.sp.id,I s.sp.src,vst,vwa,I s.sp.al,I s.sp.up,vr,vc,vt,vl']::en'::σ):=by
 refine Cl.o Tryz.func194 Tryz.ntmps194 ag1 ?_
 refine .region (.z zm ?_)
 refine .o (.call Tryz.call245 rfl (o5 (s:=s) (ts:=ts) (j0:=0) hs hk hO hl hok htl hcl hc ak) ?_);rintro _ w hs
 refine .nil ?_
 exact Fin.yx Tryz.results194 hs
set_option maxHeartbeats 1000000 in
theorem oZ{s:Srv}{ts:List TD}{vst vwa vr vc vt vl:Value}{en:Ent}{bm:Nat}{ls:List Lim}(hs:St H w (.blk bm [I s.sp.id,I s.sp.src,vst,vwa,I s.sp.al,I s.sp.up,vr,vc,vt,vl]::en::σ))(hk:MkK H s ts vst vwa vr vc vt)(hO:bU 4 vl (fK ls) en)(hl:ls.length≤10000)(hok:dP s.sp)(htl:ts.length≤100)(hrl:s.rs.length≤60)(hr:∀r∈s.rs,gP s.sp r)(hmem:∀r∈s.rs,r.td∈ts):
  Cl Tryz.prog 195 [.pointer (some ⟨bm,0,none⟩)] w fun _ w'=>∃H1 vl' en',HLe H H1∧bU 4 vl' (fK (ls++tv s.sp ts s.rs s.rs.length)) en'∧St H1 w' (.blk bm [I s.sp.id,I s.sp.src,vst,vwa,I s.sp.al,I s.sp.up,vr,vc,vt,vl']::en'::σ):=by
 have hsm:=eL hok
 obtain ⟨at_,ct,rfl⟩:=RTd.shape hk.ts
 obtain ⟨ar,cr,rfl⟩:=RRd.shape hk.rs
 refine Cl.o Tryz.func195 Tryz.ntmps195 ag1 ?_
 refine .ai (.z zm (.z znc (.z (zfa cV) (.z (zfa br) (.y hs (zld cS) (.z (cZ aN) (.z zm (.nil ?_))))))))
 refine .for (N:=s.rs.length) (J:=fun i fr w=>fr=[(9,.slice ar s.rs.length cr),(0,.pointer (some ⟨bm,0,none⟩))]∧∃vl en,bU 4 vl (fK (ls++tv s.sp ts s.rs i)) en∧St H w (.blk bm [I s.sp.id,I s.sp.src,vst,vwa,I s.sp.al,I s.sp.up,.slice ar s.rs.length cr,vc,.slice at_ ts.length ct,vl]::en::σ)) ak ?_ ?_ ?_
 ·exact .mk ⟨rfl,vl,en,by show bU 4 vl (fK (ls++[])) en;rw [List.append_nil];exact hO,hs⟩
 ·rintro i fr w hi ⟨rfl,vl,en,hO,hs⟩
  obtain ⟨r,hx⟩:=nth hi
  obtain ⟨g1,g2,g3,g4,g5,g6,g7⟩:=hr r (List.mem_of_getElem? hx)
  obtain ⟨k,k1,k2,k3⟩:=fa (hmem r (List.mem_of_getElem? hx))
  have hrl1:=fA s.sp ts s.rs i
  obtain ⟨al,ll,cl,rfl,hll⟩:=hO.shape
  refine .block (.ai ?_)
  refine .ixX (enc:=Rdg.c) hs hk.rs rfl rfl aN aW hx dn ?_;intro b13 o13 hc13
  refine .q hs (bK (vs:=(Rdg.c r)) rfl fS aW hc13) ?_
  refine .o (.alloc hs fD rfl fun b3 w hs=>?_)
  refine .o (.aI (vs:=r.c) hs rfl rfl aW fun w hs=>?_)
  change St _ _ (.blk b3 [I r.src,I r.st,I r.wa,I r.val,I r.tol,I r.tape,I r.day]::_) at hs
  refine .nil ?_
  refine .seq (.draw mix rfl hs fun w hs=>?_)
  refine .z 0 rfl zm ?_;refine .z 1 rfl znc ?_;refine .z 2 rfl (zfa eN) ?_;refine .y 3 rfl hs Hs ?_;refine .ys 4 rfl hs [_,_,_,_,_,_,_] fS aW ?_
  refine .E 5 hs ?_
  refine .call Tryz.call241 rfl (ib hs) ?_;rintro _ w ⟨rfl,hs⟩
  refine .go ?_
  refine .E 6 hs ?_
  refine .call Tryz.call246 rfl (ti (t:=r.td) hs hk.ts ak) ?_;rintro _ w ⟨rfl,hs⟩
  refine .go ?_
  refine .z 7 rfl zg ?_;refine .D hs ?_
  refine .draw mix rfl hs fun w hs=>?_
  refine .z 0 rfl zm ?_;refine .z 1 rfl zm ?_;refine .z 2 rfl zm ?_;refine .z 4 rfl zm ?_;refine .z 5 rfl znc ?_;refine .z 6 rfl (zfa cV) ?_;refine .z 7 rfl (zfa bC) ?_;refine .ys 8 rfl hs [_,_,_,_,_,_] aT aF ?_;refine .z 9 rfl (zfa fH) ?_;refine .y 10 rfl hs af ?_
  refine .z 11 rfl (zfa fG) ?_;refine .y 12 rfl hs af ?_;refine .z 14 rfl (zfa dZ) ?_;refine .y 15 rfl hs af ?_;refine .z 16 rfl (zfa df) ?_;refine .y 17 rfl hs af ?_;refine .z 18 rfl cf ?_;refine .z 19 rfl (zfa df) ?_;refine .y 20 rfl hs af ?_;refine .z 21 rfl (zfa dZ) ?_
  refine .y 22 rfl hs af ?_;refine .z 23 rfl gZ ?_;refine .z 24 rfl (zfa fI) ?_;refine .y 25 rfl hs af ?_
  refine .E 3 hs ?_
  refine .call Tryz.call244 rfl (j6 (s:=s.sp) hs (.there .here) hk.st hk.wa ⟨ak,ak⟩ ⟨ak,ak⟩) ?_;rintro _ w ⟨rfl,hs⟩
  refine .go ?_
  refine .E 13 hs ?_
  refine .call Tryz.call247 rfl (nH (s:=s.sp) hs hk.wa ak ⟨ak,ak⟩ ⟨ak,ak⟩) ?_;rintro _ w ⟨rfl,hs⟩
  refine .go ?_
  refine .E 26 hs ?_
  refine .call Bz rfl (fL (ls:=ls++tv s.sp ts s.rs i) (hs.sb:St H w (.blk bm _::en:: .blk b3 _::σ)) hO (by rw [List.length_append];omega)) ?_;rintro _ w ⟨vl3,en3,hO3,hs⟩
  refine .go ?_
  refine .D hs ?_
  refine nB (nT ?_)
  rw [List.append_assoc,show tv s.sp ts s.rs i++two ((s.sp.many:Int)+1+iU ts r.td) (1+r.st*s.sp.wa.length+r.wa) (r.val+r.tol) (r.tol - r.val) r.src=tv s.sp ts s.rs (i+1) by rw [←Cb hx];rfl] at hO3
  exact .mk ⟨rfl,vl3,en3,hO3,hs.sb⟩
 ·rintro fr w ⟨rfl,vl,en,hO,hs⟩
  exact Fin.yx Tryz.results195 ⟨H,vl,en,HLe.refl _,hO,hs⟩
def fnK:Nat→Nat
 |0=>190
 |1=>191
 |2=>192
 |3=>193
 |4=>194
 |_=>195
theorem E8{k:Nat}(hk:k<6):∀args w,(callFunc (fnK k) args).run Tryz.prog w= .ok (.enter (fnK k) args) w:=by
 have h:k=0∨k=1∨k=2∨k=3∨k=4∨k=5:=by omega
 rcases h with rfl|rfl|rfl|rfl|rfl|rfl
 ·exact Tryz.call190
 ·exact Tryz.call191
 ·exact Tryz.call192
 ·exact Tryz.call193
 ·exact Tryz.call194
 ·exact Tryz.call195
theorem Cs{s:Srv}{vst vwa vr vc vt vl:Value}{en:Ent}{bm k:Nat}(hs:St H w (.blk bm [I s.sp.id,I s.sp.src,vst,vwa,I s.sp.al,I s.sp.up,vr,vc,vt,vl]::en::σ))(hk:MkK H s s.bq vst vwa vr vc vt)(hO:bU 4 vl (fK (s.parts k)) en)(he:s.early)(hk6:k<6):
  Cl Tryz.prog (fnK k) [.pointer (some ⟨bm,0,none⟩)] w fun _ w'=>∃H1 vl' en',HLe H H1∧bU 4 vl' (fK (s.parts (k+1))) en'∧St H1 w' (.blk bm [I s.sp.id,I s.sp.src,vst,vwa,I s.sp.al,I s.sp.up,vr,vc,vt,vl']::en'::σ):=by
 have hl:=kq he k ak
 obtain ⟨hok,h1,h2,h3,h4⟩:=he
 have htl:s.bq.length≤100:=by have:=dc s.rs;unfold Srv.bq;omega
 have h:k=0∨k=1∨k=2∨k=3∨k=4∨k=5:=by omega
 rcases h with rfl|rfl|rfl|rfl|rfl|rfl
 ·exact o6 hs hk hO (Nat.le_trans hl eW) hok
 ·exact sq hs hk hO (Nat.le_trans hl eW) hok
 ·exact wF hs hk hO (Nat.le_trans hl eW) hok
 ·exact q8 hs hk hO (Nat.le_trans hl eW) hok htl
 ·exact mu hs hk hO (Nat.le_trans hl eW) hok htl h2 h4
 ·exact oZ hs hk hO (Nat.le_trans hl eW) hok htl h1 h3 fun r hr=>dV.2 ⟨r,hr,rfl⟩
def fnV(b:Nat)(k:Nat):Value:= .func (.func (fnK k)) #[.pointer (some ⟨b,0,none⟩)] #[]
theorem GC(b:Nat){k:Nat}(hk:k<6):[fnV b 0,fnV b 1,fnV b 2,fnV b 3,fnV b 4,fnV b 5][k]? =some (fnV b k):=by
 have h:k=0∨k=1∨k=2∨k=3∨k=4∨k=5:=by omega
 rcases h with rfl|rfl|rfl|rfl|rfl|rfl<;>rfl
set_option maxHeartbeats 1000000 in
theorem pR{s:Srv}{vst vwa vr vc:Value}(hs:St H w σ)(h1:RI H vst s.sp.st)(h2:RI H vwa s.sp.wa)(h3:RRd H vr s.rs)(h4:RCm H vc s.cs)(he:s.early):
  Cl Tryz.prog 133 [.agg #[I s.sp.id,I s.sp.src,vst,vwa,I s.sp.al,I s.sp.up,vr,vc]] w fun u w'=>∃H1 vl en,HLe H H1∧u= .agg #[I s.sys.many,vl]∧bU 4 vl (fK s.bL) en∧St H1 w' (en::σ):=by
 have hsm:=eL he.1
 have htl:s.bq.length≤60:=by have:=dc s.rs;have:=he.2.1;unfold Srv.bq;omega
 refine Cl.o Tryz.func133 Tryz.ntmps133 ag1 ?_
 refine .ai ?_
 refine .bx hs fun b1 w hs=>?_
 refine .o (.alloc hs dz rfl fun b2 w hs=>?_)
 refine .nil ?_
 refine .seq (.draw mix rfl hs fun w hs=>?_)
 refine .ys 0 rfl hs [_,_,_,_,_,_,_,_] aJ aB ?_;refine .ys 1 rfl hs [_,_,_,_,_,_,_,_] aJ aB ?_
 refine .E 2 hs ?_
 refine .call Tryz.call189 rfl (pQ hs h3 (by have:=he.2.1;omega)) ?_;rintro v8 w ⟨H1,hle1,hT,hs⟩
 obtain ⟨at_,ct,rfl⟩:=RTd.shape hT
 have hk0:MkK H1 s s.bq vst vwa vr vc (.slice at_ s.bq.length ct):=⟨h1.mono hle1,h2.mono hle1,h3.mono hle1,h4.mono hle1,hT⟩
 refine .go ?_
 refine .z 3 rfl (zbd (vs:=[(0,.agg #[I s.sp.id,I s.sp.src,vst,vwa,I s.sp.al,I s.sp.up,vr,vc]),(1,.slice at_ s.bq.length ct)]) [I s.sp.id,I s.sp.src,vst,vwa,I s.sp.al,I s.sp.up,vr,vc,.slice at_ s.bq.length ct,.slice none 0 0] rm rfl aq) ?_
 refine .E 4 hs ?_
 refine .box hs rfl rfl ?_;intro b10 w hs
 refine .go ?_
 refine .z 5 rfl zg ?_;refine .D hs ?_
 refine .seq (.ai (.z zm ?_))
 refine .q hs (cJ (f:=[_]) (c:=[]) rfl rfl) ?_
 refine .z zm ?_
 refine .q hs (cJ (f:=[_]) (c:=[]) rfl rfl) ?_
 refine .z zm ?_
 refine .q hs (cJ (f:=[_]) (c:=[]) rfl rfl) ?_
 refine .z zm ?_
 refine .q hs (cJ (f:=[_]) (c:=[]) rfl rfl) ?_
 refine .z zm ?_
 refine .q hs (cJ (f:=[_]) (c:=[]) rfl rfl) ?_
 refine .z zm ?_
 refine .q hs (cJ (f:=[_]) (c:=[]) rfl rfl) ?_
 refine .o (.buildSlice (cells:=[fnV b10 0,fnV b10 1,fnV b10 2,fnV b10 3,fnV b10 4,fnV b10 5]) hs wZ rfl aq fun b23 w hs=>?_)
 refine .z (cZ Tryz.runUnderlying247) ?_
 refine .z zm (.nil ?_)
 refine .for (N:=6) (J:=fun k fr w=>fr=[(23,.slice (some ⟨b23,0,none⟩) 6 6),(3,.pointer (some ⟨b10,0,none⟩)),(2,.pointer (some ⟨b2,0,none⟩)),(1,.pointer (some ⟨b1,0,none⟩))]∧∃H2 vl en,HLe H1 H2∧bU 4 vl (fK (s.parts k)) en∧St H2 w (.blk b10 [I s.sp.id,I s.sp.src,vst,vwa,I s.sp.al,I s.sp.up,vr,vc,.slice at_ s.bq.length ct,vl]::en:: .blk b23 [fnV b10 0,fnV b10 1,fnV b10 2,fnV b10 3,fnV b10 4,fnV b10 5]:: .blk b2 [I 0,.slice none 0 0]:: .blk b1 [I s.sp.id,I s.sp.src,vst,vwa,I s.sp.al,I s.sp.up,vr,vc]::σ)) ak ?_ ?_ ?_
 ·exact .mk ⟨rfl,H1,.slice none 0 0,.nul,HLe.refl _,.nil 4 none,hs.nul.sb⟩
 ·rintro k fr w hk ⟨rfl,H2,vl,en,hle2,hO,hs⟩
  refine .block (.ai ?_)
  refine .z (zix Tryz.runUnderlying247 Tryz.sizeOf1) ?_
  refine .q hs (fW rfl Tryz.isAgg1 (hv:=GC b10 hk)) ?_
  refine .z zg (.nil (.region (.z zm ?_)))
  refine .o (.nO (first:=[.pointer (some ⟨b10,0,none⟩)]) (cap:=[]) rfl rfl (E8 hk) (Cs hs (hk0.mono hle2) hO he hk) ?_);rintro _ w ⟨H3,vl3,en3,hle3,hO3,hs⟩
  refine .nil ?_
  refine nB (nT ?_)
  exact .mk ⟨rfl,H3,vl3,en3,hle2.trans hle3,hO3,hs⟩
 ·rintro fr w ⟨rfl,H2,vl,en,hle2,hO,hs⟩
  rw [s.wy] at hO
  obtain ⟨al,ll,cl,rfl,hll⟩:=hO.shape
  refine nT ?_
  refine .seq (.draw mix rfl hs fun w hs=>?_)
  refine .z 0 rfl (zfa bC) ?_;refine .ys 1 rfl hs [_,_,_,_,_,_] aT aF ?_;refine .z 3 rfl zm ?_;refine .z 4 rfl znc ?_;refine .z 5 rfl (zfa eN) ?_;refine .y 6 rfl hs Hs ?_;refine .z 7 rfl (cZ aV) ?_;refine .z 9 rfl zm ?_;refine .z 10 rfl znc ?_;refine .z 11 rfl (zfa iD) ?_
  refine .y 12 rfl hs cu ?_
  refine .E 2 hs ?_
  refine .call Tryz.call196 rfl (k7 (s:=s.sp) hs (h1.mono (hle1.trans hle2)) (h2.mono (hle1.trans hle2)) ⟨ak,ak⟩) ?_;rintro _ w ⟨rfl,hs⟩
  refine .go ?_
  refine .z 8 rfl cf ?_;refine .z 13 rfl (zbd [_,_] kM) ?_
  refine .E 14 hs ?_
  refine .aI (vs:=[_,_]) hs rfl rfl aE ?_;intro w hs
  refine .go ?_
  refine .D hs ?_
  refine .ret ?_
  replace hs:St H2 w (.blk b2 [I ((s.sp.many:Int)+(s.bq.length:Int)),.slice al ll cl]::en::σ):=hs.sb
  exact Fin.ia [] [] hs fun w hs=>⟨_,results1 Tryz.results133 (di (vs:=[_,_]) hs rfl bg aE),H2,_,en,hle1.trans hle2,by show _=Value.agg #[I ((s.sp.many+s.bq.length:Nat):Int),_];rw [Int.natCast_add],hO,hs.tail⟩
theorem ez{s:Srv}{vst vwa vr vc:Value}(hs:St H w σ)(h1:RI H vst s.sp.st)(h2:RI H vwa s.sp.wa)(h3:RRd H vr s.rs)(h4:RCm H vc s.cs)(he:s.early):
  Cl Tryz.prog 133 [.agg #[I s.sp.id,I s.sp.src,vst,vwa,I s.sp.al,I s.sp.up,vr,vc]] w fun u w'=>∃H1,HLe H H1∧RSy H1 u s.sys∧St H1 w' σ:=by
 refine (pR hs h1 h2 h3 h4 he).mono ?_
 rintro u w' ⟨H1,vl,en,hle,rfl,hO,hs⟩
 have hl:=kq he 6 ak
 rw [s.wy] at hl
 obtain ⟨H2,hle2,hR,hs⟩:=bU.cg (m:=4) (cs:=s.bL.map Lim.c) hO (fun c hc=>by simp only [List.mem_map] at hc;obtain ⟨x,_,rfl⟩:=hc;rfl) ak (by rw [List.length_map];omega) hs .here
 exact ⟨H2,hle.trans hle2,⟨vl,rfl,hR⟩,hs⟩
set_option maxHeartbeats 1000000 in
theorem eM{s:Srv}{vst vwa vr vc:Value}(hs:St H w σ)(h1:RI H vst s.sp.st)(h2:RI H vwa s.sp.wa)(h3:RRd H vr s.rs)(h4:RCm H vc s.cs):
  Cl Tryz.prog 117 [.agg #[I s.sp.id,I s.sp.src,vst,vwa,I s.sp.al,I s.sp.up,vr,vc]] w fun u w'=>∃H1 e,HLe H H1∧u=I e∧rR s e∧St H1 w' σ:=by
 obtain ⟨ast,cst,rfl⟩:=RI.shape h1
 obtain ⟨awa,cwa,rfl⟩:=RI.shape h2
 obtain ⟨ar,cr,rfl⟩:=RRd.shape h3
 obtain ⟨ac,cc,rfl⟩:=RCm.shape h4
 refine Cl.o Tryz.func117 Tryz.ntmps117 ag1 ?_
 refine .ai ?_
 refine .bx hs fun b1 w hs=>?_
 refine .z zg (.nil (.seq (.ai (.z (zfa bC) (.y hs (zls [_,_,_,_,_,_] aT aF) ?_)))))
 refine .o (.call Tryz.call111 rfl (iC (s:=s.sp) hs h1 h2) ?_);rintro _ w ⟨H1,e,hle1,rfl,he,hs⟩
 refine .z zg (.nil (.ai (.z zm (.z gE (.nil ?_)))))
 refine (.ep rfl (fun hc13=>?_) (fun hc13=>?_))
 ·refine .ai (.z zm (.z zg (.nil ?_)))
  refine .ret (rT (Fin.bw jD rfl ?_))
  have hq:¬dP s.sp∧e=30:=he.resolve_left fun h=>hc13 h.2
  exact ⟨H1,_,hle1,rfl,by rw [hq.2];exact .space hq.1,hs.out⟩
 ·refine .skip ?_
  refine nT ?_
  refine .seq (.ai (.z (zfa br) ?_))
  have hok:dP s.sp:=(he.resolve_right fun h=>by omega).1
  refine .y hs (zld cS) (.z (cZ aN) (.z qH (.z zm ?_)))
  refine .jM (t':=19) rfl (fun hb19=>?_) (fun hb19=>?_)
  ·refine .gFs 4 4 false rfl rfl rfl ?_
   refine .z zpT (.nil ?_)
   refine (.cT ?_)
   refine .ai (.z zg (.nil ?_))
   refine .ret (rT (Fin.bw jD rfl ?_))
   exact ⟨H1,_,hle1,rfl,.long hok ak,hs.out⟩
  ·refine .gT rfl rfl ?_
   refine .z (zfa dr) ?_
   refine .gT rfl rfl ?_
   refine .y hs (zld oa) ?_
   refine .gT rfl rfl ?_
   refine .z (cZ cR) ?_
   refine .gT rfl rfl ?_
   refine .z qH (.z zpF (.nil ?_))
   refine (.bT rfl (fun hc24=>?_) (fun hc24=>?_))
   ·refine .ai (.z zg (.nil ?_))
    refine .ret (rT (Fin.bw jD rfl ?_))
    exact ⟨H1,_,hle1,rfl,.long hok ak,hs.out⟩
   ·refine .skip ?_
    refine nT ?_
    refine .seq (.ai (.z (zfa br) (.y hs (zld cS) (.z (cZ aN) (.z zm (.nil ?_))))))
    refine .for (N:=s.rs.length) (J:=fun k fr w=>fr=[(26,.slice ar s.rs.length cr),(1,.pointer (some ⟨b1,0,none⟩))]∧(∀j<k,∀y,s.rs[j]? =some y→gP s.sp y)∧St H1 w (.blk b1 [I s.sp.id,I s.sp.src,.slice ast s.sp.st.length cst,.slice awa s.sp.wa.length cwa,I s.sp.al,I s.sp.up,.slice ar s.rs.length cr,.slice ac s.cs.length cc]::σ)) ak ?_ ?_ ?_
    ·exact .mk ⟨rfl,fun j hj=>by omega,hs⟩
    ·rintro k fr w hk ⟨rfl,hno,hs⟩
     obtain ⟨r,hx⟩:=nth hk
     refine .block (.ai ?_)
     refine .ixX (enc:=Rdg.c) hs (h3.mono hle1) rfl rfl aN aW hx dn ?_;intro b30 o30 hc30
     refine .q hs (bK (vs:=(Rdg.c r)) rfl fS aW hc30) ?_
     refine .o (.alloc hs fD rfl fun b5 w hs=>?_)
     refine .o (.aI (vs:=r.c) hs rfl rfl aW fun w hs=>?_)
     change St _ _ (.blk b5 [I r.src,I r.st,I r.wa,I r.val,I r.tol,I r.tape,I r.day]::_) at hs
     refine .nil (.ai (.z (zfa bC) (.y hs (zls [_,_,_,_,_,_] aT aF) (.y hs (zls [_,_,_,_,_,_,_] fS aW) ?_))))
     refine .o (.call Tryz.call120 rfl (mi (s:=s.sp) (r:=r) hs (h1.mono hle1) (h2.mono hle1)) ?_);rintro _ w ⟨b35,rfl,hb35,hs⟩
     refine .z gy (.nil ?_)
     refine (.cond rfl (fun hc36=>?_) (fun hc36=>?_))
     ·refine .ai (.z zg (.nil ?_))
      refine .ret (rB (rT (rB (rT (Fin.bw jD rfl ?_)))))
      exact ⟨H1,_,hle1,rfl,.rdg hok ak (fun h=>by rw [hb35.2 (h r (List.mem_of_getElem? hx))] at hc36;cases hc36),hs.out⟩
     ·refine .skip ?_
      refine nB (nT ?_)
      exact .mk ⟨rfl,eK hno hx (hb35.1 (by simpa using hc36)),hs.tail⟩
    ·rintro fr w ⟨rfl,hno,hs⟩
     have hrs:∀r∈s.rs,gP s.sp r:=fun r hr=>by
      obtain ⟨j,hj⟩:=List.getElem?_of_mem hr
      exact hno j (List.getElem?_eq_some_iff.1 hj).1 r hj
     clear hno
     refine nT ?_
     refine .seq (.ai (.z (zfa dr) (.y hs (zld oa) (.z (cZ cR) (.z zm (.nil ?_))))))
     refine .for (N:=s.cs.length) (J:=fun k fr w=>fr=[(39,.slice ac s.cs.length cc),(1,.pointer (some ⟨b1,0,none⟩))]∧(∀j<k,∀y,s.cs[j]? =some y→rp y)∧St H1 w (.blk b1 [I s.sp.id,I s.sp.src,.slice ast s.sp.st.length cst,.slice awa s.sp.wa.length cwa,I s.sp.al,I s.sp.up,.slice ar s.rs.length cr,.slice ac s.cs.length cc]::σ)) ak ?_ ?_ ?_
     ·exact .mk ⟨rfl,fun j hj=>by omega,hs⟩
     ·rintro k fr w hk ⟨rfl,hno,hs⟩
      obtain ⟨c,hx⟩:=nth hk
      refine .block (.ai ?_)
      refine .ixX (enc:=Cmp.c) hs (h4.mono hle1) rfl rfl cR eF hx dn ?_;intro b43 o43 hc43
      refine .q hs (bK (vs:=(Cmp.c c)) rfl Tryz.isAgg153 eF hc43) ?_
      refine .o (.alloc hs xn rfl fun b7 w hs=>?_)
      refine .o (.aI (vs:=c.c) hs rfl rfl eF fun w hs=>?_)
      change St _ _ (.blk b7 [I c.src,I c.tape,I c.fr,I c.to,I c.lo,I c.hi]::_) at hs
      refine .nil (.ai (.y hs (zls [_,_,_,_,_,_] Tryz.isAgg153 eF) ?_))
      refine .o (.call Tryz.call170 rfl (mj (c:=c) hs) ?_);rintro _ w ⟨b46,rfl,hb46,hs⟩
      refine .z gy (.nil ?_)
      refine (.cond rfl (fun hc47=>?_) (fun hc47=>?_))
      ·refine .ai (.z zg (.nil ?_))
       refine .ret (rB (rT (rB (rT (Fin.bw jD rfl ?_)))))
       exact ⟨H1,_,hle1,rfl,.cmp hok ak hrs (fun h=>by rw [hb46.2 (h c (List.mem_of_getElem? hx))] at hc47;cases hc47),hs.out⟩
      ·refine .skip ?_
       refine nB (nT ?_)
       exact .mk ⟨rfl,eK hno hx (hb46.1 (by simpa using hc47)),hs.tail⟩
     ·rintro fr w ⟨rfl,hno,hs⟩
      have hcs:∀c∈s.cs,rp c:=fun c hc=>by
       obtain ⟨j,hj⟩:=List.getElem?_of_mem hc
       exact hno j (List.getElem?_eq_some_iff.1 hj).1 c hj
      have hea:s.early:=⟨hok,ak,ak,hrs,hcs⟩
      have hsm:=eL hok
      have htl:s.bq.length≤60:=by have:=dc s.rs;have:=hea.2.1;unfold Srv.bq;omega
      have hll:=kq hea 6 ak
      rw [s.wy] at hll
      have hsm2:s.sys.many=((s.sp.many+s.bq.length:Nat):Int):=rfl
      refine nT ?_
      refine .seq (.ai (.y hs (zls [_,_,_,_,_,_,_,_] aJ aB) ?_))
      refine .o (.call JR rfl (ez (s:=s) hs (h1.mono hle1) (h2.mono hle1) (h3.mono hle1) (h4.mono hle1) hea) ?_);rintro _ w ⟨H2,hle2,⟨ul,rfl,hL⟩,hs⟩
      obtain ⟨al,cl,rfl⟩:=RL.shape hL
      have hsl:s.sys.bL.length=s.bL.length:=rfl
      refine .o (.alloc hs dz rfl fun b8 w hs=>?_)
      refine .o (.aI (vs:=[_,_]) hs rfl rfl aE fun w hs=>?_)
      refine .nil (.ai (.z (zfa bM) (.y hs (zld af) (.z qH (.z zm ?_)))))
      refine .jM (t':=54) rfl (fun hb54=>?_) (fun hb54=>?_)
      ·refine .gFs 4 3 false rfl rfl rfl ?_
       refine .z zpT (.nil ?_)
       refine (.cT ?_)
       refine .ai (.z zg (.nil ?_))
       refine .ret (rT (Fin.bw jD rfl ?_))
       exact ⟨H2,_,hle1.trans hle2,rfl,.big hea ak,hs.out⟩
      ·refine .gT rfl rfl ?_
       refine .z (zfa bJ) ?_
       refine .gT rfl rfl ?_
       refine .y hs (zld cu) ?_
       refine .gT rfl rfl ?_
       refine .z (cZ aH) ?_
       refine .gT rfl rfl ?_
       refine .z qH (.z zpF (.nil ?_))
       refine (.bT rfl (fun hc59=>?_) (fun hc59=>?_))
       ·refine .ai (.z zg (.nil ?_))
        refine .ret (rT (Fin.bw jD rfl ?_))
        exact ⟨H2,_,hle1.trans hle2,rfl,.big hea ak,hs.out⟩
       ·refine .skip ?_
        refine nT ?_
        refine .ai (.z zg (.nil ?_))
        refine .ret (Fin.bw jD rfl ?_)
        exact ⟨H2,_,hle1.trans hle2,rfl,.ok hea ⟨ak,ak⟩,hs.out⟩
theorem fw{a0 a1 a2:Int}(hs:St H w σ):Cl Tryz.prog 167 [I a0,I a1,I a2] w fun v w'=>v= .bool (decide (a1≤a0∧a0≤a2))∧St H w' σ:=by
 refine Cl.o Tryz.func167 Tryz.ntmps167 ag3 ?_
 refine .ai (.z zg (.nil (.ai (.z zm (.z zm (.z y7 (.z zm ?_)))))))
 refine .jM (t':=10) rfl (fun hb10=>?_) (fun hb10=>?_)
 ·refine .gT rfl rfl ?_
  refine .z zm ?_
  refine .gT rfl rfl ?_
  refine .z zm ?_
  refine .gT rfl rfl ?_
  refine .z um (.z zpT (.z zg (.nil ?_)))
  refine .ret (Fin.bw Tryz.results167 rfl ?_)
  exact ⟨by simp [*],hs.out⟩
 ·refine .gFs 3 3 true rfl rfl rfl ?_
  refine .z zpF (.z zg (.nil ?_))
  refine .ret (Fin.bw Tryz.results167 rfl ?_)
  exact ⟨by simp [*],hs.out⟩
theorem Gh{s:Spc}(h:dP s):gw 9 100000 s.wa:=⟨h.wa.two,by have:=h.wa.many;omega,h.wa.low,by have:=h.wa.high;omega,h.wa.rise⟩
theorem lq{s:Spc}{r:Rdg}{vst vwa:Value}(hs:St H w σ)(h1:RI H vst s.st)(h2:RI H vwa s.wa):
  Cl Tryz.prog 150 [.agg #[I s.id,I s.src,vst,vwa,I s.al,I s.up],.agg #[I r.src,I r.st,I r.wa,I r.val,I r.tol,I r.tape,I r.day]] w fun v w'=>∃b:Bool,v= .bool b∧(b=true↔gP s r)∧St H w' σ:=by
 obtain ⟨ast,cst,rfl⟩:=RI.shape h1
 obtain ⟨awa,cwa,rfl⟩:=RI.shape h2
 have l1:=(RI.len h1).2.2
 have l2:=(RI.len h2).2.2
 refine Cl.o Tryz.func150 Tryz.ntmps150 ag2 ?_
 refine .ai ?_
 refine .bx hs fun b2 w hs=>?_
 refine .bx hs fun b3 w hs=>?_
 refine .z zg (.nil (.ai (.z (zfa fI) (.y hs (zld af) ?_))))
 refine .o (.call uk rfl (fw hs) ?_);rintro _ w ⟨rfl,hs⟩
 refine .z zm ?_
 refine .bif (t':=8) rfl (fun hb8=>?_) (fun hb8=>?_)
 ·refine .gT rfl rfl ?_
  refine .z (zfa fH) ?_
  refine .gT rfl rfl ?_
  refine .y hs (zld af) ?_
  refine .gT rfl rfl ?_
  refine .z (zfa bH) ?_
  refine .gT rfl rfl ?_
  refine .y hs (zld an) ?_
  refine .gT rfl rfl ?_
  refine .z (cZ ae) ?_
  refine .gT rfl rfl ?_
  refine .z gZ ?_
  refine .gT rfl rfl ?_
  refine .o (.call uk rfl (fw hs) ?_);rintro _ w ⟨rfl,hs⟩
  refine .z zpT (.z zm ?_)
  refine .bif (t':=17) rfl (fun hb17=>?_) (fun hb17=>?_)
  ·refine .gT rfl rfl ?_
   refine .z (zfa fG) ?_
   refine .gT rfl rfl ?_
   refine .y hs (zld af) ?_
   refine .gT rfl rfl ?_
   refine .z (zfa a8) ?_
   refine .gT rfl rfl ?_
   refine .y hs (zld an) ?_
   refine .gT rfl rfl ?_
   refine .z (cZ ae) ?_
   refine .gT rfl rfl ?_
   refine .z gZ ?_
   refine .gT rfl rfl ?_
   refine .o (.call uk rfl (fw hs) ?_);rintro _ w ⟨rfl,hs⟩
   refine .z zpT (.z zm ?_)
   refine .bif (t':=26) rfl (fun hb26=>?_) (fun hb26=>?_)
   ·refine .gT rfl rfl ?_
    refine .z (zfa df) ?_
    refine .gT rfl rfl ?_
    refine .y hs (zld af) ?_
    refine .gT rfl rfl ?_
    refine .o (.call uk rfl (fw hs) ?_);rintro _ w ⟨rfl,hs⟩
    refine .z zpT (.z zm ?_)
    refine .bif (t':=31) rfl (fun hb31=>?_) (fun hb31=>?_)
    ·refine .gT rfl rfl ?_
     refine .z (zfa dZ) ?_
     refine .gT rfl rfl ?_
     refine .y hs (zld af) ?_
     refine .gT rfl rfl ?_
     refine .z (zfa df) ?_
     refine .gT rfl rfl ?_
     refine .y hs (zld af) ?_
     refine .gT rfl rfl ?_
     have ht:0≤r.tol∧r.tol≤1000:=by simp_all
     refine .z gZ ?_
     refine .gT rfl rfl ?_
     refine .o (.call uk rfl (fw hs) ?_);rintro _ w ⟨rfl,hs⟩
     refine .z zpT (.z zm ?_)
     refine .bif (t':=39) rfl (fun hb39=>?_) (fun hb39=>?_)
     ·refine .gT rfl rfl ?_
      refine .z (zfa dY) ?_
      refine .gT rfl rfl ?_
      refine .y hs (zld af) ?_
      refine .gT rfl rfl ?_
      refine .o (.call uk rfl (fw hs) ?_);rintro _ w ⟨rfl,hs⟩
      refine .z zpT (.z zm ?_)
      refine .bif (t':=44) rfl (fun hb44=>?_) (fun hb44=>?_)
      ·refine .gT rfl rfl ?_
       refine .z (zfa dX) ?_
       refine .gT rfl rfl ?_
       refine .y hs (zld af) ?_
       refine .gT rfl rfl ?_
       refine .o (.call uk rfl (fw hs) ?_);rintro _ w ⟨rfl,hs⟩
       refine .z zpT (.z zg (.nil ?_))
       refine .ret (Fin.bw l9 rfl ?_)
       first
       |exact ⟨false,rfl,⟨fun h=>(by cases h),fun h=>(by obtain ⟨g1,g2,g3,g4,g5,g6,g7⟩:=h;simp_all;done)⟩,hs.out⟩
       |exact ⟨_,rfl,⟨fun h=>⟨by simp_all,by simp_all,by simp_all,by simp_all,by simp_all,by simp_all,by simpa using h⟩,fun h=>by simpa using h.day⟩,hs.out⟩
      ·refine .gFs 3 39 true rfl rfl rfl ?_
       refine .z zpF (.z zg (.nil ?_))
       refine .ret (Fin.bw l9 rfl ?_)
       first
       |exact ⟨false,rfl,⟨fun h=>(by cases h),fun h=>(by obtain ⟨g1,g2,g3,g4,g5,g6,g7⟩:=h;simp_all;done)⟩,hs.out⟩
       |exact ⟨_,rfl,⟨fun h=>⟨by simp_all,by simp_all,by simp_all,by simp_all,by simp_all,by simp_all,by simpa using h⟩,fun h=>by simpa using h.day⟩,hs.out⟩
     ·refine .gFs 3 34 true rfl rfl rfl ?_
      refine .z zpF (.z zm ?_)
      refine .gFs 3 39 true rfl rfl rfl ?_
      refine .z zpF (.z zg (.nil ?_))
      refine .ret (Fin.bw l9 rfl ?_)
      first
      |exact ⟨false,rfl,⟨fun h=>(by cases h),fun h=>(by obtain ⟨g1,g2,g3,g4,g5,g6,g7⟩:=h;simp_all;done)⟩,hs.out⟩
      |exact ⟨_,rfl,⟨fun h=>⟨by simp_all,by simp_all,by simp_all,by simp_all,by simp_all,by simp_all,by simpa using h⟩,fun h=>by simpa using h.day⟩,hs.out⟩
    ·refine .gFs 6 26 true rfl rfl rfl ?_
     refine .z zpF (.z zm ?_)
     refine .gFs 3 34 true rfl rfl rfl ?_
     refine .z zpF (.z zm ?_)
     refine .gFs 3 39 true rfl rfl rfl ?_
     refine .z zpF (.z zg (.nil ?_))
     refine .ret (Fin.bw l9 rfl ?_)
     first
     |exact ⟨false,rfl,⟨fun h=>(by cases h),fun h=>(by obtain ⟨g1,g2,g3,g4,g5,g6,g7⟩:=h;simp_all;done)⟩,hs.out⟩
     |exact ⟨_,rfl,⟨fun h=>⟨by simp_all,by simp_all,by simp_all,by simp_all,by simp_all,by simp_all,by simpa using h⟩,fun h=>by simpa using h.day⟩,hs.out⟩
   ·refine .gFs 3 21 true rfl rfl rfl ?_
    refine .z zpF (.z zm ?_)
    refine .gFs 6 26 true rfl rfl rfl ?_
    refine .z zpF (.z zm ?_)
    refine .gFs 3 34 true rfl rfl rfl ?_
    refine .z zpF (.z zm ?_)
    refine .gFs 3 39 true rfl rfl rfl ?_
    refine .z zpF (.z zg (.nil ?_))
    refine .ret (Fin.bw l9 rfl ?_)
    first
    |exact ⟨false,rfl,⟨fun h=>(by cases h),fun h=>(by obtain ⟨g1,g2,g3,g4,g5,g6,g7⟩:=h;simp_all;done)⟩,hs.out⟩
    |exact ⟨_,rfl,⟨fun h=>⟨by simp_all,by simp_all,by simp_all,by simp_all,by simp_all,by simp_all,by simpa using h⟩,fun h=>by simpa using h.day⟩,hs.out⟩
  ·refine .gFs 7 12 true rfl rfl rfl ?_
   refine .z zpF (.z zm ?_)
   refine .gFs 3 21 true rfl rfl rfl ?_
   refine .z zpF (.z zm ?_)
   refine .gFs 6 26 true rfl rfl rfl ?_
   refine .z zpF (.z zm ?_)
   refine .gFs 3 34 true rfl rfl rfl ?_
   refine .z zpF (.z zm ?_)
   refine .gFs 3 39 true rfl rfl rfl ?_
   refine .z zpF (.z zg (.nil ?_))
   refine .ret (Fin.bw l9 rfl ?_)
   first
   |exact ⟨false,rfl,⟨fun h=>(by cases h),fun h=>(by obtain ⟨g1,g2,g3,g4,g5,g6,g7⟩:=h;simp_all;done)⟩,hs.out⟩
   |exact ⟨_,rfl,⟨fun h=>⟨by simp_all,by simp_all,by simp_all,by simp_all,by simp_all,by simp_all,by simpa using h⟩,fun h=>by simpa using h.day⟩,hs.out⟩
 ·refine .gFs 7 3 true rfl rfl rfl ?_
  refine .z zpF (.z zm ?_)
  refine .gFs 7 12 true rfl rfl rfl ?_
  refine .z zpF (.z zm ?_)
  refine .gFs 3 21 true rfl rfl rfl ?_
  refine .z zpF (.z zm ?_)
  refine .gFs 6 26 true rfl rfl rfl ?_
  refine .z zpF (.z zm ?_)
  refine .gFs 3 34 true rfl rfl rfl ?_
  refine .z zpF (.z zm ?_)
  refine .gFs 3 39 true rfl rfl rfl ?_
  refine .z zpF (.z zg (.nil ?_))
  refine .ret (Fin.bw l9 rfl ?_)
  first
  |exact ⟨false,rfl,⟨fun h=>(by cases h),fun h=>(by obtain ⟨g1,g2,g3,g4,g5,g6,g7⟩:=h;simp_all;done)⟩,hs.out⟩
  |exact ⟨_,rfl,⟨fun h=>⟨by simp_all,by simp_all,by simp_all,by simp_all,by simp_all,by simp_all,by simpa using h⟩,fun h=>by simpa using h.day⟩,hs.out⟩
theorem fO{s:Spc}{vst vwa:Value}(hs:St H w σ)(h1:RI H vst s.st)(h2:RI H vwa s.wa)(hb:s.st.length≤1000∧s.wa.length≤1000):
  Cl Tryz.prog 94 [.agg #[I s.id,I s.src,vst,vwa,I s.al,I s.up]] w fun v w'=>v=I (s.many:Int)∧St H w' σ:=by
 obtain ⟨ast,cst,rfl⟩:=RI.shape h1
 obtain ⟨awa,cwa,rfl⟩:=RI.shape h2
 have hm:=kv (a:=(s.st.length:Int)) (b:=(s.wa.length:Int)) (A:=1000) (B:=1000) ak ak
 refine Cl.o Tryz.func94 Tryz.ntmps94 ag1 ?_
 refine .ai ?_
 refine .bx hs fun b1 w hs=>?_
 refine .z zg (.nil (.ai (.z (zfa bH) (.y hs (zld an) (.z (cZ ae) (.z (zfa a8) (.y hs (zld an) (.z (cZ ae) (.z kS ?_)))))))))
 refine .z zg (.nil ?_)
 refine .ret (Fin.bw Tryz.results94 rfl ?_)
 exact ⟨by unfold Spc.many;rw [Int.natCast_mul],hs.out⟩
theorem dK{s:Spc}{vst vwa:Value}{a b:Int}(hs:St H w σ)(h2:RI H vwa s.wa)(hb:s.wa.length≤1000)(ha: -1000≤a∧a≤1000)(hb': -1000≤b∧b≤1000):
  Cl Tryz.prog 93 [.agg #[I s.id,I s.src,vst,vwa,I s.al,I s.up],I a,I b] w fun v w'=>v=I (1+a*s.wa.length+b)∧St H w' σ:=by
 obtain ⟨awa,cwa,rfl⟩:=RI.shape h2
 have hm:=kv (a:=a) (b:=(s.wa.length:Int)) (A:=1000) (B:=1000) ak ak
 refine Cl.o Tryz.func93 Tryz.ntmps93 ag3 ?_
 refine .ai ?_
 refine .bx hs fun b3 w hs=>?_
 refine .z zg (.nil (.ai (.z zm (.z (zfa a8) (.y hs (zld an) (.z (cZ ae) (.z kS (.z cf (.z zm ?_)))))))))
 refine .z cf (.z zg (.nil ?_))
 refine .ret (Fin.bw Tryz.results93 rfl ?_)
 exact ⟨rfl,hs.out⟩
theorem kZ{a b:Int}(hs:St H w σ)(ha:0≤a∧a≤100000)(hb:0≤b∧b≤100000):
  Cl Tryz.prog 211 [I a,I b] w fun v w'=>v=I (ju a b)∧St H w' σ:=by
 have hm:=kv (a:=a) (b:=b) (A:=100000) (B:=100000) ak ak
 have h0:=Int.mul_nonneg ha.1 hb.1
 have hq0:0≤(a*b+999).tdiv 1000:=Int.tdiv_nonneg ak ak
 have hq1:(a*b+999).tdiv 1000≤a*b+999:=by rw [Int.tdiv_eq_ediv_of_nonneg ak];omega
 refine Cl.o Tryz.func211 Tryz.ntmps211 ag2 ?_
 refine .ai (.z zg (.nil (.ai (.z zm (.z zm (.z kS (.z cf ?_)))))))
 refine .q hs (xP rfl rfl ak ak) ?_
 refine .z BE (.z zg (.nil ?_))
 refine .ret (Fin.bw Tryz.results211 rfl ?_)
 exact ⟨rfl,hs⟩
theorem jY{a b m s:Int}(hs:St H w σ):
  Cl Tryz.prog 210 [I a,I b,I m,I s] w fun v w'=>∃b0,v= .slice (some ⟨b0,0,none⟩) 2 2∧St H w' (.blk b0 (fK (two a b m m s))::σ):=by
 refine Cl.o Tryz.func210 Tryz.ntmps210 ag4 ?_
 refine .ai (.z zg (.nil (.ai (.z zm (.z zm (.z zm (.z zm (.z (zbd [_,_,_,_] dO) (.z zm ?_)))))))))
 refine .z zm (.z zm (.z zm (.z (zbd [_,_,_,_] dO) ?_)))
 refine .o (.buildSlice (cells:=fK (two a b m m s)) hs eP rfl aq fun b19 w hs=>?_)
 refine .z zg (.nil ?_)
 refine .ret (Fin.bw Tryz.results210 rfl ?_)
 exact ⟨b19,rfl,hs⟩
theorem tm{c:Cmp}{t:TD}{f:Int}(hs:St H w σ)(hlo: -1000000≤c.lo∧c.lo≤1000000):
  Cl Tryz.prog 212 [.agg #[I c.src,I c.tape,I c.fr,I c.to,I c.lo,I c.hi],.agg #[I t.tape,I t.day],I f] w fun v w'=>∃en,bU 4 v (fK (jW c t f)) en∧St H w' (en::σ):=by
 refine Cl.o Tryz.func212 Tryz.ntmps212 ag3 ?_
 refine .ai ?_
 refine .bx hs fun b3 w hs=>?_
 refine .bx hs fun b4 w hs=>?_
 refine .z zg (.nil (.seq (.ai (.z (zfa jy) (.y hs (zld af) (.z (zfa l5) (.y hs (zld af) (.z gE (.z zm ?_)))))))))
 refine .DQ (t':=12) rfl (fun hb12=>?_) (fun hb12=>?_)
 ·refine .gFs 5 5 false rfl rfl rfl ?_
  refine .z zpT (.z zm ?_)
  refine .gFs 5 12 false rfl rfl rfl ?_
  refine .z zpT (.nil ?_)
  refine (.cT ?_)
  refine .ai (.z zg (.nil ?_))
  refine .ret (rT (Fin.bw Tryz.results212 rfl ?_))
  exact ⟨.nul,by unfold jW;rw [if_neg ak];exact .nil 4 none,hs.tail.tail.nul⟩
 ·refine .gT rfl rfl ?_
  refine .z (zfa jv) ?_
  refine .gT rfl rfl ?_
  refine .y hs (zld af) ?_
  refine .gT rfl rfl ?_
  refine .z (zfa jx) ?_
  refine .gT rfl rfl ?_
  refine .y hs (zld af) ?_
  refine .gT rfl rfl ?_
  refine .z iM (.z zpF (.z zm ?_))
  refine .jM (t':=19) rfl (fun hb19=>?_) (fun hb19=>?_)
  ·refine .gFs 5 12 false rfl rfl rfl ?_
   refine .z zpT (.nil ?_)
   refine (.cT ?_)
   refine .ai (.z zg (.nil ?_))
   refine .ret (rT (Fin.bw Tryz.results212 rfl ?_))
   exact ⟨.nul,by unfold jW;rw [if_neg ak];exact .nil 4 none,hs.tail.tail.nul⟩
  ·refine .gT rfl rfl ?_
   refine .z (zfa jv) ?_
   refine .gT rfl rfl ?_
   refine .y hs (zld af) ?_
   refine .gT rfl rfl ?_
   refine .z (zfa gV) ?_
   refine .gT rfl rfl ?_
   refine .y hs (zld af) ?_
   refine .gT rfl rfl ?_
   refine .z qH (.z zpF (.nil ?_))
   refine (.bT rfl (fun hc25=>?_) (fun hc25=>?_))
   ·refine .ai (.z zg (.nil ?_))
    refine .ret (rT (Fin.bw Tryz.results212 rfl ?_))
    exact ⟨.nul,by unfold jW;rw [if_neg ak];exact .nil 4 none,hs.tail.tail.nul⟩
   ·refine .skip ?_
    refine nT ?_
    refine .ai (.z zm (.z (zfa jw) (.y hs (zld af) (.z DS (.z (zfa gW) (.y hs (zld af) (.z (zbd [_,_,_,_] dO) (.z zm (.z (zfa gU) ?_)))))))))
    refine .y hs (zld af) (.z (zfa gW) (.y hs (zld af) (.z (zbd [_,_,_,_] dO) ?_)))
    refine .o (.buildSlice (cells:=fK (two 0 f (-c.lo) c.hi c.src)) hs eP rfl aq fun b39 w hs=>?_)
    refine .z zg (.nil ?_)
    refine .ret (Fin.bw Tryz.results212 rfl ?_)
    exact ⟨_,by unfold jW;rw [if_pos ak];exact .full (by simp [two,eb]),hs.sb⟩
theorem js{v:Value}{xs:List TD}{t:TD}(hs:St H w σ)(hr:RTd H v xs)(hl:xs.length≤1000000):
  Cl Tryz.prog 95 [v,.agg #[I t.tape,I t.day]] w fun u w'=>u=I (iU xs t)∧St H w' σ:=by
 obtain ⟨a,c,rfl⟩:=RTd.shape hr
 refine Cl.o Tryz.func95 Tryz.ntmps95 ag2 ?_
 refine .ai ?_
 refine .bx hs fun b3 w hs=>?_
 refine .z zg (.nil (.seq (.ai (.z zg (.nil (.block ?_))))))
 refine .loop (fun k:Nat=>⟨19,[],[(5,I (k:Int)),(3,.pointer (some ⟨b3,0,none⟩)),(0,.slice a xs.length c)]⟩)
  (fun k w=>k≤xs.length∧(∀j<k,∀y,xs[j]? =some y→¬y=t)∧St H w (.blk b3 [I t.tape,I t.day]::σ)) (fun k=>xs.length - k) 0 (.dA rfl bV bD)
  ⟨Nat.zero_le _,fun j hj=>by omega,hs⟩ ?_
 rintro k w ⟨hk,hno,hs⟩
 refine .seq (.ai (.z zm (.z zm (.z (cZ aV) (.z iM (.nil ?_))))))
 refine (.bT rfl (fun hc9=>?_) (fun hc9=>?_))
 ·refine .skip ?_
  refine nT ?_
  refine .seq (.block ?_)
  refine .seq (.draw mix rfl hs fun w hs=>?_)
  refine .z 0 rfl zm ?_;refine .z 1 rfl zm ?_
  obtain ⟨x,hx⟩:=nth (l:=xs) (k:=k) ak
  refine .ixX (enc:=TD.c) (i:=2) hs rfl aq .none hr rfl rfl aV bj hx dn ?_;intro b14 o14 hc14
  refine .r (i:=3) hs rfl aq .none (bK (vs:=x.c) rfl dv bj hc14) ?_
  refine .ys 4 rfl hs [_,_] dv bj ?_
  refine .z 5 rfl (xR sK sL gz (fun f hf=>by
   simp only [List.mem_cons,List.not_mem_nil,or_false] at hf
   rcases hf with rfl|rfl<;>exact ⟨by decide,aS,af⟩) rfl rfl) ?_
  refine .D hs ?_
  refine (.cond rfl (fun hc17=>?_) (fun hc17=>?_))
  ·refine .ai (.z zm (.z zg (.nil ?_)))
   refine .ret (rB (rT (rT (rB (rT (Fin.bw Tryz.results95 rfl ?_))))))
   have e:x=t:=D5.1 (of_decide_eq_true hc17)
   subst e
   exact ⟨by rw [pG hx fun j hj h=>hno j hj _ h rfl],hs.tail⟩
  ·refine .skip ?_
   refine nB (nT ?_)
   refine .region (.z zm (.z cf (.z zg (.nil ?_))))
   refine nT ?_
   exact ⟨k+1,.dA rfl bV bD,⟨ak,eK hno hx (fun e=>by subst e;simp at hc17),hs⟩,ak⟩
 ·refine .exit ?_
  refine xT (xT (xB (nT ?_)))
  refine .ai (.z zg (.nil ?_))
  refine .ret (Fin.bw Tryz.results95 rfl ?_)
  obtain rfl:k=xs.length:=by omega
  exact ⟨by rw [wb hno],hs.tail⟩
theorem mH{v:Value}{en:Ent}{xs:List TD}{t:TD}(hs:St H w (en::σ))(hO:bU 2 v (tdc xs).flatten en)(hl:xs.length≤1000000):
  Cl Tryz.prog 95 [v,.agg #[I t.tape,I t.day]] w fun u w'=>u=I (iU xs t)∧St H w' (en::σ):=by
 obtain ⟨a,c,rfl⟩:=hO.kX (oG xs) ak
 rw [dJ] at hO ⊢
 refine Cl.o Tryz.func95 Tryz.ntmps95 ag2 ?_
 refine .ai ?_
 refine .bx hs fun b3 w hs=>?_
 refine .z zg (.nil (.seq (.ai (.z zg (.nil (.block ?_))))))
 refine .loop (fun k:Nat=>⟨19,[],[(5,I (k:Int)),(3,.pointer (some ⟨b3,0,none⟩)),(0,.slice a xs.length c)]⟩)
  (fun k w=>k≤xs.length∧(∀j<k,∀y,xs[j]? =some y→¬y=t)∧St H w (.blk b3 [I t.tape,I t.day]::en::σ)) (fun k=>xs.length - k) 0 (.dA rfl bV bD)
  ⟨Nat.zero_le _,fun j hj=>by omega,hs⟩ ?_
 rintro k w ⟨hk,hno,hs⟩
 refine .seq (.ai (.z zm (.z zm (.z (cZ aV) (.z iM (.nil ?_))))))
 refine (.bT rfl (fun hc9=>?_) (fun hc9=>?_))
 ·refine .skip ?_
  refine nT ?_
  refine .seq (.block ?_)
  refine .seq (.draw mix rfl hs fun w hs=>?_)
  refine .z 0 rfl zm ?_;refine .z 1 rfl zm ?_
  obtain ⟨x,hx⟩:=nth (l:=xs) (k:=k) ak
  obtain ⟨b,c',sp,hv,rfl,_⟩:=hO.Jz (oG xs) ak (by rw [dJ];omega)
  rw [dJ] at hv
  cases hv
  refine .z 2 rfl (AV aV bj) ?_
  refine .Bh (i:=3) (vs:=x.c) hs rfl aq .none rfl dv bj ?_ (hv:=Ct (oG xs) (BW hx) sp)
  refine .ys 4 rfl hs [_,_] dv bj ?_
  refine .z 5 rfl (xR sK sL gz (fun f hf=>by
   simp only [List.mem_cons,List.not_mem_nil,or_false] at hf
   rcases hf with rfl|rfl<;>exact ⟨by decide,aS,af⟩) rfl rfl) ?_
  refine .D hs ?_
  refine (.cond rfl (fun hc17=>?_) (fun hc17=>?_))
  ·refine .ai (.z zm (.z zg (.nil ?_)))
   refine .ret (rB (rT (rT (rB (rT (Fin.bw Tryz.results95 rfl ?_))))))
   have e:x=t:=D5.1 (of_decide_eq_true hc17)
   subst e
   exact ⟨by rw [pG hx fun j hj h=>hno j hj _ h rfl],hs.tail⟩
  ·refine .skip ?_
   refine nB (nT ?_)
   refine .region (.z zm (.z cf (.z zg (.nil ?_))))
   refine nT ?_
   exact ⟨k+1,.dA rfl bV bD,⟨ak,eK hno hx (fun e=>by subst e;simp at hc17),hs⟩,ak⟩
 ·refine .exit ?_
  refine xT (xT (xB (nT ?_)))
  refine .ai (.z zg (.nil ?_))
  refine .ret (Fin.bw Tryz.results95 rfl ?_)
  obtain rfl:k=xs.length:=by omega
  exact ⟨by rw [wb hno],hs.tail⟩
set_option maxHeartbeats 1000000 in
theorem gR{vr:Value}{rs:List Rdg}(hs:St H w σ)(hr:RRd H vr rs)(hl:rs.length≤1000000):
  Cl Tryz.prog 96 [vr] w fun u w'=>∃H1,HLe H H1∧RTd H1 u (aK rs)∧St H1 w' σ:=by
 obtain ⟨ar,cr,rfl⟩:=RRd.shape hr
 refine Cl.o Tryz.func96 Tryz.ntmps96 ag1 ?_
 refine .ai (.z zg (.nil (.ai (.z zg (.nil (.seq (.ai (.z zg (.nil ?_)))))))))
 refine .block ?_
 refine .loop (fun p:Nat×Value=>⟨32,[],[(4,I (p.1:Int)),(3,p.2),(0,.slice ar rs.length cr)]⟩)
  (fun p w=>p.1≤rs.length∧∃en,bU 2 p.2 (tdc (aK (rs.take p.1))).flatten en∧St H w (en::σ)) (fun p=>rs.length - p.1) (0,.slice none 0 0) bD
  ⟨Nat.zero_le _,_,.nil 2 none,hs.nul⟩ ?_
 rintro ⟨k,vo⟩ w ⟨hk,en,hO,hs⟩
 dsimp only at hk hO ⊢
 have htl:=jX rs k ak
 obtain ⟨ao,co,rfl⟩:=hO.kX (oG _) ak
 rw [dJ] at hO ⊢
 refine .seq (.ai (.z zm (.z zm (.z (cZ aN) (.z iM (.nil ?_))))))
 refine (.bT rfl (fun hc9=>?_) (fun hc9=>?_))
 ·refine .skip ?_
  refine nT ?_
  refine .seq (.block ?_)
  refine .seq (.draw mix rfl hs fun w hs=>?_)
  refine .z 0 rfl zm ?_;refine .z 1 rfl zm ?_
  obtain ⟨r,hx⟩:=nth (l:=rs) (k:=k) ak
  have htk:=iq hx
  refine .ixX (enc:=Rdg.c) (i:=2) hs rfl aq .none hr rfl rfl aN aW hx dn ?_;intro b14 o14 hc14
  have d14:cellAt H b14 (o14+5)=some (I r.tape):=hc14 5 _ rfl
  refine .z 3 rfl (zfa dY) ?_;refine .y 4 rfl hs af ?_;refine .z 5 rfl zm ?_;refine .z 6 rfl zm ?_
  refine .ixX (enc:=Rdg.c) (i:=7) hs rfl aq .none hr rfl rfl aN aW hx dn ?_;intro b19 o19 hc19
  have d19:cellAt H b19 (o19+6)=some (I r.day):=hc19 6 _ rfl
  refine .z 8 rfl (zfa dX) ?_;refine .y 9 rfl hs af ?_;refine .z 10 rfl (zbd [_,_] gq) ?_
  refine .E 11 hs ?_
  refine .alloc hs jR rfl ?_;intro b5 w hs
  refine .go ?_
  refine .E 12 hs ?_
  refine .aI (vs:=[_,_]) hs rfl rfl bj ?_;intro w hs
  refine .go ?_
  refine .D hs ?_
  refine .ai (.z zm (.y hs (zls [_,_] dv bj) ?_))
  refine .o (.call Tryz.call95 rfl (mH (t:=r.td) (hs.sb:St H w (en:: .blk b5 [I r.tape,I r.day]::σ)) hO ak) ?_);rintro _ w ⟨rfl,hs⟩
  have hnn:=rC (l:=aK (rs.take k)) (t:=r.td)
  refine .z iM (.nil ?_)
  refine (.bT rfl (fun hc26=>?_) (fun hc26=>?_))
  ·refine .region (.z zm (.y hs (zls [_,_] dv bj) ?_))
   refine .o (.buildSlice (cells:=[_,_]) hs gK rfl rfl fun b29 w hs=>?_)
   refine .o (.append (ys:=r.td.c) hs dQ rfl rfl hO (.own .here rfl rfl) (by simp [TD.c,Value.oneCell']) (fun l h=>by rw [cK _ (oG _),dJ] at h;omega) ?_);intro v30 en30 w hO2 hs
   refine .z zg (.nil ?_)
   refine nB (nT ?_)
   refine .region (.z zm (.z cf (.z zg (.nil ?_))))
   refine nT ?_
   have hn:r.td∉aK (rs.take k):=fun hm=>by have:=hnn.2 hm;omega
   rw [←vZ,show aK (rs.take k)++[r.td]=aK (rs.take (k+1)) by rw [htk];unfold nS;rw [if_neg hn]] at hO2
   exact ⟨(k+1,v30),.dA rfl bV bD,⟨by dsimp only;omega,_,hO2,hs.sb⟩,by dsimp only;omega⟩
  ·refine .skip ?_
   refine nB (nT ?_)
   refine .region (.z zm (.z cf (.z zg (.nil ?_))))
   refine nT ?_
   have hm:r.td∈aK (rs.take k):=hnn.1 ak
   exact ⟨(k+1,_),.dA rfl bV bD,⟨by dsimp only;omega,en,by dsimp only;rw [htk];unfold nS;rw [if_pos hm];exact hO,hs.sb⟩,by dsimp only;omega⟩
 ·refine .exit ?_
  refine xT (xT (xB (nT ?_)))
  refine .ai (.z zm (.z zg (.nil ?_)))
  refine .ret (Fin.bw Tryz.results96 rfl ?_)
  obtain rfl:k=rs.length:=by omega
  rw [List.take_length] at hO
  have htl:=dc rs
  obtain ⟨H2,hle2,hR,hs⟩:=bU.cg (m:=2) (cs:=tdc (aK rs)) hO (oG _) ak (by rw [dJ];omega) hs .here
  rw [List.take_length]
  exact ⟨H2,hle2,hR,hs⟩
theorem BN(s:Spc)(i k:Nat):1+(i:Int)*(s.wa.length:Int)+(k:Int)=(s.u i k:Int):=by
 unfold Spc.u;rw [Int.natCast_add,Int.natCast_add,Int.natCast_mul];rfl
theorem HA(s:Spc)(i k:Nat):1+((i:Int)+1)*(s.wa.length:Int)+(k:Int)=(s.u (i+1) k:Int):=by
 rw [←BN];rfl
theorem Hv(s:Spc)(i k:Nat):1+(i:Int)*(s.wa.length:Int)+((k:Int)+1)=(s.u i (k+1):Int):=by
 rw [←BN];rfl
theorem ku{f:Nat→Nat→List Lim}(hf:∀i k,(f i k).length≤2)(i:Nat):∀k,(la f i k).length≤2*k
 |0=>by simp [la]
 |k+1=>by have:=ku hf i k;have:=hf i k;simp only [la,List.length_append];omega
theorem k9{f:Nat→Nat→List Lim}(hf:∀i k,(f i k).length≤2){m n:Nat}(hm:m≤7)(hn:n≤9)(h0:0<m):(dG f m n).length≤126:=by
 have h1:=eh hf (n:=n) h0
 have:n*m≤9*7:=Nat.mul_le_mul hn hm
 omega
theorem GW{s:Spc}(h0:0<s.st.length):dG (alL s) s.wa.length s.st.length=dG (alL s) s.wa.length (s.st.length - 1):=by
 obtain ⟨n,hn⟩:∃n,s.st.length=n+1:=⟨s.st.length - 1,ak⟩
 have key:∀k,la (alL s) n k=[]:=by
  intro k
  induction k with
  |zero=>rfl
  |succ k ih=>simp only [la];rw [ih];unfold alL;rw [if_neg ak];rfl
 rw [hn,Nat.add_sub_cancel]
 simp only [dG]
 rw [key,List.append_nil]
theorem Ga{s:Spc}(i:Nat)(h0:0<s.wa.length):la (upL s) i s.wa.length=la (upL s) i (s.wa.length - 1):=by
 obtain ⟨n,hn⟩:∃n,s.wa.length=n+1:=⟨s.wa.length - 1,ak⟩
 have e:upL s i n=[]:=by unfold upL;rw [if_neg ak]
 rw [hn,Nat.add_sub_cancel]
 simp only [la]
 rw [e,List.append_nil]
set_option maxHeartbeats 4000000 in
theorem sc{s:Srv}{vst vwa vr vc:Value}(hs:St H w σ)(h1:RI H vst s.sp.st)(h2:RI H vwa s.sp.wa)(h3:RRd H vr s.rs)(h4:RCm H vc s.cs)(he:s.early):
  Cl Tryz.prog 152 [.agg #[I s.sp.id,I s.sp.src,vst,vwa,I s.sp.al,I s.sp.up,vr,vc]] w fun u w'=>∃H1 en,HLe H H1∧bU 4 u (fK s.bL) en∧St H1 w' (en::σ):=by
 obtain ⟨ast,cst,rfl⟩:=RI.shape h1
 obtain ⟨awa,cwa,rfl⟩:=RI.shape h2
 obtain ⟨ar,cr,rfl⟩:=RRd.shape h3
 obtain ⟨ac,cc,rfl⟩:=RCm.shape h4
 obtain ⟨hok,hrl,hcl,hrs,hcs⟩:=he
 have hsm:=eL hok
 have hn1:=hok.st.many
 have hn2:=hok.wa.many
 have hn3:=hok.st.two
 have hn4:=hok.wa.two
 have ha:=k9 (lI s.sp) (m:=s.sp.wa.length) (n:=s.sp.st.length) ak ak ak
 have hb:=k9 (pn s.sp) (m:=s.sp.wa.length) (n:=s.sp.st.length) ak ak ak
 have hc:=k9 (oF s.sp) (m:=s.sp.wa.length) (n:=s.sp.st.length) ak ak ak
 have hal:=hok.al
 have hup:=hok.up
 refine Cl.o Tryz.func152 Tryz.ntmps152 ag1 ?_
 refine .ai ?_
 refine .bx hs fun b1 w hs=>?_
 refine .z zg (.nil (.ai (.z (zfa bC) (.y hs (zls [_,_,_,_,_,_] aT aF) ?_))))
 refine .o (.alloc hs iO rfl fun b3 w hs=>?_)
 refine .o (.aI (vs:=[_,_,_,_,_,_]) hs rfl rfl aF fun w hs=>?_)
 refine .nil (.ai (.z zg (.nil (.seq (.ai (.z zg (.nil (.block ?_))))))))
 refine .loop (fun p:Nat×Value=>⟨243,[],[(5,I (p.1:Int)),(4,p.2),(3,.pointer (some ⟨b3,0,none⟩)),(1,.pointer (some ⟨b1,0,none⟩))]⟩)
  (fun p w=>p.1≤s.sp.st.length∧∃en,bU 4 p.2 (fK (dG (qh s.sp) s.sp.wa.length p.1)) en∧St H w (en:: .blk b3 [I s.sp.id,I s.sp.src,.slice ast s.sp.st.length cst,.slice awa s.sp.wa.length cwa,I s.sp.al,I s.sp.up]:: .blk b1 [I s.sp.id,I s.sp.src,.slice ast s.sp.st.length cst,.slice awa s.sp.wa.length cwa,I s.sp.al,I s.sp.up,.slice ar s.rs.length cr,.slice ac s.cs.length cc]::σ)) (fun p=>s.sp.st.length - p.1) (0,.slice none 0 0) bD
  ⟨by first|omega|exact Nat.zero_le _,_,.nil 4 none,hs.nul⟩ ?_
 rintro ⟨i,vo⟩ w ⟨hi,en,hO,hs⟩
 dsimp only at hi hO ⊢
 refine .seq (.ai (.z zm (.z (zfa bH) (.y hs (zld an) (.z (cZ ae) (.z iM (.nil ?_)))))))
 refine (.bT rfl (fun hc27=>?_) (fun hc27=>?_))
 ·refine .skip ?_
  refine nT ?_
  refine .seq (.block (.ai (.z zg (.nil (.block ?_)))))
  refine .loop (fun p:Nat×Value=>⟨243,[],[(6,I (p.1:Int)),(4,p.2),(5,I (i:Int)),(3,.pointer (some ⟨b3,0,none⟩)),(1,.pointer (some ⟨b1,0,none⟩))]⟩)
   (fun p w=>p.1≤s.sp.wa.length∧∃en,bU 4 p.2 (fK (dG (qh s.sp) s.sp.wa.length i++la (qh s.sp) i p.1)) en∧St H w (en:: .blk b3 [I s.sp.id,I s.sp.src,.slice ast s.sp.st.length cst,.slice awa s.sp.wa.length cwa,I s.sp.al,I s.sp.up]:: .blk b1 [I s.sp.id,I s.sp.src,.slice ast s.sp.st.length cst,.slice awa s.sp.wa.length cwa,I s.sp.al,I s.sp.up,.slice ar s.rs.length cr,.slice ac s.cs.length cc]::σ)) (fun p=>s.sp.wa.length - p.1) (0,vo) bD
   ⟨by first|omega|exact Nat.zero_le _,en,by show bU 4 vo (fK (_++[])) en;rw [List.append_nil];exact hO,hs⟩ ?_
  clear hO hs
  rintro ⟨k,vo⟩ w ⟨hk,en,hO,hs⟩
  dsimp only at hk hO ⊢
  have hl1:=k9 (lI s.sp) (m:=s.sp.wa.length) (n:=i) ak ak ak
  have hl2:=ku (lI s.sp) i k
  refine .seq (.ai (.z zm (.z (zfa a8) (.y hs (zld an) (.z (cZ ae) (.z iM (.nil ?_)))))))
  refine (.bT rfl (fun hc34=>?_) (fun hc34=>?_))
  ·refine .skip ?_
   refine nT ?_
   refine .seq (.block (.ai (.y hs (zls [_,_,_,_,_,_] aT aF) (.z zm (.z zm ?_)))))
   refine .o (.call xp rfl (dK (s:=s.sp) hs h2 ak ⟨ak,ak⟩ ⟨ak,ak⟩) ?_);rintro _ w ⟨rfl,hs⟩
   rw [BN]
   refine .z zg (.nil (.region (.z zm (.z zm (.z (zfa dB) (.y hs (zld af) (.z (zbd [_,_,_,_] dO) (.z zm (.z (zfa dB) ?_)))))))))
   refine .y hs (zld af) (.z (zbd [_,_,_,_] dO) ?_)
   refine .o (.buildSlice (cells:=fK (qh s.sp i k)) hs eP rfl aq fun b50 w hs=>?_)
   refine .o (.append (ys:=fK (qh s.sp i k)) hs bP rfl rfl hO (.own .here rfl rfl) (kc _) (fun l h=>by rw [eb,List.length_append] at h;omega) ?_);intro v51 en51 w hO2 hs
   rw [←gx,List.append_assoc] at hO2
   refine .z zg (.nil ?_)
   refine nB (nT ?_)
   refine .region (.z zm (.z cf (.z zg (.nil ?_))))
   refine nT ?_
   exact ⟨(k+1,v51),.dA rfl bV bD,⟨by dsimp only;omega,_,hO2,hs.sb⟩,by dsimp only;omega⟩
  ·refine .exit ?_
   refine xT (xT (xB (nB (nT ?_))))
   refine .region (.z zm (.z cf (.z zg (.nil ?_))))
   refine nT ?_
   obtain rfl:k=s.sp.wa.length:=by omega
   exact ⟨(i+1,_),.dA rfl bV bD,⟨by dsimp only;omega,en,hO,hs⟩,by dsimp only;omega⟩
 ·refine .exit ?_
  refine xT (xT (xB (nT ?_)))
  refine .seq (.ai (.z zg (.nil (.block ?_))))
  refine .loop (fun p:Nat×Value=>⟨243,[],[(8,I (p.1:Int)),(4,p.2),(3,.pointer (some ⟨b3,0,none⟩)),(1,.pointer (some ⟨b1,0,none⟩))]⟩)
   (fun p w=>p.1+1≤s.sp.st.length∧∃en,bU 4 p.2 (fK (dG (qh s.sp) s.sp.wa.length s.sp.st.length++dG (alL s.sp) s.sp.wa.length p.1)) en∧St H w (en:: .blk b3 [I s.sp.id,I s.sp.src,.slice ast s.sp.st.length cst,.slice awa s.sp.wa.length cwa,I s.sp.al,I s.sp.up]:: .blk b1 [I s.sp.id,I s.sp.src,.slice ast s.sp.st.length cst,.slice awa s.sp.wa.length cwa,I s.sp.al,I s.sp.up,.slice ar s.rs.length cr,.slice ac s.cs.length cc]::σ)) (fun p=>s.sp.st.length - p.1) (0,vo) bD
   ⟨by first|omega|exact Nat.zero_le _,en,by show bU 4 vo (fK (_++[])) en;rw [List.append_nil,←show i=s.sp.st.length by omega];exact hO,hs⟩ ?_
  clear hO hs
  rintro ⟨i,vo⟩ w ⟨hi,en,hO,hs⟩
  dsimp only at hi hO ⊢
  refine .seq (.ai (.z zm (.z cf (.z (zfa bH) (.y hs (zld an) (.z (cZ ae) (.z iM (.nil ?_))))))))
  refine (.bT rfl (fun hc57=>?_) (fun hc57=>?_))
  ·refine .skip ?_
   refine nT ?_
   refine .seq (.block (.ai (.z zg (.nil (.block ?_)))))
   refine .loop (fun p:Nat×Value=>⟨243,[],[(9,I (p.1:Int)),(4,p.2),(8,I (i:Int)),(3,.pointer (some ⟨b3,0,none⟩)),(1,.pointer (some ⟨b1,0,none⟩))]⟩)
    (fun p w=>p.1≤s.sp.wa.length∧∃en,bU 4 p.2 (fK (dG (qh s.sp) s.sp.wa.length s.sp.st.length++dG (alL s.sp) s.sp.wa.length i++la (alL s.sp) i p.1)) en∧St H w (en:: .blk b3 [I s.sp.id,I s.sp.src,.slice ast s.sp.st.length cst,.slice awa s.sp.wa.length cwa,I s.sp.al,I s.sp.up]:: .blk b1 [I s.sp.id,I s.sp.src,.slice ast s.sp.st.length cst,.slice awa s.sp.wa.length cwa,I s.sp.al,I s.sp.up,.slice ar s.rs.length cr,.slice ac s.cs.length cc]::σ)) (fun p=>s.sp.wa.length - p.1) (0,vo) bD
    ⟨by first|omega|exact Nat.zero_le _,en,by show bU 4 vo (fK (_++[])) en;rw [List.append_nil];exact hO,hs⟩ ?_
   clear hO hs
   rintro ⟨k,vo⟩ w ⟨hk,en,hO,hs⟩
   dsimp only at hk hO ⊢
   have hl1:=k9 (pn s.sp) (m:=s.sp.wa.length) (n:=i) ak ak ak
   have hl2:=ku (pn s.sp) i k
   refine .seq (.ai (.z zm (.z (zfa a8) (.y hs (zld an) (.z (cZ ae) (.z iM (.nil ?_)))))))
   refine (.bT rfl (fun hc64=>?_) (fun hc64=>?_))
   ·refine .skip ?_
    refine nT ?_
    refine .seq (.block ?_)
    refine .draw mix rfl hs fun w hs=>?_
    refine .z 0 rfl zm ?_;refine .ys 1 rfl hs [_,_,_,_,_,_] aT aF ?_;refine .z 2 rfl zm ?_;refine .z 3 rfl zm ?_;refine .ys 5 rfl hs [_,_,_,_,_,_] aT aF ?_;refine .z 6 rfl zm ?_;refine .z 7 rfl cf ?_;refine .z 8 rfl zm ?_;refine .z 10 rfl (zfa eU) ?_;refine .z 11 rfl (zfa lG) ?_
    refine .y 12 rfl hs af ?_;refine .z 13 rfl (zfa bH) ?_;refine .y 14 rfl hs an ?_;refine .z 15 rfl zm ?_;refine .z 16 rfl cf ?_
    have hris:=hok.st.rise i ak
    have hq0:=hok.st.bd (i:=i) ak
    have hq1:=hok.st.bd (i:=i+1) ak
    refine .ixX (enc:=fun x=>[I x]) (i:=17) hs rfl aq .none h1 rfl rfl ae aj (bF (l:=s.sp.st) (i:=(i+1)) ak) dn ?_;intro b84 o84 hc84;replace hc84:=bO.one hc84
    refine .r (i:=18) hs rfl aq .none (aR rfl af hc84) ?_
    refine .z 19 rfl (zfa bH) ?_;refine .y 20 rfl hs an ?_;refine .z 21 rfl zm ?_
    refine .ixX (enc:=fun x=>[I x]) (i:=22) hs rfl aq .none h1 rfl rfl ae aj (bF (l:=s.sp.st) (i:=i) ak) dn ?_;intro b89 o89 hc89;replace hc89:=bO.one hc89
    refine .r (i:=23) hs rfl aq .none (aR rfl af hc89) ?_
    refine .z 24 rfl gZ ?_;refine .z 26 rfl (zfa dB) ?_;refine .y 27 rfl hs af ?_
    refine .E 4 hs ?_
    refine .call xp rfl (dK (s:=s.sp) hs h2 ak ⟨ak,ak⟩ ⟨ak,ak⟩) ?_;rintro _ w ⟨rfl,hs⟩
    rw [BN]
    refine .go ?_
    refine .E 9 hs ?_
    refine .call xp rfl (dK (s:=s.sp) hs h2 ak ⟨ak,ak⟩ ⟨ak,ak⟩) ?_;rintro _ w ⟨rfl,hs⟩
    rw [HA]
    refine .go ?_
    refine .E 25 hs ?_
    refine .call Tryz.call211 rfl (kZ hs ak ak) ?_;rintro _ w ⟨rfl,hs⟩
    refine .go ?_
    refine .E 28 hs ?_
    refine .call Tryz.call210 rfl (jY hs) ?_;rintro _ w ⟨b95,rfl,hs⟩
    rw [show two (s.sp.u i k:Int) _ _ _ _=alL s.sp i k by unfold alL;rw [if_pos ak]] at hs
    refine .go ?_
    refine .E 29 hs ?_
    refine .append (ys:=fK (alL s.sp i k)) hs bP rfl rfl hO (.own .here bV (by rw [eb];unfold alL;rw [if_pos ak];rfl)) (kc _) (fun l h=>by rw [eb] at h;simp only [List.length_append] at h;omega) ?_;intro v96 en96 w hO2 hs
    rw [←gx,List.append_assoc _ (la _ _ _)] at hO2
    refine .go ?_
    refine .z 30 rfl zg ?_;refine .D hs ?_
    refine nB (nT ?_)
    refine .region (.z zm (.z cf (.z zg (.nil ?_))))
    refine nT ?_
    exact ⟨(k+1,v96),.dA rfl bV bD,⟨by dsimp only;omega,_,hO2,hs.sb⟩,by dsimp only;omega⟩
   ·refine .exit ?_
    refine xT (xT (xB (nB (nT ?_))))
    refine .region (.z zm (.z cf (.z zg (.nil ?_))))
    refine nT ?_
    obtain rfl:k=s.sp.wa.length:=by omega
    rw [List.append_assoc] at hO
    exact ⟨(i+1,_),.dA rfl bV bD,⟨by dsimp only;omega,en,hO,hs⟩,by dsimp only;omega⟩
  ·refine .exit ?_
   refine xT (xT (xB (nT ?_)))
   refine .seq (.ai (.z zg (.nil (.block ?_))))
   refine .loop (fun p:Nat×Value=>⟨243,[],[(10,I (p.1:Int)),(4,p.2),(3,.pointer (some ⟨b3,0,none⟩)),(1,.pointer (some ⟨b1,0,none⟩))]⟩)
    (fun p w=>p.1≤s.sp.st.length∧∃en,bU 4 p.2 (fK (dG (qh s.sp) s.sp.wa.length s.sp.st.length++dG (alL s.sp) s.sp.wa.length s.sp.st.length++dG (upL s.sp) s.sp.wa.length p.1)) en∧St H w (en:: .blk b3 [I s.sp.id,I s.sp.src,.slice ast s.sp.st.length cst,.slice awa s.sp.wa.length cwa,I s.sp.al,I s.sp.up]:: .blk b1 [I s.sp.id,I s.sp.src,.slice ast s.sp.st.length cst,.slice awa s.sp.wa.length cwa,I s.sp.al,I s.sp.up,.slice ar s.rs.length cr,.slice ac s.cs.length cc]::σ)) (fun p=>s.sp.st.length - p.1) (0,vo) bD
    ⟨by first|omega|exact Nat.zero_le _,en,by show bU 4 vo (fK (_++[])) en;rw [List.append_nil,GW ak,←show i=s.sp.st.length - 1 by omega];exact hO,hs⟩ ?_
   clear hO hs
   rintro ⟨i,vo⟩ w ⟨hi,en,hO,hs⟩
   dsimp only at hi hO ⊢
   refine .seq (.ai (.z zm (.z (zfa bH) (.y hs (zld an) (.z (cZ ae) (.z iM (.nil ?_)))))))
   refine (.bT rfl (fun hc101=>?_) (fun hc101=>?_))
   ·refine .skip ?_
    refine nT ?_
    refine .seq (.block (.ai (.z zg (.nil (.block ?_)))))
    refine .loop (fun p:Nat×Value=>⟨243,[],[(11,I (p.1:Int)),(4,p.2),(10,I (i:Int)),(3,.pointer (some ⟨b3,0,none⟩)),(1,.pointer (some ⟨b1,0,none⟩))]⟩)
     (fun p w=>p.1+1≤s.sp.wa.length∧∃en,bU 4 p.2 (fK (dG (qh s.sp) s.sp.wa.length s.sp.st.length++dG (alL s.sp) s.sp.wa.length s.sp.st.length++dG (upL s.sp) s.sp.wa.length i++la (upL s.sp) i p.1)) en∧St H w (en:: .blk b3 [I s.sp.id,I s.sp.src,.slice ast s.sp.st.length cst,.slice awa s.sp.wa.length cwa,I s.sp.al,I s.sp.up]:: .blk b1 [I s.sp.id,I s.sp.src,.slice ast s.sp.st.length cst,.slice awa s.sp.wa.length cwa,I s.sp.al,I s.sp.up,.slice ar s.rs.length cr,.slice ac s.cs.length cc]::σ)) (fun p=>s.sp.wa.length - p.1) (0,vo) bD
     ⟨by first|omega|exact Nat.zero_le _,en,by show bU 4 vo (fK (_++[])) en;rw [List.append_nil];exact hO,hs⟩ ?_
    clear hO hs
    rintro ⟨k,vo⟩ w ⟨hk,en,hO,hs⟩
    dsimp only at hk hO ⊢
    have hl1:=k9 (oF s.sp) (m:=s.sp.wa.length) (n:=i) ak ak ak
    have hl2:=ku (oF s.sp) i k
    refine .seq (.ai (.z zm (.z cf (.z (zfa a8) (.y hs (zld an) (.z (cZ ae) (.z iM (.nil ?_))))))))
    refine (.bT rfl (fun hc109=>?_) (fun hc109=>?_))
    ·refine .skip ?_
     refine nT ?_
     refine .seq (.block ?_)
     refine .draw mix rfl hs fun w hs=>?_
     refine .z 0 rfl zm ?_;refine .ys 1 rfl hs [_,_,_,_,_,_] aT aF ?_;refine .z 2 rfl zm ?_;refine .z 3 rfl zm ?_;refine .ys 5 rfl hs [_,_,_,_,_,_] aT aF ?_;refine .z 6 rfl zm ?_;refine .z 7 rfl zm ?_;refine .z 8 rfl cf ?_;refine .z 10 rfl (zfa eU) ?_;refine .z 11 rfl (zfa lF) ?_
     refine .y 12 rfl hs af ?_;refine .z 13 rfl (zfa a8) ?_;refine .y 14 rfl hs an ?_;refine .z 15 rfl zm ?_;refine .z 16 rfl cf ?_
     have hris:=hok.wa.rise k ak
     have hq0:=hok.wa.bd (i:=k) ak
     have hq1:=hok.wa.bd (i:=k+1) ak
     refine .ixX (enc:=fun x=>[I x]) (i:=17) hs rfl aq .none h2 rfl rfl ae aj (bF (l:=s.sp.wa) (i:=(k+1)) ak) dn ?_;intro b129 o129 hc129;replace hc129:=bO.one hc129
     refine .r (i:=18) hs rfl aq .none (aR rfl af hc129) ?_
     refine .z 19 rfl (zfa a8) ?_;refine .y 20 rfl hs an ?_;refine .z 21 rfl zm ?_
     refine .ixX (enc:=fun x=>[I x]) (i:=22) hs rfl aq .none h2 rfl rfl ae aj (bF (l:=s.sp.wa) (i:=k) ak) dn ?_;intro b134 o134 hc134;replace hc134:=bO.one hc134
     refine .r (i:=23) hs rfl aq .none (aR rfl af hc134) ?_
     refine .z 24 rfl gZ ?_;refine .z 26 rfl (zfa dB) ?_;refine .y 27 rfl hs af ?_
     refine .E 4 hs ?_
     refine .call xp rfl (dK (s:=s.sp) hs h2 ak ⟨ak,ak⟩ ⟨ak,ak⟩) ?_;rintro _ w ⟨rfl,hs⟩
     rw [BN]
     refine .go ?_
     refine .E 9 hs ?_
     refine .call xp rfl (dK (s:=s.sp) hs h2 ak ⟨ak,ak⟩ ⟨ak,ak⟩) ?_;rintro _ w ⟨rfl,hs⟩
     rw [Hv]
     refine .go ?_
     refine .E 25 hs ?_
     refine .call Tryz.call211 rfl (kZ hs ak ak) ?_;rintro _ w ⟨rfl,hs⟩
     refine .go ?_
     refine .E 28 hs ?_
     refine .call Tryz.call210 rfl (jY hs) ?_;rintro _ w ⟨b140,rfl,hs⟩
     rw [show two (s.sp.u i k:Int) _ _ _ _=upL s.sp i k by unfold upL;rw [if_pos ak]] at hs
     refine .go ?_
     refine .E 29 hs ?_
     refine .append (ys:=fK (upL s.sp i k)) hs bP rfl rfl hO (.own .here bV (by rw [eb];unfold upL;rw [if_pos ak];rfl)) (kc _) (fun l h=>by rw [eb] at h;simp only [List.length_append] at h;omega) ?_;intro v141 en141 w hO2 hs
     rw [←gx,List.append_assoc _ (la _ _ _)] at hO2
     refine .go ?_
     refine .z 30 rfl zg ?_;refine .D hs ?_
     refine nB (nT ?_)
     refine .region (.z zm (.z cf (.z zg (.nil ?_))))
     refine nT ?_
     exact ⟨(k+1,v141),.dA rfl bV bD,⟨by dsimp only;omega,_,hO2,hs.sb⟩,by dsimp only;omega⟩
    ·refine .exit ?_
     refine xT (xT (xB (nB (nT ?_))))
     refine .region (.z zm (.z cf (.z zg (.nil ?_))))
     refine nT ?_
     obtain rfl:k=s.sp.wa.length - 1:=by omega
     rw [List.append_assoc,←Ga i ak] at hO
     exact ⟨(i+1,_),.dA rfl bV bD,⟨by dsimp only;omega,en,hO,hs⟩,by dsimp only;omega⟩
   ·refine .exit ?_
    refine xT (xT (xB (nT ?_)))
    refine .ai (.z (zfa br) (.y hs (zld cS) ?_))
    obtain rfl:i=s.sp.st.length:=by omega
    refine .o (.call Tryz.call96 rfl (gR hs h3 ak) ?_);rintro v144 w ⟨H1,hle1,hT,hs⟩
    replace hT:RTd H1 v144 s.bq:=hT
    have htl:s.bq.length≤60:=by have:=dc s.rs;unfold Srv.bq;omega
    have hmem:∀r∈s.rs,r.td∈s.bq:=fun r hr=>dV.2 ⟨r,hr,rfl⟩
    have hlims:s.bL=dG (qh s.sp) s.sp.wa.length s.sp.st.length++dG (alL s.sp) s.sp.wa.length s.sp.st.length++dG (upL s.sp) s.sp.wa.length s.sp.st.length++vE s.sp s.bq.length++qf s.sp s.bq s.cs 0 s.cs.length++tv s.sp s.bq s.rs s.rs.length:=rfl
    generalize s.bq=ts at*
    obtain ⟨at_,ct,rfl⟩:=RTd.shape hT
    refine .z zg (.nil (.ai (.y hs (zls [_,_,_,_,_,_] aT aF) ?_)))
    refine .o (.call Tryz.call94 rfl (fO (s:=s.sp) hs (h1.mono hle1) (h2.mono hle1) ⟨ak,ak⟩) ?_);rintro _ w ⟨rfl,hs⟩
    refine .z zg (.nil (.seq (.ai (.z zg (.nil (.block ?_))))))
    refine .loop (fun p:Nat×Value=>⟨243,[],[(14,I (p.1:Int)),(4,p.2),(12,.slice at_ ts.length ct),(13,I (s.sp.many:Int)),(3,.pointer (some ⟨b3,0,none⟩)),(1,.pointer (some ⟨b1,0,none⟩))]⟩)
     (fun p w=>p.1≤ts.length∧∃en,bU 4 p.2 (fK (dG (qh s.sp) s.sp.wa.length s.sp.st.length++dG (alL s.sp) s.sp.wa.length s.sp.st.length++dG (upL s.sp) s.sp.wa.length s.sp.st.length++vE s.sp p.1)) en∧St H1 w (en:: .blk b3 [I s.sp.id,I s.sp.src,.slice ast s.sp.st.length cst,.slice awa s.sp.wa.length cwa,I s.sp.al,I s.sp.up]:: .blk b1 [I s.sp.id,I s.sp.src,.slice ast s.sp.st.length cst,.slice awa s.sp.wa.length cwa,I s.sp.al,I s.sp.up,.slice ar s.rs.length cr,.slice ac s.cs.length cc]::σ)) (fun p=>ts.length - p.1) (0,vo) bD
     ⟨by first|omega|exact Nat.zero_le _,en,by show bU 4 vo (fK (_++[])) en;rw [List.append_nil];exact hO,hs⟩ ?_
    clear hO hs
    rintro ⟨j,vo⟩ w ⟨hj,en,hO,hs⟩
    dsimp only at hj hO ⊢
    have hel:=fC s.sp j
    refine .seq (.ai (.z zm (.z zm (.z (cZ aV) (.z iM (.nil ?_))))))
    refine (.bT rfl (fun hc150=>?_) (fun hc150=>?_))
    ·refine .skip ?_
     refine nT ?_
     refine .seq (.block (.region (.z zm (.z zm (.z cf (.z zm (.z cf (.z (zfa dB) (.y hs (zld af) ?_)))))))))
     refine .o (.call Tryz.call210 rfl (jY hs) ?_);rintro _ w ⟨b160,rfl,hs⟩
     refine .o (.append (ys:=fK (two 0 ((s.sp.many:Int)+1+(j:Int)) 1000 1000 s.sp.src)) hs bP rfl rfl hO (.own .here rfl rfl) (kc _) (fun l h=>by rw [eb] at h;simp only [List.length_append] at h;omega) ?_);intro v161 en161 w hO2 hs
     rw [←gx,List.append_assoc _ (vE _ _),show (s.sp.many:Int)+1+(j:Int)=((s.sp.many+1+j:Nat):Int) by omega] at hO2
     refine .z zg (.nil ?_)
     refine nB (nT ?_)
     refine .region (.z zm (.z cf (.z zg (.nil ?_))))
     refine nT ?_
     exact ⟨(j+1,v161),.dA rfl bV bD,⟨by dsimp only;omega,_,hO2,hs.sb⟩,by dsimp only;omega⟩
    ·refine .exit ?_
     refine xT (xT (xB (nT ?_)))
     refine .seq (.ai (.z zg (.nil (.block ?_))))
     refine .loop (fun p:Nat×Value=>⟨243,[],[(15,I (p.1:Int)),(4,p.2),(12,.slice at_ ts.length ct),(13,I (s.sp.many:Int)),(3,.pointer (some ⟨b3,0,none⟩)),(1,.pointer (some ⟨b1,0,none⟩))]⟩)
      (fun p w=>p.1≤s.cs.length∧∃en,bU 4 p.2 (fK (dG (qh s.sp) s.sp.wa.length s.sp.st.length++dG (alL s.sp) s.sp.wa.length s.sp.st.length++dG (upL s.sp) s.sp.wa.length s.sp.st.length++vE s.sp ts.length++qf s.sp ts s.cs 0 p.1)) en∧St H1 w (en:: .blk b3 [I s.sp.id,I s.sp.src,.slice ast s.sp.st.length cst,.slice awa s.sp.wa.length cwa,I s.sp.al,I s.sp.up]:: .blk b1 [I s.sp.id,I s.sp.src,.slice ast s.sp.st.length cst,.slice awa s.sp.wa.length cwa,I s.sp.al,I s.sp.up,.slice ar s.rs.length cr,.slice ac s.cs.length cc]::σ)) (fun p=>s.cs.length - p.1) (0,vo) bD
      ⟨by first|omega|exact Nat.zero_le _,en,by show bU 4 vo (fK (_++[])) en;rw [List.append_nil,←show j=ts.length by omega];exact hO,hs⟩ ?_
     clear hO hs
     rintro ⟨i,vo⟩ w ⟨hi,en,hO,hs⟩
     dsimp only at hi hO ⊢
     have hel:=fC s.sp ts.length
     have hcl1:=ig s.sp ts s.cs 0 i
     have hcl2:i*(2*(ts.length - 0))≤20*(2*60):=Nat.mul_le_mul ak ak
     refine .seq (.ai (.z zm (.z (zfa dr) (.y hs (zld oa) (.z (cZ cR) (.z iM (.nil ?_)))))))
     refine (.bT rfl (fun hc166=>?_) (fun hc166=>?_))
     ·refine .skip ?_
      refine nT ?_
      refine .seq (.block (.ai (.z zg (.nil (.block ?_)))))
      refine .loop (fun p:Nat×Value=>⟨243,[],[(16,I (p.1:Int)),(4,p.2),(15,I (i:Int)),(12,.slice at_ ts.length ct),(13,I (s.sp.many:Int)),(3,.pointer (some ⟨b3,0,none⟩)),(1,.pointer (some ⟨b1,0,none⟩))]⟩)
       (fun p w=>p.1≤ts.length∧∃en,bU 4 p.2 (fK (dG (qh s.sp) s.sp.wa.length s.sp.st.length++dG (alL s.sp) s.sp.wa.length s.sp.st.length++dG (upL s.sp) s.sp.wa.length s.sp.st.length++vE s.sp ts.length++qf s.sp ts s.cs 0 i++jj s.sp ts (zK s.cs i) 0 p.1)) en∧St H1 w (en:: .blk b3 [I s.sp.id,I s.sp.src,.slice ast s.sp.st.length cst,.slice awa s.sp.wa.length cwa,I s.sp.al,I s.sp.up]:: .blk b1 [I s.sp.id,I s.sp.src,.slice ast s.sp.st.length cst,.slice awa s.sp.wa.length cwa,I s.sp.al,I s.sp.up,.slice ar s.rs.length cr,.slice ac s.cs.length cc]::σ)) (fun p=>ts.length - p.1) (0,vo) bD
       ⟨by first|omega|exact Nat.zero_le _,en,by show bU 4 vo (fK (_++[])) en;rw [List.append_nil];exact hO,hs⟩ ?_
      clear hO hs
      rintro ⟨j,vo⟩ w ⟨hj,en,hO,hs⟩
      dsimp only at hj hO ⊢
      have hl1:=kz s.sp ts (zK s.cs i) 0 j
      refine .seq (.ai (.z zm (.z zm (.z (cZ aV) (.z iM (.nil ?_))))))
      refine (.bT rfl (fun hc172=>?_) (fun hc172=>?_))
      ·refine .skip ?_
       refine nT ?_
       refine .seq (.block ?_)
       refine .draw mix rfl hs fun w hs=>?_
       refine .z 0 rfl zm ?_;refine .z 1 rfl (zfa dr) ?_;refine .y 2 rfl hs oa ?_;refine .z 3 rfl zm ?_
       obtain ⟨c,hx⟩:=nth (l:=s.cs) (k:=i) ak
       obtain ⟨t,ht⟩:=nth (l:=ts) (k:=j) ak
       obtain ⟨g1,g2,g3,g4,g5,g6⟩:=hcs c (List.mem_of_getElem? hx)
       have ec:=Dc hx
       have et:=FG ht
       refine .ixX (enc:=Cmp.c) (i:=4) hs rfl aq .none (h4.mono hle1) rfl rfl cR eF hx dn ?_;intro b179 o179 hc179
       refine .r (i:=5) hs rfl aq .none (bK (vs:=c.c) rfl Tryz.isAgg153 eF hc179) ?_
       refine .z 6 rfl zm ?_;refine .z 7 rfl zm ?_
       refine .ixX (enc:=TD.c) (i:=8) hs rfl aq .none hT rfl rfl aV bj ht dn ?_;intro b183 o183 hc183
       refine .r (i:=9) hs rfl aq .none (bK (vs:=t.c) rfl dv bj hc183) ?_
       refine .z 10 rfl zm ?_;refine .z 11 rfl cf ?_;refine .z 12 rfl zm ?_;refine .z 13 rfl cf ?_
       refine .E 14 hs ?_
       refine .call Tryz.call212 rfl (tm (c:=c) (t:=t) hs ⟨ak,ak⟩) ?_;rintro v189 w ⟨en189,hO189,hs⟩
       obtain ⟨a189,l189,c189,rfl,h189⟩:=hO189.shape
       refine .go ?_
       refine .E 15 hs ?_
       refine .append (ys:=fK (jW c t ((s.sp.many:Int)+1+(j:Int)))) hs bP rfl rfl hO (Src.Jt hO189 .here) (kc _) (fun l h=>by rw [eb] at h;simp only [List.length_append] at h;have:=xv c t ((s.sp.many:Int)+1+(j:Int));rw [eb] at h189;omega) ?_;intro v190 en190 w hO2 hs
       rw [←gx,List.append_assoc _ (jj _ _ _ _ _),show jj s.sp ts (zK s.cs i) 0 j++jW c t ((s.sp.many:Int)+1+(j:Int))=jj s.sp ts (zK s.cs i) 0 (j+1) by
        show _=_++jW (zK s.cs i) (td0 ts (0+j)) ((s.sp.many+1+(0+j):Nat):Int)
        rw [Nat.zero_add,ec,et,show ((s.sp.many+1+j:Nat):Int)=(s.sp.many:Int)+1+(j:Int) by omega]] at hO2
       refine .go ?_
       refine .z 16 rfl zg ?_;refine .D hs ?_
       refine nB (nT ?_)
       refine .region (.z zm (.z cf (.z zg (.nil ?_))))
       refine nT ?_
       exact ⟨(j+1,v190),.dA rfl bV bD,⟨by dsimp only;omega,_,hO2,hs.sb⟩,by dsimp only;omega⟩
      ·refine .exit ?_
       refine xT (xT (xB (nB (nT ?_))))
       refine .region (.z zm (.z cf (.z zg (.nil ?_))))
       refine nT ?_
       obtain rfl:j=ts.length:=by omega
       rw [List.append_assoc _ (qf _ _ _ _ _)] at hO
       exact ⟨(i+1,_),.dA rfl bV bD,⟨by dsimp only;omega,en,hO,hs⟩,by dsimp only;omega⟩
     ·refine .exit ?_
      refine xT (xT (xB (nT ?_)))
      refine .seq (.ai (.z zg (.nil (.block ?_))))
      refine .loop (fun p:Nat×Value=>⟨243,[],[(17,I (p.1:Int)),(4,p.2),(12,.slice at_ ts.length ct),(13,I (s.sp.many:Int)),(3,.pointer (some ⟨b3,0,none⟩)),(1,.pointer (some ⟨b1,0,none⟩))]⟩)
       (fun p w=>p.1≤s.rs.length∧∃en,bU 4 p.2 (fK (dG (qh s.sp) s.sp.wa.length s.sp.st.length++dG (alL s.sp) s.sp.wa.length s.sp.st.length++dG (upL s.sp) s.sp.wa.length s.sp.st.length++vE s.sp ts.length++qf s.sp ts s.cs 0 s.cs.length++tv s.sp ts s.rs p.1)) en∧St H1 w (en:: .blk b3 [I s.sp.id,I s.sp.src,.slice ast s.sp.st.length cst,.slice awa s.sp.wa.length cwa,I s.sp.al,I s.sp.up]:: .blk b1 [I s.sp.id,I s.sp.src,.slice ast s.sp.st.length cst,.slice awa s.sp.wa.length cwa,I s.sp.al,I s.sp.up,.slice ar s.rs.length cr,.slice ac s.cs.length cc]::σ)) (fun p=>s.rs.length - p.1) (0,vo) bD
       ⟨by first|omega|exact Nat.zero_le _,en,by show bU 4 vo (fK (_++[])) en;rw [List.append_nil,←show i=s.cs.length by omega];exact hO,hs⟩ ?_
      clear hO hs
      rintro ⟨q,vo⟩ w ⟨hq,en,hO,hs⟩
      dsimp only at hq hO ⊢
      have hrl1:=fA s.sp ts s.rs q
      have hcl3:=ig s.sp ts s.cs 0 s.cs.length
      have hcl4:s.cs.length*(2*(ts.length - 0))≤20*(2*60):=Nat.mul_le_mul ak ak
      refine .seq (.ai (.z zm (.z (zfa br) (.y hs (zld cS) (.z (cZ aN) (.z iM (.nil ?_)))))))
      refine (.bT rfl (fun hc195=>?_) (fun hc195=>?_))
      ·refine .skip ?_
       refine nT ?_
       refine .seq (.block (.ai (.z (zfa br) (.y hs (zld cS) (.z zm ?_)))))
       obtain ⟨r,hx⟩:=nth (l:=s.rs) (k:=q) ak
       obtain ⟨g1,g2,g3,g4,g5,g6,g7⟩:=hrs r (List.mem_of_getElem? hx)
       obtain ⟨m,k1,k2,k3⟩:=fa (hmem r (List.mem_of_getElem? hx))
       refine .ixX (enc:=Rdg.c) hs (h3.mono hle1) rfl rfl aN aW hx dn ?_;intro b201 o201 hc201
       refine .q hs (bK (vs:=(Rdg.c r)) rfl fS aW hc201) ?_
       refine .o (.alloc hs fD rfl fun b18 w hs=>?_)
       refine .o (.aI (vs:=r.c) hs rfl rfl aW fun w hs=>?_)
       change St _ _ (.blk b18 [I r.src,I r.st,I r.wa,I r.val,I r.tol,I r.tape,I r.day]::_) at hs
       refine .nil (.ai (.y hs (zls [_,_,_,_,_,_] aT aF) (.z (zfa fH) (.y hs (zld af) (.z (zfa fG) (.y hs (zld af) ?_))))))
       refine .o (.call xp rfl (dK (s:=s.sp) hs (h2.mono hle1) ak ⟨ak,ak⟩ ⟨ak,ak⟩) ?_);rintro _ w ⟨rfl,hs⟩
       refine .z zg (.nil (.ai (.z zm (.z cf (.z zm (.z (zfa dY) (.y hs (zld af) (.z (zfa dX) (.y hs (zld af) ?_)))))))))
       refine .z (zbd [_,_] gq) ?_
       refine .o (.call Tryz.call95 rfl (js (t:=r.td) hs hT ak) ?_);rintro _ w ⟨rfl,hs⟩
       refine .z cf (.z zg (.nil (.region (.z zm (.z zm (.z zm (.z (zfa dZ) (.y hs (zld af) (.z (zfa df) ?_)))))))))
       refine .y hs (zld af) (.z cf (.z (zfa fI) (.y hs (zld af) (.z (zbd [_,_,_,_] dO) (.z zm (.z zm (.z (zfa df) (.y hs (zld af) (.z (zfa dZ) ?_)))))))))
       refine .y hs (zld af) (.z gZ (.z (zfa fI) (.y hs (zld af) (.z (zbd [_,_,_,_] dO) ?_))))
       refine .o (.buildSlice (cells:=fK (qU s.sp ts r)) hs eP rfl aq fun b240 w hs=>?_)
       refine .o (.append (ys:=fK (qU s.sp ts r)) hs bP rfl rfl hO (.own .here rfl rfl) (kc _) (fun l h=>by rw [eb] at h;simp only [List.length_append] at h;omega) ?_);intro v241 en241 w hO2 hs
       rw [←gx,List.append_assoc _ (tv _ _ _ _),show tv s.sp ts s.rs q++qU s.sp ts r=tv s.sp ts s.rs (q+1) by rw [←Cb hx];rfl] at hO2
       refine .z zg (.nil ?_)
       refine nB (nT ?_)
       refine .region (.z zm (.z cf (.z zg (.nil ?_))))
       refine nT ?_
       exact ⟨(q+1,v241),.dA rfl bV bD,⟨by dsimp only;omega,_,hO2,hs.sb⟩,by dsimp only;omega⟩
      ·refine .exit ?_
       refine xT (xT (xB (nT ?_)))
       refine .ai (.z zm (.z zg (.nil ?_)))
       refine .ret (Fin.bw Tryz.results152 rfl ?_)
       obtain rfl:q=s.rs.length:=by omega
       exact ⟨H1,en,hle1,by rw [hlims];exact hO,hs.sb⟩
theorem sa{s:Srv}{vst vwa vr vc:Value}(hs:St H w σ)(h1:RI H vst s.sp.st)(h2:RI H vwa s.sp.wa)(h3:RRd H vr s.rs)(h4:RCm H vc s.cs)(he:s.early):
  Cl Tryz.prog 205 [.agg #[I s.sp.id,I s.sp.src,vst,vwa,I s.sp.al,I s.sp.up,vr,vc]] w fun u w'=>∃H1 vl en,HLe H H1∧u= .agg #[I s.sys.many,vl]∧bU 4 vl (fK s.bL) en∧St H1 w' (en::σ):=by
 have hsm:=eL he.1
 have hrl:=he.2.1
 have htl:s.bq.length≤60:=by have:=dc s.rs;unfold Srv.bq;omega
 refine Cl.o Tryz.func205 Tryz.ntmps205 ag1 ?_
 refine .ai ?_
 refine .bx hs fun b1 w hs=>?_
 refine .o (.alloc hs dz rfl fun b2 w hs=>?_)
 refine .nil ?_
 refine .seq (.draw mix rfl hs fun w hs=>?_)
 refine .z 0 rfl (zfa bC) ?_;refine .ys 1 rfl hs [_,_,_,_,_,_] aT aF ?_;refine .z 3 rfl (zfa br) ?_;refine .y 4 rfl hs cS ?_;refine .ys 8 rfl hs [_,_,_,_,_,_,_,_] aJ aB ?_
 refine .E 2 hs ?_
 refine .call Tryz.call94 rfl (fO (s:=s.sp) hs h1 h2 ⟨ak,ak⟩) ?_;rintro _ w ⟨rfl,hs⟩
 refine .go ?_
 refine .E 5 hs ?_
 refine .call Tryz.call96 rfl (gR hs h3 ak) ?_;rintro v8 w ⟨H1,hle1,hT,hs⟩
 replace hT:RTd H1 v8 s.bq:=hT
 obtain ⟨at_,ct,rfl⟩:=RTd.shape hT
 refine .go ?_
 refine .z 6 rfl (cZ aV) ?_;refine .z 7 rfl cf ?_
 refine .E 9 hs ?_
 refine .call Tryz.call152 rfl (sc (s:=s) hs (h1.mono hle1) (h2.mono hle1) (h3.mono hle1) (h4.mono hle1) he) ?_;rintro v12 w ⟨H2,en,hle2,hO,hs⟩
 obtain ⟨al,ll,cl,rfl,hll⟩:=hO.shape
 refine .go ?_
 refine .z 10 rfl (zbd [_,_] kM) ?_
 refine .E 11 hs ?_
 refine .aI (vs:=[_,_]) hs rfl rfl aE ?_;intro w hs
 refine .go ?_
 refine .D hs ?_
 refine .ret ?_
 replace hs:St H2 w (.blk b2 [I ((s.sp.many:Int)+(s.bq.length:Int)),.slice al ll cl]::en::σ):=hs.sb
 exact Fin.ia [] [] hs fun w hs=>⟨_,results1 Tryz.results205 (di (vs:=[_,_]) hs rfl bg aE),H2,_,en,hle1.trans hle2,by show _=Value.agg #[I ((s.sp.many+s.bq.length:Nat):Int),_];rw [Int.natCast_add],hO,hs.tail⟩
theorem qT{s:Srv}{vst vwa vr vc:Value}(hs:St H w σ)(h1:RI H vst s.sp.st)(h2:RI H vwa s.sp.wa)(h3:RRd H vr s.rs)(h4:RCm H vc s.cs)(he:s.early):
  Cl Tryz.prog 205 [.agg #[I s.sp.id,I s.sp.src,vst,vwa,I s.sp.al,I s.sp.up,vr,vc]] w fun u w'=>∃H1,HLe H H1∧RSy H1 u s.sys∧St H1 w' σ:=by
 refine (sa hs h1 h2 h3 h4 he).mono ?_
 rintro u w' ⟨H1,vl,en,hle,rfl,hO,hs⟩
 have hl:=kq he 6 ak
 rw [s.wy] at hl
 obtain ⟨H2,hle2,hR,hs⟩:=bU.cg (m:=4) (cs:=s.bL.map Lim.c) hO (fun c hc=>by simp only [List.mem_map] at hc;obtain ⟨x,_,rfl⟩:=hc;rfl) ak (by rw [List.length_map];omega) hs .here
 exact ⟨H2,hle.trans hle2,⟨vl,rfl,hR⟩,hs⟩
theorem iT{s:Spc}{q:Wht}{vst vwa:Value}(hs:St H w σ)(h2:RI H vwa s.wa):
  Cl Tryz.prog 230 [.agg #[I q.kind,I q.st,I q.wa,I s.id,I s.src,vst,vwa,I s.al,I s.up]] w fun v w'=>v= .bool (decide (0≤q.wa∧q.wa≤(s.wa.length:Int) - 1))∧St H w' σ:=by
 obtain ⟨awa,cwa,rfl⟩:=RI.shape h2
 have l2:=(RI.len h2).2.2
 refine Cl.o Tryz.func230 Tryz.ntmps230 ag1 ?_
 refine .ai ?_
 refine .bx hs fun b1 w hs=>?_
 refine .z zg (.nil (.ai (.z (zfa bX) (.z (zfa fB) (.y hs (zld af) (.z (zfa eo) (.z (zfa a8) (.y hs (zld an) (.z (cZ ae) ?_)))))))))
 refine .z gZ ?_
 refine .o (.call db rfl (a6 hs) ?_);rintro _ w ⟨rfl,hs⟩
 refine .z zg (.nil ?_)
 refine .ret (Fin.bw Tryz.results230 rfl ?_)
 exact ⟨rfl,hs.out⟩
theorem jV{s:Spc}{q:Wht}{vst vwa:Value}(hs:St H w σ)(h1:RI H vst s.st):
  Cl Tryz.prog 235 [.agg #[I q.kind,I q.st,I q.wa,I s.id,I s.src,vst,vwa,I s.al,I s.up]] w fun v w'=>v= .bool (decide (0≤q.st∧q.st≤(s.st.length:Int) - 1))∧St H w' σ:=by
 obtain ⟨ast,cst,rfl⟩:=RI.shape h1
 have l1:=(RI.len h1).2.2
 refine Cl.o Tryz.func235 Tryz.ntmps235 ag1 ?_
 refine .ai ?_
 refine .bx hs fun b1 w hs=>?_
 refine .z zg (.nil (.ai (.z (zfa bX) (.z (zfa iF) (.y hs (zld af) (.z (zfa eo) (.z (zfa bH) (.y hs (zld an) (.z (cZ ae) ?_)))))))))
 refine .z gZ ?_
 refine .o (.call db rfl (a6 hs) ?_);rintro _ w ⟨rfl,hs⟩
 refine .z zg (.nil ?_)
 refine .ret (Fin.bw Tryz.results235 rfl ?_)
 exact ⟨rfl,hs.out⟩
theorem qI{s:Spc}{q:Wht}:eI s q↔(q.kind=1∧q.st=0∧s.isW q∧0<q.wa)∨(q.kind=2∧q.st=0∧s.isW q)∨(q.kind=3∧q.wa=0∧s.isS q)∨(q.kind=4∧s.isS q∧s.isW q):=by
 constructor
 ·intro h
  cases h with
  |litres a b c d=>exact .inl ⟨a,b,c,d⟩
  |plane a b c=>exact .inr (.inl ⟨a,b,c⟩)
  |section_ a b c=>exact .inr (.inr (.inl ⟨a,b,c⟩))
  |offset a b c=>exact .inr (.inr (.inr ⟨a,b,c⟩))
 ·rintro (⟨a,b,c,d⟩|⟨a,b,c⟩|⟨a,b,c⟩|⟨a,b,c⟩)
  ·exact .litres a b c d
  ·exact .plane a b c
  ·exact .section_ a b c
  ·exact .offset a b c
theorem yf{s:Spc}{q:Wht}{vst vwa:Value}(hs:St H w σ)(h2:RI H vwa s.wa)(hk:q.kind=1):
  Cl Tryz.prog 229 [.agg #[I q.kind,I q.st,I q.wa,I s.id,I s.src,vst,vwa,I s.al,I s.up]] w fun v w'=>∃b:Bool,v= .bool b∧(b=true↔eI s q)∧St H w' σ:=by
 have hi:=qI (s:=s) (q:=q)
 simp only [Spc.isW,Spc.isS] at hi
 refine Cl.o Tryz.func229 Tryz.ntmps229 ag1 ?_
 refine .ai ?_
 refine .bx hs fun b1 w hs=>?_
 refine .z zg (.nil (.ai (.y hs (zls [_,_,_,_,_,_,_,_,_] qE kg) ?_)))
 refine .o (.call Tryz.call230 rfl (iT hs h2) ?_);rintro _ w ⟨rfl,hs⟩
 refine .z zm ?_
 refine .bif (t':=5) rfl (fun hb5=>?_) (fun hb5=>?_)
 ·refine .gT rfl rfl ?_
  refine .z (zfa bX) ?_
  refine .gT rfl rfl ?_
  refine .z (zfa fB) ?_
  refine .gT rfl rfl ?_
  refine .y hs (zld af) ?_
  refine .gT rfl rfl ?_
  refine .z qH (.z zpT (.z zm ?_))
  refine .jM (t':=11) rfl (fun hb11=>?_) (fun hb11=>?_)
  ·refine .gT rfl rfl ?_
   refine .z (zfa bX) ?_
   refine .gT rfl rfl ?_
   refine .z (zfa iF) ?_
   refine .gT rfl rfl ?_
   refine .y hs (zld af) ?_
   refine .gT rfl rfl ?_
   refine .z jU (.z zpT (.z zg (.nil ?_)))
   refine .ret (Fin.bw Tryz.results229 rfl ?_)
   exact ⟨_,rfl,by rw [hi];simp_all<;>omega,hs.out⟩
  ·refine .gFs 4 8 true rfl rfl rfl ?_
   refine .z zpF (.z zg (.nil ?_))
   refine .ret (Fin.bw Tryz.results229 rfl ?_)
   exact ⟨_,rfl,by rw [hi];simp_all<;>omega,hs.out⟩
 ·refine .gFs 4 2 true rfl rfl rfl ?_
  refine .z zpF (.z zm ?_)
  refine .gFs 4 8 true rfl rfl rfl ?_
  refine .z zpF (.z zg (.nil ?_))
  refine .ret (Fin.bw Tryz.results229 rfl ?_)
  exact ⟨_,rfl,by rw [hi];simp_all<;>omega,hs.out⟩
theorem ye{s:Spc}{q:Wht}{vst vwa:Value}(hs:St H w σ)(h2:RI H vwa s.wa)(hk:q.kind=2):
  Cl Tryz.prog 232 [.agg #[I q.kind,I q.st,I q.wa,I s.id,I s.src,vst,vwa,I s.al,I s.up]] w fun v w'=>∃b:Bool,v= .bool b∧(b=true↔eI s q)∧St H w' σ:=by
 have hi:=qI (s:=s) (q:=q)
 simp only [Spc.isW,Spc.isS] at hi
 refine Cl.o Tryz.func232 Tryz.ntmps232 ag1 ?_
 refine .ai ?_
 refine .bx hs fun b1 w hs=>?_
 refine .z zg (.nil (.ai (.y hs (zls [_,_,_,_,_,_,_,_,_] qE kg) ?_)))
 refine .o (.call Tryz.call230 rfl (iT hs h2) ?_);rintro _ w ⟨rfl,hs⟩
 refine .z zm ?_
 refine .bif (t':=5) rfl (fun hb5=>?_) (fun hb5=>?_)
 ·refine .gT rfl rfl ?_
  refine .z (zfa bX) ?_
  refine .gT rfl rfl ?_
  refine .z (zfa iF) ?_
  refine .gT rfl rfl ?_
  refine .y hs (zld af) ?_
  refine .gT rfl rfl ?_
  refine .z jU (.z zpT (.z zg (.nil ?_)))
  refine .ret (Fin.bw Tryz.results232 rfl ?_)
  exact ⟨_,rfl,by rw [hi];simp_all<;>omega,hs.out⟩
 ·refine .gFs 4 2 true rfl rfl rfl ?_
  refine .z zpF (.z zg (.nil ?_))
  refine .ret (Fin.bw Tryz.results232 rfl ?_)
  exact ⟨_,rfl,by rw [hi];simp_all<;>omega,hs.out⟩
theorem yd{s:Spc}{q:Wht}{vst vwa:Value}(hs:St H w σ)(h1:RI H vst s.st)(hk:q.kind=3):
  Cl Tryz.prog 234 [.agg #[I q.kind,I q.st,I q.wa,I s.id,I s.src,vst,vwa,I s.al,I s.up]] w fun v w'=>∃b:Bool,v= .bool b∧(b=true↔eI s q)∧St H w' σ:=by
 have hi:=qI (s:=s) (q:=q)
 simp only [Spc.isW,Spc.isS] at hi
 refine Cl.o Tryz.func234 Tryz.ntmps234 ag1 ?_
 refine .ai ?_
 refine .bx hs fun b1 w hs=>?_
 refine .z zg (.nil (.ai (.y hs (zls [_,_,_,_,_,_,_,_,_] qE kg) ?_)))
 refine .o (.call Tryz.call235 rfl (jV hs h1) ?_);rintro _ w ⟨rfl,hs⟩
 refine .z zm ?_
 refine .bif (t':=5) rfl (fun hb5=>?_) (fun hb5=>?_)
 ·refine .gT rfl rfl ?_
  refine .z (zfa bX) ?_
  refine .gT rfl rfl ?_
  refine .z (zfa fB) ?_
  refine .gT rfl rfl ?_
  refine .y hs (zld af) ?_
  refine .gT rfl rfl ?_
  refine .z jU (.z zpT (.z zg (.nil ?_)))
  refine .ret (Fin.bw Tryz.results234 rfl ?_)
  exact ⟨_,rfl,by rw [hi];simp_all<;>omega,hs.out⟩
 ·refine .gFs 4 2 true rfl rfl rfl ?_
  refine .z zpF (.z zg (.nil ?_))
  refine .ret (Fin.bw Tryz.results234 rfl ?_)
  exact ⟨_,rfl,by rw [hi];simp_all<;>omega,hs.out⟩
theorem yc{s:Spc}{q:Wht}{vst vwa:Value}(hs:St H w σ)(h1:RI H vst s.st)(h2:RI H vwa s.wa)(hk:q.kind=4):
  Cl Tryz.prog 237 [.agg #[I q.kind,I q.st,I q.wa,I s.id,I s.src,vst,vwa,I s.al,I s.up]] w fun v w'=>∃b:Bool,v= .bool b∧(b=true↔eI s q)∧St H w' σ:=by
 have hi:=qI (s:=s) (q:=q)
 simp only [Spc.isW,Spc.isS] at hi
 refine Cl.o Tryz.func237 Tryz.ntmps237 ag1 ?_
 refine .ai ?_
 refine .bx hs fun b1 w hs=>?_
 refine .z zg (.nil (.ai (.y hs (zls [_,_,_,_,_,_,_,_,_] qE kg) ?_)))
 refine .o (.call Tryz.call235 rfl (jV hs h1) ?_);rintro _ w ⟨rfl,hs⟩
 refine .z zm ?_
 refine .bif (t':=5) rfl (fun hb5=>?_) (fun hb5=>?_)
 ·refine .gT rfl rfl ?_
  refine .y hs (zls [_,_,_,_,_,_,_,_,_] qE kg) ?_
  refine .gT rfl rfl ?_
  refine .o (.call Tryz.call230 rfl (iT hs h2) ?_);rintro _ w ⟨rfl,hs⟩
  refine .z zpT (.z zg (.nil ?_))
  refine .ret (Fin.bw Tryz.results237 rfl ?_)
  exact ⟨_,rfl,by rw [hi];simp_all<;>omega,hs.out⟩
 ·refine .gFs 2 2 true rfl rfl rfl ?_
  refine .z zpF (.z zg (.nil ?_))
  refine .ret (Fin.bw Tryz.results237 rfl ?_)
  exact ⟨_,rfl,by rw [hi];simp_all<;>omega,hs.out⟩
theorem rW{s:Spc}{q:Wht}{vst vwa:Value}{i k:Nat}{u:Int}(hs:St H w σ)(h1:RI H vst s.st)(h2:RI H vwa s.wa)(hok:dP s)(hq:eI s q)(hk1:q.kind=1)(hi:i<s.st.length):
  Cl Tryz.prog 231 [.agg #[I q.kind,I q.st,I q.wa,I s.id,I s.src,vst,vwa,I s.al,I s.up],.agg #[I (i:Int),I (k:Int),I u]] w fun v w'=>∃H1,HLe H H1∧v=I (ob s q i k)∧St H1 w' σ:=by
 obtain ⟨ast,cst,rfl⟩:=RI.shape h1
 obtain ⟨awa,cwa,rfl⟩:=RI.shape h2
 have hn:=hok.wa.many
 have hcap:=(RI.len h2).2.1
 obtain ⟨_,hw1,hw2,hw3⟩:q.st=0∧0<q.wa∧0≤q.wa∧q.wa≤(s.wa.length:Int) - 1:=by
  rcases qI.1 hq with h|h|h|h
  ·exact ⟨h.2.1,h.2.2.2,h.2.2.1.1,h.2.2.1.2⟩
  all_goals omega
 obtain ⟨m,hm⟩:∃m:Nat,q.wa=m:=⟨q.wa.toNat,ak⟩
 have hW:ob s q i k=if (k:Int)≤q.wa then gi (wts s.st) i*gi (wts (s.wa.take (q.wa.toNat+1))) k else 0:=by unfold ob;rw [if_pos hk1]
 have hmt:q.wa.toNat=m:=by omega
 rw [hmt] at hW
 refine Cl.o Tryz.func231 Tryz.ntmps231 ag2 ?_
 refine .ai ?_
 refine .bx hs fun b2 w hs=>?_
 refine .bx hs fun b3 w hs=>?_
 refine .z zg (.nil (.seq (.ai (.z (zfa ck) (.y hs (zld af) (.z (zfa bX) (.z (zfa fB) (.y hs (zld af) (.z qH ?_)))))))))
 refine .nil ?_
 refine (.bT rfl (fun hc12=>?_) (fun hc12=>?_))
 ·refine .ai (.z zg (.nil ?_))
  refine .ret (rT (Fin.bw Tryz.results231 rfl ?_))
  exact ⟨H,HLe.refl H,by rw [hW,if_neg ak],hs.out⟩
 ·refine .skip ?_
  refine nT ?_
  refine .seq (.draw mix rfl hs fun w hs=>?_)
  refine .z 0 rfl (zfa eo) ?_;refine .z 1 rfl (zfa bH) ?_;refine .y 2 rfl hs an ?_;refine .z 3 rfl (zfa eo) ?_;refine .z 4 rfl (zfa a8) ?_;refine .y 5 rfl hs an ?_;refine .z 6 rfl (zfa bX) ?_;refine .z 7 rfl (zfa fB) ?_;refine .y 8 rfl hs af ?_;refine .z 9 rfl cf ?_
  refine .z 10 rfl (pN (k:=m+1) rfl rfl ae aj ak ak) ?_
  refine .E 11 hs ?_
  have hP:gw 7 15000 (s.wa.take (m+1)):=hok.wa.take ak ak
  refine .call Tryz.call163 rfl (mF hs h1 (h2.head (k:=m+1) ak)) ?_;rintro _ w ⟨H1,vo,e,hle1,rfl,hGx,-,hs⟩
  obtain ⟨rfl,hG⟩:=hGx ⟨hok.st,hP⟩
  have hgl:=mR (wts s.st) (wts (s.wa.take (m+1))) s.st.length
  have hyl:(wts (s.wa.take (m+1))).length=m+1:=by rw [im,List.length_take];omega
  have hgr:=Av (X:=wts s.st) (Y:=wts (s.wa.take (m+1))) (n:=s.st.length) hi
  have hgt:=E5 (X:=wts s.st) (Y:=wts (s.wa.take (m+1))) (n:=s.st.length) (k:=k) hi ak
  have hrl:=oO (wts s.st) (wts (s.wa.take (m+1))) i
  rw [←hgr] at hrl
  generalize qc (wts s.st) (wts (s.wa.take (m+1))) s.st.length=G at*
  obtain ⟨aG,cG,rfl⟩:=hG.shape
  refine .go ?_
  refine .z 12 rfl zm ?_;refine .z 13 rfl zex ?_;refine .z 14 rfl zex ?_;refine .z 15 rfl zg ?_;refine .z 16 rfl zg ?_;refine .D hs ?_
  refine .seq (.draw mix rfl hs fun w hs=>?_)
  refine .z 0 rfl zm ?_;refine .z 1 rfl (zfa cM) ?_;refine .y 2 rfl hs af ?_
  refine .ixT (i:=3) hs rfl aq .none hG rfl rfl aC aA (show i<_ by omega) dn ?_;intro b31 o31 a31 c31 hc31 hR31
  refine .r (i:=4) hs rfl aq .none (aR rfl an hc31) ?_
  refine .z 5 rfl (zfa ck) ?_;refine .y 6 rfl hs af ?_
  refine .ixX (enc:=fun x=>[I x]) (i:=7) hs rfl aq .none hR31 rfl rfl ae aj (bF (l:=(gr G i)) (i:=k) ak) dn ?_;intro b35 o35 hc35;replace hc35:=bO.one hc35
  refine .r (i:=8) hs rfl aq .none (aR rfl af hc35) ?_
  refine .z 9 rfl zg ?_;refine .D hs ?_
  refine .ret (Fin.bw Tryz.results231 rfl ?_)
  exact ⟨H1,hle1,by rw [hW,if_pos ak,←hgt];rfl,hs.out⟩
theorem sZ{s:Spc}{q:Wht}{vst vwa:Value}{i k:Nat}{u:Int}(hs:St H w σ)(h1:RI H vst s.st)(hok:dP s)(hk1:q.kind=2)(hi:i<s.st.length):
  Cl Tryz.prog 233 [.agg #[I q.kind,I q.st,I q.wa,I s.id,I s.src,vst,vwa,I s.al,I s.up],.agg #[I (i:Int),I (k:Int),I u]] w fun v w'=>∃H1,HLe H H1∧v=I (ob s q i k)∧St H1 w' σ:=by
 have hW:ob s q i k=if (k:Int)=q.wa then gi (wts s.st) i else 0:=by unfold ob;rw [if_neg ak,if_pos hk1]
 have hl:=im s.st
 refine Cl.o Tryz.func233 Tryz.ntmps233 ag2 ?_
 refine .ai ?_
 refine .bx hs fun b2 w hs=>?_
 refine .bx hs fun b3 w hs=>?_
 refine .z zg (.nil (.seq (.ai (.z (zfa ck) (.y hs (zld af) (.z (zfa bX) (.z (zfa fB) (.y hs (zld af) (.z gE ?_)))))))))
 refine .nil ?_
 refine (.ep rfl (fun hc12=>?_) (fun hc12=>?_))
 ·refine .ai (.z zg (.nil ?_))
  refine .ret (rT (Fin.bw Tryz.results233 rfl ?_))
  exact ⟨H,HLe.refl H,by rw [hW,if_neg ak],hs.out⟩
 ·refine .skip ?_
  refine nT ?_
  refine .ai (.z (zfa eo) (.z (zfa bH) (.y hs (zld an) ?_)))
  refine .o (.call Tryz.call275 rfl (kj hs h1) ?_);rintro _ w ⟨H1,vo,e,hle1,rfl,hGx,hs⟩
  obtain ⟨rfl,hG⟩:=hGx hok.st
  obtain ⟨aG,cG,rfl⟩:=RI.shape hG
  refine .z zm (.z zex (.z zex (.z zg (.z zg (.nil (.ai (.z zm (.z (zfa cM) (.y hs (zld af) ?_)))))))))
  refine .ixY hs hG rfl rfl ae aj (bF (l:=(wts s.st)) (i:=i) ak) dn ?_;intro b23 o23 hc23
  refine .q hs (aR rfl af hc23) ?_
  refine .z zg (.nil ?_)
  refine .ret (Fin.bw Tryz.results233 rfl ?_)
  exact ⟨H1,hle1,by rw [hW,if_pos ak],hs.out⟩
theorem qJ{s:Spc}{q:Wht}{vst vwa:Value}{i k:Nat}{u:Int}(hs:St H w σ)(h2:RI H vwa s.wa)(hok:dP s)(hk1:q.kind=3)(hk:k<s.wa.length):
  Cl Tryz.prog 236 [.agg #[I q.kind,I q.st,I q.wa,I s.id,I s.src,vst,vwa,I s.al,I s.up],.agg #[I (i:Int),I (k:Int),I u]] w fun v w'=>∃H1,HLe H H1∧v=I (ob s q i k)∧St H1 w' σ:=by
 have hW:ob s q i k=if (i:Int)=q.st then gi (wts s.wa) k else 0:=by unfold ob;rw [if_neg ak,if_neg ak,if_pos hk1]
 have hl:=im s.wa
 refine Cl.o Tryz.func236 Tryz.ntmps236 ag2 ?_
 refine .ai ?_
 refine .bx hs fun b2 w hs=>?_
 refine .bx hs fun b3 w hs=>?_
 refine .z zg (.nil (.seq (.ai (.z (zfa cM) (.y hs (zld af) (.z (zfa bX) (.z (zfa iF) (.y hs (zld af) (.z gE ?_)))))))))
 refine .nil ?_
 refine (.ep rfl (fun hc12=>?_) (fun hc12=>?_))
 ·refine .ai (.z zg (.nil ?_))
  refine .ret (rT (Fin.bw Tryz.results236 rfl ?_))
  exact ⟨H,HLe.refl H,by rw [hW,if_neg ak],hs.out⟩
 ·refine .skip ?_
  refine nT ?_
  refine .ai (.z (zfa eo) (.z (zfa a8) (.y hs (zld an) ?_)))
  refine .o (.call Tryz.call275 rfl (kj hs h2) ?_);rintro _ w ⟨H1,vo,e,hle1,rfl,hGx,hs⟩
  obtain ⟨rfl,hG⟩:=hGx (Gh hok)
  obtain ⟨aG,cG,rfl⟩:=RI.shape hG
  refine .z zm (.z zex (.z zex (.z zg (.z zg (.nil (.ai (.z zm (.z (zfa ck) (.y hs (zld af) ?_)))))))))
  refine .ixY hs hG rfl rfl ae aj (bF (l:=(wts s.wa)) (i:=k) ak) dn ?_;intro b23 o23 hc23
  refine .q hs (aR rfl af hc23) ?_
  refine .z zg (.nil ?_)
  refine .ret (Fin.bw Tryz.results236 rfl ?_)
  exact ⟨H1,hle1,by rw [hW,if_pos ak],hs.out⟩
theorem rV{s:Spc}{q:Wht}{vst vwa:Value}{i k:Nat}{u:Int}(hs:St H w σ)(hk1:q.kind=4):
  Cl Tryz.prog 238 [.agg #[I q.kind,I q.st,I q.wa,I s.id,I s.src,vst,vwa,I s.al,I s.up],.agg #[I (i:Int),I (k:Int),I u]] w fun v w'=>∃H1,HLe H H1∧v=I (ob s q i k)∧St H1 w' σ:=by
 have hW:ob s q i k=if (i:Int)=q.st∧(k:Int)=q.wa then 1 else 0:=by unfold ob;rw [if_neg ak,if_neg ak,if_neg ak]
 refine Cl.o Tryz.func238 Tryz.ntmps238 ag2 ?_
 refine .ai ?_
 refine .bx hs fun b2 w hs=>?_
 refine .bx hs fun b3 w hs=>?_
 refine .z zg (.nil (.seq (.ai (.z (zfa cM) (.y hs (zld af) (.z (zfa bX) (.z (zfa iF) (.y hs (zld af) (.z gE ?_)))))))))
 refine .z zm ?_
 refine .DQ (t':=11) rfl (fun hb11=>?_) (fun hb11=>?_)
 ·refine .gFs 6 6 false rfl rfl rfl ?_
  refine .z zpT (.nil ?_)
  refine (.cT ?_)
  refine .ai (.z zg (.nil ?_))
  refine .ret (rT (Fin.bw Tryz.results238 rfl ?_))
  first
  |exact ⟨H,HLe.refl H,by rw [hW,if_neg ak],hs.out⟩
  |exact ⟨H,HLe.refl H,by rw [hW,if_pos ak],hs.out⟩
 ·refine .gT rfl rfl ?_
  refine .z (zfa ck) ?_
  refine .gT rfl rfl ?_
  refine .y hs (zld af) ?_
  refine .gT rfl rfl ?_
  refine .z (zfa bX) ?_
  refine .gT rfl rfl ?_
  refine .z (zfa fB) ?_
  refine .gT rfl rfl ?_
  refine .y hs (zld af) ?_
  refine .gT rfl rfl ?_
  refine .z gE (.z zpF (.nil ?_))
  refine (.ep rfl (fun hc18=>?_) (fun hc18=>?_))
  ·refine .ai (.z zg (.nil ?_))
   refine .ret (rT (Fin.bw Tryz.results238 rfl ?_))
   first
   |exact ⟨H,HLe.refl H,by rw [hW,if_neg ak],hs.out⟩
   |exact ⟨H,HLe.refl H,by rw [hW,if_pos ak],hs.out⟩
  ·refine .skip ?_
   refine nT ?_
   refine .ai (.z zg (.nil ?_))
   refine .ret (Fin.bw Tryz.results238 rfl ?_)
   first
   |exact ⟨H,HLe.refl H,by rw [hW,if_neg ak],hs.out⟩
   |exact ⟨H,HLe.refl H,by rw [hW,if_pos ak],hs.out⟩
def A6(k:Int):Nat:=if k=1 then 229 else if k=2 then 232 else if k=3 then 234 else 237
def AX(k:Int):Nat:=if k=1 then 231 else if k=2 then 233 else if k=3 then 236 else 238
def Aq(k:Int):Value:= .agg #[.func (.func (A6 k)) #[] #[],.func (.func (AX k)) #[] #[],I (qB ⟨k,0,0⟩)]
def Hi:List MapEntry:=[{key:=I 1,val:=Aq 1,born:=0},{key:=I 2,val:=Aq 2,born:=1},{key:=I 3,val:=Aq 3,born:=2},{key:=I 4,val:=Aq 4,born:=3}]
theorem kr(hs:St H w σ):
  Cl Tryz.prog 187 [] w fun v w'=>∃b,v= .map (some b)∧St H w' (.obj b (.map Hi.toArray 4)::σ):=by
 refine Cl.of Tryz.func187 rfl Tryz.ntmps187 bV (w7) ?_
 refine .ai (.z zg (.nil (.ai ?_)))
 refine .o (.makeMap hs fun b1 w hs=>?_)
 refine .z (zbd [_,_,_] gY) ?_
 refine .o (.insert (es:=[]) hs rfl rfl rfl dR aS rfl fun w hs=>?_)
 refine .z (zbd [_,_,_] gY) ?_
 refine .o (.insert (es:=[{key:=I 1,val:=Aq 1,born:=0}]) hs rfl rfl rfl dR aS rfl fun w hs=>?_)
 refine .z (zbd [_,_,_] gY) ?_
 refine .o (.insert (es:=[{key:=I 1,val:=Aq 1,born:=0},{key:=I 2,val:=Aq 2,born:=1}]) hs rfl rfl rfl dR aS rfl fun w hs=>?_)
 refine .z (zbd [_,_,_] gY) ?_
 refine .o (.insert (es:=[{key:=I 1,val:=Aq 1,born:=0},{key:=I 2,val:=Aq 2,born:=1},{key:=I 3,val:=Aq 3,born:=2}]) hs rfl rfl rfl dR aS rfl fun w hs=>?_)
 refine .z zm (.z zg (.nil ?_))
 refine .ret (Fin.bw Tryz.results187 rfl ?_)
 exact ⟨b1,rfl,hs⟩
def lF1(k:Int):Value:=if 1≤k∧k≤4 then .func (.func (A6 k)) #[] #[] else .nilFunc
def lF2(k:Int):Value:=if 1≤k∧k≤4 then .func (.func (AX k)) #[] #[] else .nilFunc
def lD(k:Int):Int:=if 1≤k∧k≤4 then qB ⟨k,0,0⟩ else 0
theorem Ap(k:Int):[lF1 k,lF2 k,I (lD k)].all Value.oneCell'=true:=by
 unfold lF1 lF2;split<;>rfl
theorem Cj{H:bB}{s:FS}{x y:Operand}{b:Nat}(k:Int)(hx:FS.ev s x=some (.map (some b)))(hy:FS.ev s y=some (I k)):
  QJ Tryz.prog H [.obj b (.map Hi.toArray 4)] s (.lookup 238 x y true) (.tuple #[.agg #[lF1 k,lF2 k,I (lD k)],.bool (decide (1≤k∧k≤4))]):=by
 by_cases h:1≤k∧k≤4
 ·rw [decide_eq_true h]
  have h4:k=1∨k=2∨k=3∨k=4:=by omega
  rcases h4 with rfl|rfl|rfl|rfl
  ·exact Ag (v:=Aq 1) (j:=0) hx hy dR aS rfl .here
  ·exact Ag (v:=Aq 2) (j:=1) hx hy dR aS rfl .here
  ·exact Ag (v:=Aq 3) (j:=2) hx hy dR aS rfl .here
  ·exact Ag (v:=Aq 4) (j:=3) hx hy dR aS rfl .here
 ·rw [decide_eq_false h]
  have e1:lF1 k= .nilFunc:=if_neg h
  have e2:lF2 k= .nilFunc:=if_neg h
  have e3:lD k=0:=if_neg h
  rw [e1,e2,e3]
  refine Gt (es:=Hi) (c:=4) hx hy dR aS JQ ?_ .here
  have n1:(k==1)=false:=by simp only [beq_eq_false_iff_ne];omega
  have n2:(k==2)=false:=by simp only [beq_eq_false_iff_ne];omega
  have n3:(k==3)=false:=by simp only [beq_eq_false_iff_ne];omega
  have n4:(k==4)=false:=by simp only [beq_eq_false_iff_ne];omega
  simp [Instr.findNow,Instr.sameNow,Hi,n1,n2,n3,n4]
theorem Eg(k:Int):∀args w,(callFunc (A6 k) args).run Tryz.prog w= .ok (.enter (A6 k) args) w:=by
 unfold A6
 split
 ·exact Tryz.call229
 ·split
  ·exact Tryz.call232
  ·split
   ·exact Tryz.call234
   ·exact Tryz.call237
theorem D1(k:Int):∀args w,(callFunc (AX k) args).run Tryz.prog w= .ok (.enter (AX k) args) w:=by
 unfold AX
 split
 ·exact Tryz.call231
 ·split
  ·exact Tryz.call233
  ·split
   ·exact Tryz.call236
   ·exact Tryz.call238
theorem Ef{s:Spc}{q:Wht}{vst vwa:Value}(hs:St H w σ)(h1:RI H vst s.st)(h2:RI H vwa s.wa)(hk:1≤q.kind∧q.kind≤4):
  Cl Tryz.prog (A6 q.kind) [.agg #[I q.kind,I q.st,I q.wa,I s.id,I s.src,vst,vwa,I s.al,I s.up]] w fun v w'=>∃b:Bool,v= .bool b∧(b=true↔eI s q)∧St H w' σ:=by
 unfold A6
 split
 ·exact yf hs h2 ea
 ·split
  ·exact ye hs h2 ea
  ·split
   ·exact yd hs h1 ea
   ·exact yc hs h1 h2 ak
theorem D0{s:Spc}{q:Wht}{vst vwa:Value}{i k:Nat}{u:Int}(hs:St H w σ)(h1:RI H vst s.st)(h2:RI H vwa s.wa)(hok:dP s)(hq:eI s q)(hk:1≤q.kind∧q.kind≤4)(hi:i<s.st.length)(hkw:k<s.wa.length):
  Cl Tryz.prog (AX q.kind) [.agg #[I q.kind,I q.st,I q.wa,I s.id,I s.src,vst,vwa,I s.al,I s.up],.agg #[I (i:Int),I (k:Int),I u]] w fun v w'=>∃H1,HLe H H1∧v=I (ob s q i k)∧St H1 w' σ:=by
 unfold AX
 split
 ·exact rW hs h1 h2 hok hq ea hi
 ·split
  ·exact sZ hs h1 hok ea hi
  ·split
   ·exact qJ hs h2 hok ea hkw
   ·exact rV hs ak
theorem Ij{q:Wht}(h:1≤q.kind∧q.kind≤4):lD q.kind=qB q:=by
 unfold lD;rw [if_pos h];rfl
theorem DZ{s:Spc}{q:Wht}(h:eI s q):1≤q.kind∧q.kind≤4:=by
 rcases qI.1 h with h|h|h|h<;>omega
set_option maxHeartbeats 1000000 in
theorem jF{s:Spc}{q:Wht}{vst vwa:Value}(hs:St H w σ)(h1:RI H vst s.st)(h2:RI H vwa s.wa)(hok:dP s):
  Cl Tryz.prog 130 [.agg #[I s.id,I s.src,vst,vwa,I s.al,I s.up],.agg #[I q.kind,I q.st,I q.wa]] w fun u w'=>∃H1 vl L d b en,HLe H H1∧u= .tuple #[vl,I d,.bool b]∧bU 1 vl (Is L) en∧((b=true∧eI s q∧L=lk s q∧d=qB q)∨(b=false∧¬eI s q∧L=[]∧d=0))∧St H1 w' (en::σ):=by
 have hsm:=eL hok
 obtain ⟨ast,cst,rfl⟩:=RI.shape h1
 obtain ⟨awa,cwa,rfl⟩:=RI.shape h2
 refine Cl.o Tryz.func130 Tryz.ntmps130 ag2 ?_
 refine .ai ?_
 refine .bx hs fun b2 w hs=>?_
 refine .bx hs fun b3 w hs=>?_
 refine .z zg (.z zg (.z zg (.nil ?_)))
 refine .cut (fun fs w=>∃b7,kQ fs ⟨46,[],[(8,.bool (decide (1≤q.kind∧q.kind≤4))),(7,.pointer (some ⟨b7,0,none⟩)),(2,.pointer (some ⟨b2,0,none⟩)),(3,.pointer (some ⟨b3,0,none⟩))]⟩∧St H w (.blk b7 [lF1 q.kind,lF2 q.kind,I (lD q.kind)]:: .blk b3 [I q.kind,I q.st,I q.wa]:: .blk b2 [I s.id,I s.src,(.slice ast s.st.length cst),(.slice awa s.wa.length cwa),I s.al,I s.up]::σ)) ?_ ?_
 ·refine .draw mix rfl hs fun w hs=>?_
  refine .z 1 rfl (zfa wR) ?_;refine .y 2 rfl hs af ?_
  refine .e2 (i:=0) (j:=7) aq rfl rfl rfl rfl .none .none hs ?_ ?_
  ·refine .call Tryz.call187 rfl (kr hs) ?_;rintro _ w ⟨b13,rfl,hs⟩
   refine .go ?_
   refine .q (i:=3) [.obj b13 (.map Hi.toArray 4)] rfl aq .none (Cj (H:= .bot) q.kind rfl rfl) ?_
   refine .z 4 rfl zm ?_;refine .z 5 rfl zex ?_;refine .z 6 rfl zex ?_
   refine .E 7 hs ?_
   refine .alloc hs JQ rfl ?_;intro b7 w hs
   refine .go ?_
   refine .E 8 hs ?_
   refine .aI (vs:=[lF1 q.kind,lF2 q.kind,I (lD q.kind)]) hs rfl rfl Tryz.sizeOf236 ?_ (hv:=Ap _);intro w hs
   refine .go ?_
   refine .z 9 rfl zg ?_;refine .D hs ?_
   exact nT ⟨b7,bD,hs.sb⟩
  ·refine .alloc hs JQ rfl ?_;intro b7 w hs
   refine .go ?_
   refine .E 0 hs ?_
   refine .call Tryz.call187 rfl (kr hs) ?_;rintro _ w ⟨b13,rfl,hs⟩
   refine .go ?_
   refine .q (i:=3) [.obj b13 (.map Hi.toArray 4)] rfl aq .none (Cj (H:= .bot) q.kind rfl rfl) ?_
   refine .z 4 rfl zm ?_;refine .z 5 rfl zex ?_;refine .z 6 rfl zex ?_
   refine .E 8 hs ?_
   refine .aI (vs:=[lF1 q.kind,lF2 q.kind,I (lD q.kind)]) hs rfl rfl Tryz.sizeOf236 ?_ (hv:=Ap _);intro w hs
   refine .go ?_
   refine .z 9 rfl zg ?_;refine .D hs ?_
   exact nT ⟨b7,bD,hs.sb⟩
 ·rintro fs w ⟨b7,hfs,hs⟩
  refine WE.sub ?_ hfs
  refine .ai (.y hs (zls [_,_,_] yU iR) (.y hs (zls [_,_,_,_,_,_] aT aF) (.z (zbd (vs:=[(0,.agg #[I q.kind,I q.st,I q.wa]),(1,.agg #[I s.id,I s.src,(.slice ast s.st.length cst),(.slice awa s.wa.length cwa),I s.al,I s.up])]) [I q.kind,I q.st,I q.wa,I s.id,I s.src,(.slice ast s.st.length cst),(.slice awa s.wa.length cwa),I s.al,I s.up] sy rfl aq) ?_)))
  refine .o (.alloc hs Tryz.zeroValue241 rfl fun b9 w hs=>?_)
  refine .o (.aI (vs:=[_,_,_,_,_,_,_,_,_]) hs rfl rfl kg fun w hs=>?_)
  refine .nil (.seq (.ai (.z zm (.z gy (.z zm ?_)))))
  refine .bif (t':=24) rfl (fun hb24=>?_) (fun hb24=>?_)
  ·refine .gFs 5 2 false rfl rfl rfl ?_
   refine .z zpT (.nil ?_)
   refine (.cT ?_)
   refine .ai (.z zg (.z zg (.z zg (.nil ?_))))
   refine .ret (rT (?_))
   have hn:¬eI s q:=fun h=>by have:=DZ h;simp [this] at hb24
   exact Fin.ia [] [] hs fun w hs=>⟨_,results3 Tryz.results130 rfl rfl rfl,H,_,[],_,_,.nul,HLe.refl H,rfl,.nil 1 none,.inr ⟨rfl,hn,rfl,rfl⟩,hs.out.nul⟩
  ·refine .gT rfl rfl ?_
   have hk:1≤q.kind∧q.kind≤4:=by simpa using hb24
   rw [show lF1 q.kind= .func (.func (A6 q.kind)) #[] #[] from if_pos hk,show lF2 q.kind= .func (.func (AX q.kind)) #[] #[] from if_pos hk,Ij hk] at hs
   refine .z (zfa rj) ?_
   refine .gT rfl rfl ?_
   refine .y hs (zld Tryz.isAgg233) ?_
   refine .gT rfl rfl ?_
   refine .y hs (zls [_,_,_,_,_,_,_,_,_] qE kg) ?_
   refine .gT rfl rfl ?_
   refine .o (.nO (first:=[]) (cap:=[]) rfl rfl (Eg q.kind) (Ef (s:=s) hs h1 h2 hk) ?_);rintro _ w ⟨b28,rfl,hb28,hs⟩
   refine .gT rfl rfl ?_
   refine .z gy (.z zpF (.nil ?_))
   refine (.cond rfl (fun hc30=>?_) (fun hc30=>?_))
   ·refine .ai (.z zg (.z zg (.z zg (.nil ?_))))
    refine .ret (rT (?_))
    have hn:¬eI s q:=fun h=>by rw [hb28.2 h] at hc30;cases hc30
    exact Fin.ia [] [] hs fun w hs=>⟨_,results3 Tryz.results130 rfl rfl rfl,H,_,[],_,_,.nul,HLe.refl H,rfl,.nil 1 none,.inr ⟨rfl,hn,rfl,rfl⟩,hs.out.nul⟩
   ·refine .skip ?_
    refine nT ?_
    refine .ai ?_
    refine .o (.buildSlice (cells:=[_]) hs cA rfl rfl fun b31 w hs=>?_)
    refine .o (.alloc hs ef rfl fun b10 w hs=>?_)
    refine .o (.store hs rfl rfl aA fun w hs=>?_)
    refine .nil (.seq (.ai (.y hs (zls [_,_,_,_,_,_] aT aF) ?_)))
    have hq:eI s q:=hb28.1 (by simpa using hc30)
    refine .o (.call BD rfl (eJ (s:=s) hs h1 h2 ⟨ak,ak⟩) ?_);rintro _ w ⟨H1,ba,hle1,rfl,hit,hs⟩
    have hwl:=hZ s q
    refine .nil (.block ?_)
    refine .rangeFunc (gf:=188) (cap:=[.pointer (some ⟨ba,0,none⟩)]) (xs:=vI s) (σb:=[.blk b10 [.slice (some ⟨b31,0,none⟩) 1 1],.blk b31 (Is [0]),.blk b7 [.func (.func (A6 q.kind)) #[] #[],.func (.func (AX q.kind)) #[] #[],I (qB q)],.blk b9 [I q.kind,I q.st,I q.wa,I s.id,I s.src,(.slice ast s.st.length cst),(.slice awa s.wa.length cwa),I s.al,I s.up]]) (σf:=σ) (hs.sb) trivial rfl hit BC (fun x hx=>by
      simp only [vI,List.mem_map] at hx
      obtain ⟨j,_,rfl⟩:=hx;rfl) rfl
     (I:=fun p H' σb=>∃vo en,σb=[.blk b10 [vo],en,.blk b7 [.func (.func (A6 q.kind)) #[] #[],.func (.func (AX q.kind)) #[] #[],I (qB q)],.blk b9 [I q.kind,I q.st,I q.wa,I s.id,I s.src,(.slice ast s.st.length cst),(.slice awa s.wa.length cwa),I s.al,I s.up]]∧bU 1 vo (Is ((lk s q).take (p+1))) en) (Ix:=fun _ _ _=>False)
     (fun j _ _ σ g1 g2=>g2) (fun _ _ _ _ _ h=>h) ⟨_,_,rfl,.full rfl⟩ ?_ ?_ (fun D c H' σb w _ h _=>h.elim)
    ·rintro ly p hp H2 σb2 σf2 w hle2 ⟨vo,en,rfl,hO⟩ hs ⟨rr,hrr⟩
     have hpm:p<s.many:=by rw [dD] at hp;exact hp
     have hin:p/s.wa.length<s.st.length:=Nat.div_lt_of_lt_mul (by rw [Nat.mul_comm];exact hpm)
     have hkm:=Nat.mod_lt p hsm.2.2.1
     have hws:=xr s q hpm
     have hget:(lk s q)[p+1]? =some (ob s q (p/s.wa.length) (p%s.wa.length)):=by rw [←hws];exact bF ak
     rw [lO hp]
     obtain ⟨al,ll,cl,rfl,hll⟩:=hO.shape
     generalize p/s.wa.length=i at*
     generalize p%s.wa.length=k at*
     refine .region ?_
     refine .o (.alloc hs jQ rfl fun b11 w hs=>?_)
     refine .o (.aI (vs:=[_,_,_]) hs rfl rfl nX fun w hs=>?_)
     refine .nil ?_
     refine nT ?_
     refine ⟨H2,[.blk b11 [I (i:Int),I (k:Int),I ((p+1:Nat):Int)],.blk b10 [Value.slice al ll cl],en,.blk b7 [.func (.func (A6 q.kind)) #[] #[],.func (.func (AX q.kind)) #[] #[],I (qB q)],.blk b9 [I q.kind,I q.st,I q.wa,I s.id,I s.src,(.slice ast s.st.length cst),(.slice awa s.wa.length cwa),I s.al,I s.up]],HLe.refl _,hs,?_⟩;rintro w σf4 - hs
     refine .block ?_
     refine .draw mix rfl hs fun w hs=>?_
     refine .y 0 rfl hs an ?_;refine .z 1 rfl (zfa rh) ?_
     refine .y 2 rfl hs Tryz.isAgg234 ?_
     refine .ys 3 rfl hs [_,_,_,_,_,_,_,_,_] qE kg ?_;refine .ys 4 rfl hs [_,_,_] Tryz.isAgg190 nX ?_
     refine .E 5 hs ?_
     refine .nO (first:=[]) (cap:=[]) rfl rfl (D1 q.kind) (D0 (s:=s) (q:=q) (i:=i) (k:=k) hs (h1.mono (hle1.trans hle2)) (h2.mono (hle1.trans hle2)) hok hq hk hin hkm) ?_;rintro _ w ⟨H3,hle3,rfl,hs⟩
     refine .go ?_
     refine .E 6 hs ?_
     refine .buildSlice (cells:=[_]) hs cA rfl rfl ?_;intro b41 w hs
     refine .go ?_
     refine .E 7 hs ?_
     refine .append (ys:=Is [ob s q i k]) hs cn rfl rfl hO (.own .here rfl rfl) (iX _) (fun l h=>by simp at h;omega) ?_;intro v42 en42 w hO2 hs
     rw [show Is ((lk s q).take (p+1))++Is [ob s q i k]=Is ((lk s q).take (p+1+1)) by rw [cC hget];simp [Is]] at hO2
     obtain ⟨a42,l42,c42,rfl,h42⟩:=hO2.shape
     refine .go ?_
     refine .E 8 hs ?_
     refine .store hs rfl rfl aA ?_;intro w hs
     refine .go ?_
     refine .D hs ?_
     refine nB ?_
     exact ⟨H3,[.blk b10 [.slice a42 l42 c42],en42,.blk b7 [.func (.func (A6 q.kind)) #[] #[],.func (.func (AX q.kind)) #[] #[],I (qB q)],.blk b9 [I q.kind,I q.st,I q.wa,I s.id,I s.src,(.slice ast s.st.length cst),(.slice awa s.wa.length cwa),I s.al,I s.up]],hle3,(hs.sb:St H3 w (.blk b10 _::en42:: .blk b7 _:: .blk b9 _::σf4)),_,_,rfl,hO2⟩
    ·rintro D H2 σb2 w hle2 ⟨vo,en,rfl,hO⟩ hs
     rw [dD,←hwl,List.take_length] at hO
     replace hs:St H2 w (.obj D (.deferred (some [])):: .blk b10 [vo]::en:: .blk b7 [.func (.func (A6 q.kind)) #[] #[],.func (.func (AX q.kind)) #[] #[],I (qB q)]:: .blk b9 [I q.kind,I q.st,I q.wa,I s.id,I s.src,(.slice ast s.st.length cst),(.slice awa s.wa.length cwa),I s.al,I s.up]::σ):=hs
     obtain ⟨al,ll,cl,rfl,hll⟩:=hO.shape
     refine nB (nT ?_)
     refine .seq (.draw mix rfl hs fun w hs=>?_)
     refine .y 0 rfl hs an ?_;refine .z 1 rfl (zfa rf) ?_;refine .y 2 rfl hs af ?_;refine .z 3 rfl zg ?_;refine .z 4 rfl zg ?_;refine .z 5 rfl zg ?_;refine .D hs ?_
     refine .ret ?_
     exact Fin.ia [D] [] hs fun w hs=>⟨_,results3 Tryz.results130 rfl rfl rfl,H2,_,_,_,_,en,hle1.trans hle2,rfl,hO,.inl ⟨rfl,hq,rfl,rfl⟩,hs.sb⟩
theorem iV{a d:Int}(hs:St H w σ)(hd:1≤d)(ha: -4608000000000000000≤a∧a≤4608000000000000000):
  Cl Tryz.prog 132 [I a,I d] w fun v w'=>v=I (a/d)∧St H w' σ:=by
 have hq: -4608000000000000000≤a.tdiv d∧a.tdiv d≤4608000000000000000:=by
  have h1:=sR (n:=a) (d:=d) ak
  have h2:a/d≤4608000000000000000:=Int.ediv_le_of_le_mul ak (by
   have:=Int.mul_le_mul_of_nonneg_left hd (show (0:Int)≤4608000000000000000 by omega);omega)
  have h3: -4608000000000000000≤a/d:=Int.le_ediv_of_mul_le ak (by
   have:=Int.mul_le_mul_of_nonneg_left hd (show (0:Int)≤4608000000000000000 by omega);omega)
  by_cases h0:0≤a
  ·rw [Int.tdiv_eq_ediv_of_nonneg h0];omega
  ·split at h1
   ·have:a/d<0:=Int.ediv_neg_of_neg_of_pos ak ak
    omega
   ·omega
 have hfl:=sR (n:=a) (d:=d) ak
 refine Cl.o Tryz.func132 Tryz.ntmps132 ag2 ?_
 refine .ai (.z zg (.nil (.ai (.z zm (.z zm ?_)))))
 refine .q hs (xP rfl rfl ak ⟨ak,ak⟩) ?_
 refine .z zg (.nil (.seq (.ai (.z zm (.z zm (.z AU (.z iM (.nil ?_))))))))
 refine (.bT rfl (fun hc12=>?_) (fun hc12=>?_))
 ·refine .region (.z zm (.z gZ (.z zg (.nil ?_))))
  refine nT ?_
  refine .ai (.z zm (.z zg (.nil ?_)))
  refine .ret (Fin.bw Tryz.results132 rfl ?_)
  rw [if_pos hc12] at hfl
  exact ⟨by rw [hfl],hs⟩
 ·refine .skip ?_
  refine nT ?_
  refine .ai (.z zm (.z zg (.nil ?_)))
  refine .ret (Fin.bw Tryz.results132 rfl ?_)
  rw [if_neg hc12,Int.sub_zero] at hfl
  exact ⟨by rw [hfl],hs⟩
theorem oW{s:Srv}{vst vwa vr vc:Value}(hs:St H w σ)(h1:RI H vst s.sp.st)(h2:RI H vwa s.sp.wa)(h3:RRd H vr s.rs)(h4:RCm H vc s.cs)(hok:cI s):
  Cl Tryz.prog 178 [.agg #[I s.sp.id,I s.sp.src,vst,vwa,I s.sp.al,I s.sp.up,vr,vc]] w fun u w'=>∃H1,∃b:Bool,HLe H H1∧u= .bool b∧(b=true↔s.sys.Sound)∧St H1 w' σ:=by
 refine Cl.o Tryz.func178 Tryz.ntmps178 ag1 ?_
 refine .ai ?_
 refine .bx hs fun b1 w hs=>?_
 refine .z zg (.nil (.ai (.y hs (zls [_,_,_,_,_,_,_,_] aJ aB) ?_)))
 refine .o (.call JR rfl (ez (s:=s) hs h1 h2 h3 h4 hok.early) ?_);rintro v7 w ⟨H1,hle1,hS,hs⟩
 refine .o (.call Tryz.call221 rfl (su (s:=s.sys) hs hS) ?_);rintro _ w ⟨H2,vx,xs,e,hle2,rfl,rx,hC,hs⟩
 obtain ⟨ax,cx,rfl⟩:=RI.shape rx
 have hchk:s.sys.check=0:=s.sys.aP.2 hok.sys
 obtain rfl:e=0:=by
  cases hC with
  |bad h=>exact (h hchk).elim
  |sound=>rfl
  |chain=>rfl
 have hiff:=hC.B1
 refine .z zm (.z zex (.z zex (.z zg (.z zg (.nil (.ai (.z zm (.z jU (.z zm ?_)))))))))
 refine .jM (t':=13) rfl (fun hb13=>?_) (fun hb13=>?_)
 ·refine .gT rfl rfl ?_
  refine .z zm ?_
  refine .gT rfl rfl ?_
  refine .z (cZ ae) ?_
  refine .gT rfl rfl ?_
  refine .z jU (.z zpT (.z zg (.nil ?_)))
  refine .ret (Fin.bw Tryz.results178 rfl ?_)
  first
  |exact ⟨H2,_,hle1.trans hle2,rfl,by rw [←hiff,decide_eq_true_eq];exact ⟨fun h=>List.length_eq_zero_iff.1 ak,fun h=>by rw [h];rfl⟩,hs.out⟩
  |exact (hb13 rfl).elim
 ·refine .gFs 3 2 true rfl rfl rfl ?_
  refine .z zpF (.z zg (.nil ?_))
  refine .ret (Fin.bw Tryz.results178 rfl ?_)
  first
  |exact ⟨H2,_,hle1.trans hle2,rfl,by rw [←hiff,decide_eq_true_eq];exact ⟨fun h=>List.length_eq_zero_iff.1 ak,fun h=>by rw [h];rfl⟩,hs.out⟩
  |exact (hb13 rfl).elim
theorem Fm(L:List Int)(j:Nat):L++List.replicate j 0++[0]=L++List.replicate (j+1) 0:=by
 rw [List.append_assoc,←List.replicate_succ']
set_option maxHeartbeats 1000000 in
theorem sf{s:Srv}{q:Wht}{vst vwa vr vc:Value}(hs:St H w σ)(h1:RI H vst s.sp.st)(h2:RI H vwa s.sp.wa)(h3:RRd H vr s.rs)(h4:RCm H vc s.cs)(hok:cI s):
  Cl Tryz.prog 177 [.agg #[I s.sp.id,I s.sp.src,vst,vwa,I s.sp.al,I s.sp.up,vr,vc],.agg #[I q.kind,I q.st,I q.wa]] w fun u w'=>∃H1 ul vw L d b,HLe H H1∧u= .tuple #[.agg #[I s.sys.many,ul,vw,I d],.bool b]∧RL H1 ul s.bL∧RI H1 vw L∧L.length=s.sys.n∧((b=true∧eI s.sp q∧L=s.w q∧d=qB q)∨(b=false∧¬eI s.sp q))∧St H1 w' σ:=by
 have hn:=pK s
 have hm:=hok.many
 have hsm:s.sys.many+1=(s.sys.n:Int):=by rw [hn];show ((s.sp.many+s.bq.length:Nat):Int)+1=_;omega
 refine Cl.o Tryz.func177 Tryz.ntmps177 ag2 ?_
 refine .ai ?_
 refine .bx hs fun b2 w hs=>?_
 refine .bx hs fun b3 w hs=>?_
 refine .o (.alloc hs xm rfl fun b4 w hs=>?_)
 refine .z zg (.nil (.ai (.y hs (zls [_,_,_,_,_,_,_,_] aJ aB) ?_)))
 refine .o (.call JR rfl (ez (s:=s) hs h1 h2 h3 h4 hok.early) ?_);rintro _ w ⟨H1,hle1,⟨ul,rfl,hL⟩,hs⟩
 obtain ⟨al,cl,rfl⟩:=RL.shape hL
 refine .o (.alloc hs dz rfl fun b6 w hs=>?_)
 refine .o (.aI (vs:=[_,_]) hs rfl rfl aE fun w hs=>?_)
 refine .nil (.ai (.z (zfa bC) (.y hs (zls [_,_,_,_,_,_] aT aF) (.y hs (zls [_,_,_] yU iR) ?_))))
 refine .o (.call Tryz.call130 rfl (jF (s:=s.sp) (q:=q) hs (h1.mono hle1) (h2.mono hle1) hok.early.1) ?_);rintro _ w ⟨H2,vl,L0,d,b,en,hle2,rfl,hO,hcase,hs⟩
 have hL0:L0.length≤s.sys.n:=by
  rcases hcase with ⟨_,_,rfl,_⟩|⟨_,_,rfl,_⟩
  ·rw [hZ,hn];omega
  ·simp
 have hle02:=hle1.trans hle2
 refine .z zm (.z zex (.z zex (.z zex (.z zg (.z zg (.z zg (.nil (.seq (.block ?_)))))))))
 refine .loop (fun p:Nat×Value=>⟨34,[],[(7,p.2),(8,I d),(9,.bool b),(6,.pointer (some ⟨b6,0,none⟩)),(4,.pointer (some ⟨b4,0,none⟩))]⟩)
  (fun p w=>L0.length+p.1≤s.sys.n∧∃en,bU 1 p.2 (Is (L0++List.replicate p.1 0)) en∧St H2 w (en:: .blk b6 [I s.sys.many,.slice al s.bL.length cl]:: .blk b4 [I 0,.slice none 0 0,.slice none 0 0,I 0]::σ)) (fun p=>s.sys.n - (L0.length+p.1)) (0,vl) bD
  ⟨by simpa using hL0,en,by simpa using hO,hs.sb⟩ ?_
 clear hO hs
 rintro ⟨j,vo⟩ w ⟨hj,en,hO,hs⟩
 dsimp only at hj hO ⊢
 obtain ⟨ao,lo,co,rfl,hlo⟩:=hO.shape
 have hlo':lo=L0.length+j:=by simp [Is] at hlo;omega
 refine .seq (.ai (.z zm (.z (cZ ae) (.z (zfa bM) (.y hs (zld af) (.z cf (.z iM (.nil ?_))))))))
 refine (.bT rfl (fun hc25=>?_) (fun hc25=>?_))
 ·refine .skip ?_
  refine nT ?_
  refine .block (.region (.z zm ?_))
  refine .o (.buildSlice (cells:=[_]) hs cA rfl rfl fun b27 w hs=>?_)
  refine .o (.append (ys:=Is [0]) hs cn rfl rfl hO (.own .here rfl rfl) (iX _) (fun l' h=>by simp [Is] at h;omega) ?_);intro v28 en28 w hO2 hs
  rw [show Is (L0++List.replicate j 0)++Is [0]=Is (L0++List.replicate (j+1) 0) by rw [←Fm];simp [Is]] at hO2
  refine .z zg (.nil ?_)
  refine nB (nT ?_)
  exact ⟨(j+1,v28),bD,⟨by dsimp only;omega,_,hO2,hs.sb⟩,by dsimp only;omega⟩
 ·refine .exit ?_
  refine xT (xT (xB (nT ?_)))
  refine .ai (.y hs (zls [_,_] bg aE) (.z zm (.z zm (.z (zbd [_,_,_,_] e9) (.z zm ?_)))))
  refine .o (.aI (vs:=[_,_,_,_]) hs rfl rfl dS fun w hs=>?_)
  refine .z zg (.nil ?_)
  refine .ret ?_
  have hjn:L0.length+j=s.sys.n:=by omega
  obtain ⟨H3,hle3,hR,hs⟩:=bU.dM hO (by simp;omega) hs e7
  exact Fin.ia [] [] hs fun w hs=>⟨_,results2 Tryz.results177 (di (vs:=[_,_,_,_]) hs rfl yT dS) rfl,H3,_,_,_,d,b,hle02.trans hle3,rfl,hL.mono (hle2.trans hle3),hR,by simp;omega,by
   rcases hcase with ⟨g1,g2,rfl,g3⟩|⟨g1,g2,_,_⟩
   ·refine .inl ⟨g1,g2,?_,g3⟩
    rw [hZ,hn] at hjn
    unfold Srv.w;rw [show j=s.bq.length by omega]
   ·exact .inr ⟨g1,g2⟩,hs.out⟩
inductive sD(v:Srv)(q:Wht):Int→Prop
 |bad {e:Int} (h:rR v e) (he:e≠0):sD v q e
 |what (h:cI v) (h1:¬eI v.sp q):sD v q 33
 |fls (h:cI v) (h1:eI v.sp q) (h2:¬v.sys.Sound):sD v q 35
 |ok (h:cI v) (h1:eI v.sp q) (h2:v.sys.Sound):sD v q 0
theorem sD.zero{v:Srv}{q:Wht}(h:sD v q 0):cI v∧eI v.sp q∧v.sys.Sound:=by
 generalize hz:(0:Int)=z at h
 cases h with
 |bad h he=>exact (he hz.symm).elim
 |what=>omega
 |fls=>omega
 |ok h h1 h2=>exact ⟨h,h1,h2⟩
theorem sD.qty{v:Srv}{q:Wht}{e:Int}(h:sD v q e)(he:e≠0):xa v q 0 0 e:=by
 cases h with
 |bad h he=>exact .bad h he
 |what h h1=>exact .what h h1
 |fls h h1 h2=>exact .fls h h1 h2
 |ok=>exact (he rfl).elim
set_option maxHeartbeats 1000000 in
theorem pS{s:Srv}{q:Wht}{vst vwa vr vc:Value}(hs:St H w σ)(h1:RI H vst s.sp.st)(h2:RI H vwa s.sp.wa)(h3:RRd H vr s.rs)(h4:RCm H vc s.cs):
  Cl Tryz.prog 125 [.agg #[I s.sp.id,I s.sp.src,vst,vwa,I s.sp.al,I s.sp.up,vr,vc],.agg #[I q.kind,I q.st,I q.wa]] w fun u w'=>∃H1 m ul vw d e,HLe H H1∧u= .tuple #[.agg #[I m,ul,vw,I d],I e]∧(∃a l c,ul= .slice a l c)∧(∃a l c,vw= .slice a l c)∧sD s q e∧(e=0→m=s.sys.many∧RL H1 ul s.bL∧RI H1 vw (s.w q)∧d=qB q)∧St H1 w' σ:=by
 refine Cl.o Tryz.func125 Tryz.ntmps125 ag2 ?_
 refine .ai ?_
 refine .bx hs fun b2 w hs=>?_
 refine .bx hs fun b3 w hs=>?_
 refine .o (.alloc hs xm rfl fun b4 w hs=>?_)
 refine .z zg (.nil (.seq (.ai (.y hs (zls [_,_,_,_,_,_,_,_] aJ aB) ?_))))
 refine .o (.call JS rfl (eM (s:=s) hs h1 h2 h3 h4) ?_);rintro _ w ⟨H1,e,hle1,rfl,hC,hs⟩
 refine .z zg (.nil (.ai (.z zm (.z gE (.nil ?_)))))
 refine (.ep rfl (fun hc12=>?_) (fun hc12=>?_))
 ·refine .ai (.z (zbd [_,_,_,_] e9) (.z zm ?_))
  refine .o (.aI (vs:=[_,_,_,_]) hs rfl rfl dS fun w hs=>?_)
  refine .z zg (.nil ?_)
  refine .ret (rT (?_))
  exact Fin.ia [] [] hs fun w hs=>⟨_,results2 Tryz.results125 (di (vs:=[_,_,_,_]) hs rfl yT dS) rfl,H1,_,_,_,_,e,hle1,rfl,⟨_,_,_,rfl⟩,⟨_,_,_,rfl⟩,.bad hC hc12,fun h=>(hc12 h).elim,hs.out⟩
 ·refine .skip ?_
  refine nT ?_
  refine .ai (.y hs (zls [_,_,_,_,_,_,_,_] aJ aB) (.y hs (zls [_,_,_] yU iR) ?_))
  have hok:cI s:=hC.aP.1 (by simpa using hc12)
  refine .o (.call Tryz.call177 rfl (sf (s:=s) (q:=q) hs (h1.mono hle1) (h2.mono hle1) (h3.mono hle1) (h4.mono hle1) hok) ?_);rintro _ w ⟨H2,ul,vw,L,d,b,hle2,rfl,hL,hR,hLl,hcase,hs⟩
  have hle02:=hle1.trans hle2
  obtain ⟨al,cl,rfl⟩:=RL.shape hL
  obtain ⟨aw,cw,rfl⟩:=RI.shape hR
  refine .z zm (.z zex (.z zex ?_))
  refine .o (.alloc hs xm rfl fun b7 w hs=>?_)
  refine .o (.aI (vs:=[_,_,_,_]) hs rfl rfl dS fun w hs=>?_)
  refine .z zg (.nil (.seq (.block (.ai (.z zm (.z gy (.z zg (.nil ?_))))))))
  refine (.cond rfl (fun hc21=>?_) (fun hc21=>?_))
  ·refine .ai (.z (zbd [_,_,_,_] e9) ?_)
   refine .o (.aI (vs:=[_,_,_,_]) hs rfl rfl dS fun w hs=>?_)
   refine .z zg (.nil ?_)
   refine .ret (rB (rT (?_)))
   have hq:¬eI s.sp q:=by
    rcases hcase with ⟨g,_⟩|⟨_,g⟩
    ·subst g;cases hc21
    ·exact g
   exact Fin.ia [] [] hs fun w hs=>⟨_,results2 Tryz.results125 (di (vs:=[_,_,_,_]) hs rfl yT dS) rfl,H2,_,_,_,_,_,hle02,rfl,⟨_,_,_,rfl⟩,⟨_,_,_,rfl⟩,.what hok hq,fun h=>by omega,hs.out⟩
  ·refine .ai (.y hs (zls [_,_,_,_,_,_,_,_] aJ aB) ?_)
   obtain ⟨rfl,hq,rfl,rfl⟩:b=true∧eI s.sp q∧L=s.w q∧d=qB q:=hcase.resolve_right fun h=>by rw [h.1] at hc21;cases hc21
   refine .o (.call Tryz.call178 rfl (oW (s:=s) hs (h1.mono hle02) (h2.mono hle02) (h3.mono hle02) (h4.mono hle02) hok) ?_);rintro _ w ⟨H3,b27,hle3,rfl,hb27,hs⟩
   refine .z gy (.z zg (.nil ?_))
   refine (.cond rfl (fun hc25=>?_) (fun hc25=>?_))
   ·refine .ai (.z (zbd [_,_,_,_] e9) ?_)
    refine .o (.aI (vs:=[_,_,_,_]) hs rfl rfl dS fun w hs=>?_)
    refine .z zg (.nil ?_)
    refine .ret (rB (rT (?_)))
    exact Fin.ia [] [] hs fun w hs=>⟨_,results2 Tryz.results125 (di (vs:=[_,_,_,_]) hs rfl yT dS) rfl,H3,_,_,_,_,_,hle02.trans hle3,rfl,⟨_,_,_,rfl⟩,⟨_,_,_,rfl⟩,.fls hok hq (fun h=>by rw [hb27.2 h] at hc25;cases hc25),fun h=>by omega,hs.out⟩
   ·refine .skip ?_
    refine nB (nT ?_)
    refine .ai (.y hs (zls [_,_,_,_] yT dS) ?_)
    refine .o (.aI (vs:=[_,_,_,_]) hs rfl rfl dS fun w hs=>?_)
    refine .z zg (.nil ?_)
    refine .ret ?_
    exact Fin.ia [] [] hs fun w hs=>⟨_,results2 Tryz.results125 (di (vs:=[_,_,_,_]) hs rfl yT dS) rfl,H3,_,_,_,_,_,hle02.trans hle3,rfl,⟨_,_,_,rfl⟩,⟨_,_,_,rfl⟩,.ok hok hq (hb27.1 (by simpa using hc25)),fun _=>⟨rfl,hL.mono hle3,hR.mono hle3,rfl⟩,hs.out⟩
set_option maxHeartbeats 1000000 in
theorem pW{s:Srv}{q:Wht}{vst vwa vr vc:Value}(hs:St H w σ)(h1:RI H vst s.sp.st)(h2:RI H vwa s.sp.wa)(h3:RRd H vr s.rs)(h4:RCm H vc s.cs):
  Cl Tryz.prog 174 [.agg #[I s.sp.id,I s.sp.src,vst,vwa,I s.sp.al,I s.sp.up,vr,vc],.agg #[I q.kind,I q.st,I q.wa]] w fun u w'=>∃H1 lo hi e,HLe H H1∧u= .tuple #[.agg #[I lo,I hi],I e]∧xa s q lo hi e∧St H1 w' σ:=by
 refine Cl.o Tryz.func174 Tryz.ntmps174 ag2 ?_
 refine .ai ?_
 refine .bx hs fun b2 w hs=>?_
 refine .bx hs fun b3 w hs=>?_
 refine .o (.alloc hs bS rfl fun b4 w hs=>?_)
 refine .z zg (.nil (.ai (.y hs (zls [_,_,_,_,_,_,_,_] aJ aB) (.y hs (zls [_,_,_] yU iR) ?_))))
 refine .o (.call Tryz.call125 rfl (pS (s:=s) (q:=q) hs h1 h2 h3 h4) ?_);rintro _ w ⟨H1,m,ul,vw,d,e,hle1,rfl,⟨al,ll,cl,rfl⟩,⟨aw,lw,cw,rfl⟩,hA,hA0,hs⟩
 refine .z zm (.z zex (.z zex ?_))
 refine .o (.alloc hs xm rfl fun b6 w hs=>?_)
 refine .o (.aI (vs:=[_,_,_,_]) hs rfl rfl dS fun w hs=>?_)
 refine .z zg (.nil (.seq (.ai (.z zm (.z gE (.nil ?_))))))
 refine (.ep rfl (fun hc17=>?_) (fun hc17=>?_))
 ·refine .ai (.z (zbd [_,_] bA) (.z zm ?_))
  refine .o (.aI (vs:=[_,_]) hs rfl rfl az fun w hs=>?_)
  refine .z zg (.nil ?_)
  refine .ret (rT (?_))
  exact Fin.ia [] [] hs fun w hs=>⟨_,results2 Tryz.results174 (di (vs:=[_,_]) hs rfl bh az) rfl,H1,_,_,_,hle1,rfl,hA.qty hc17,hs.out⟩
 ·refine .skip ?_
  refine nT ?_
  refine .ai (.z (zfa mW) (.y hs (zls [_,_] bg aE) (.z (zfa mV) (.y hs (zld an) ?_))))
  obtain rfl:e=0:=by simpa using hc17
  obtain ⟨rfl,hL,hR,rfl⟩:=hA0 rfl
  obtain ⟨hok,hq,hsd⟩:=hA.zero
  refine .o (.call Tryz.call219 rfl (sr (s:=s.sys) hs ⟨_,rfl,hL⟩ hR) ?_);rintro _ w ⟨H2,lo,hi,f,hle2,rfl,hRg,hs⟩
  obtain rfl:=qi (hok.ask hq) hsd (fun b=>s.both) hRg
  have hbd:=hRg.bd
  have hdp:=wU q
  refine .z zm (.z zex (.z zex (.z zex (.z zg (.z zg (.z zg (.nil (.seq (.ai ?_)))))))))
  refine .z zm (.z gE (.nil ?_))
  refine (.ep rfl (fun hc30=>?_) (fun hc30=>?_))
  ·refine .ai (.z (zbd [_,_] bA) (.z zm ?_))
   refine .o (.aI (vs:=[_,_]) hs rfl rfl az fun w hs=>?_)
   refine .z zg (.nil ?_)
   refine .ret (rT (?_))
   exact (hc30 rfl).elim
  ·refine .skip ?_
   refine nT ?_
   refine .seq (.draw mix rfl hs fun w hs=>?_)
   refine .z 0 rfl zm ?_;refine .z 1 rfl (zfa jg) ?_;refine .y 2 rfl hs af ?_;refine .z 4 rfl zm ?_;refine .z 5 rfl (zfa jg) ?_;refine .y 6 rfl hs af ?_
   refine .E 3 hs ?_
   refine .call Tryz.call132 rfl (iV hs ak ak) ?_;rintro _ w ⟨rfl,hs⟩
   refine .go ?_
   refine .E 7 hs ?_
   refine .call Tryz.call132 rfl (iV hs ak ak) ?_;rintro _ w ⟨rfl,hs⟩
   refine .go ?_
   refine .z 8 rfl (zbd [_,_] bA) ?_
   refine .E 9 hs ?_
   refine .aI (vs:=[_,_]) hs rfl rfl az ?_;intro w hs
   refine .go ?_
   refine .z 10 rfl zg ?_;refine .D hs ?_
   refine .ret ?_
   exact Fin.ia [] [] hs fun w hs=>⟨_,results2 Tryz.results174 (di (vs:=[_,_]) hs rfl bh az) rfl,H2,_,_,_,hle1.trans hle2,rfl,.ok hok hq hsd hRg,hs.out⟩
inductive ue(v:Srv)(out:List Int):Int→Prop
 |bad {e:Int} (h:rR v e) (he:e≠0) (h1:out=[]):ue v out e
 |ok {e:Int} (h:cI v) (h1:uL v.sys out e):ue v out e
theorem pV{s:Srv}{vst vwa vr vc:Value}(hs:St H w σ)(h1:RI H vst s.sp.st)(h2:RI H vwa s.sp.wa)(h3:RRd H vr s.rs)(h4:RCm H vc s.cs):
  Cl Tryz.prog 175 [.agg #[I s.sp.id,I s.sp.src,vst,vwa,I s.sp.al,I s.sp.up,vr,vc]] w fun u w'=>∃H1 vx out e,HLe H H1∧u= .tuple #[vx,I e]∧RI H1 vx out∧ue s out e∧St H1 w' σ:=by
 refine Cl.o Tryz.func175 Tryz.ntmps175 ag1 ?_
 refine .ai ?_
 refine .bx hs fun b1 w hs=>?_
 refine .z zg (.z zg (.nil (.seq (.ai (.y hs (zls [_,_,_,_,_,_,_,_] aJ aB) ?_)))))
 refine .o (.call JS rfl (eM (s:=s) hs h1 h2 h3 h4) ?_);rintro _ w ⟨H1,e,hle1,rfl,hC,hs⟩
 refine .z zg (.nil (.ai (.z zm (.z gE (.nil ?_)))))
 refine (.ep rfl (fun hc10=>?_) (fun hc10=>?_))
 ·refine .ai (.z zm (.z zg (.z zg (.nil ?_))))
  refine .ret (rT (Fin.kn Tryz.results175 rfl rfl ?_))
  exact ⟨H1,_,[],_,hle1,rfl,RS.nil H1 1 none 0,.bad hC hc10 rfl,hs.out⟩
 ·refine .skip ?_
  refine nT ?_
  refine .ai (.y hs (zls [_,_,_,_,_,_,_,_] aJ aB) ?_)
  have hok:cI s:=hC.aP.1 (by simpa using hc10)
  refine .o (.call JR rfl (ez (s:=s) hs (h1.mono hle1) (h2.mono hle1) (h3.mono hle1) (h4.mono hle1) hok.early) ?_);rintro v14 w ⟨H2,hle2,hS,hs⟩
  refine .o (.call Tryz.call220 rfl (pc (s:=s.sys) hs hS) ?_);rintro _ w ⟨H3,vx,out,f,hle3,rfl,hR,hCf,hs⟩
  refine .z zm (.z zex (.z zex (.z zg (.z zg (.nil (.ai (.z zm (.z zm (.z zg ?_)))))))))
  refine .z zg (.nil ?_)
  refine .ret (Fin.kn Tryz.results175 rfl rfl ?_)
  exact ⟨H3,_,out,_,hle1.trans (hle2.trans hle3),rfl,hR,.ok hok hCf,hs.out⟩
theorem mG{v:Value}{rs:List (List Int)}{g:Nat}{cap:List Value}(q:List Int→Prop)(hs:St H w σ)(hR:RT H v rs)(hl:rs.length≤9223372036854775807)(hc:∀args w,(callFunc g args).run Tryz.prog w= .ok (.enter g args) w)
  (hp:∀H' w σ r u,HLe H H'→RI H' u r→St H' w σ→Cl Tryz.prog g ([u]++cap) w fun z w'=>∃H1 b,HLe H' H1∧z= .bool b∧(b=true↔q r)∧St H1 w' σ):
  Cl Tryz.prog 227 [v,.func (.func g) #[] cap.toArray] w fun u w'=>∃H1 i,HLe H H1∧u=I i∧(0≤i↔∃x∈rs,q x)∧St H1 w' σ:=by
 obtain ⟨a,c,rfl⟩:=hR.shape
 refine Cl.o Tryz.func227 Tryz.ntmps227 ag2 ?_
 refine .ai (.z zg (.nil (.seq (.ai (.z zm (.z (cZ aC) (.z zm (.nil ?_))))))))
 refine .for (N:=rs.length) (J:=fun k fr w=>fr=[(1,.func (.func g) #[] cap.toArray),(0,.slice a rs.length c)]∧∃H1,HLe H H1∧(∀j<k,∀y,rs[j]? =some y→¬q y)∧St H1 w σ) ak ?_ ?_ ?_
 ·exact .mk ⟨rfl,H,HLe.refl H,fun j hj=>by omega,hs⟩
 ·rintro k fr w hk ⟨rfl,H1,hle1,hno,hs⟩
  have hx:=rI (rs:=rs) hk
  refine .block (.ai (.z zm (.z zg (.nil (.ai (.z zm (.z zm (.z zm ?_))))))))
  refine .ixT hs (hR.mono hle1) rfl rfl aC aA (show k<_ by omega) dn ?_;intro b14 o14 a14 c14 hc14 hR14
  refine .q hs (aR rfl an hc14) ?_
  refine .o (.nO (first:=[]) (cap:=cap) rfl rfl hc (hp _ _ _ (gr rs k) _ hle1 hR14 hs) ?_);rintro _ w ⟨H2,b16,hle2,rfl,hb16,hs⟩
  refine .nil ?_
  refine (.cond rfl (fun hc16=>?_) (fun hc16=>?_))
  ·refine .ai (.z zm (.z zg (.nil ?_)))
   refine .ret (rB (rT (rB (rT (Fin.bw Tryz.results227 rfl ?_)))))
   exact ⟨H2,_,hle1.trans hle2,rfl,⟨fun _=>⟨_,List.mem_of_getElem? hx,hb16.1 hc16⟩,fun _=>by omega⟩,hs⟩
  ·refine .skip ?_
   refine nB (nT ?_)
   exact .mk ⟨rfl,H2,hle1.trans hle2,eK hno hx (fun h=>by rw [hb16.2 h] at hc16;cases hc16),hs⟩
 ·rintro fr w ⟨rfl,H1,hle1,hno,hs⟩
  refine nT ?_
  refine .ai (.z zg (.nil ?_))
  refine .ret (Fin.bw Tryz.results227 rfl ?_)
  exact ⟨H1,_,hle1,rfl,⟨fun h=>by omega,fun ⟨x,h1,h2⟩=>by
   obtain ⟨j,hj⟩:=List.getElem?_of_mem h1
   exact (hno j (List.getElem?_eq_some_iff.1 hj).1 x hj h2).elim⟩,hs⟩
theorem kW{v:Value}{rs:List (List Int)}{g:Nat}{cap:List Value}(q:List Int→Prop)(hs:St H w σ)(hR:RT H v rs)(hl:rs.length≤9223372036854775807)(hc:∀args w,(callFunc g args).run Tryz.prog w= .ok (.enter g args) w)
  (hp:∀H' w σ r u,HLe H H'→RI H' u r→St H' w σ→Cl Tryz.prog g ([u]++cap) w fun z w'=>∃H1 b,HLe H' H1∧z= .bool b∧(b=true↔q r)∧St H1 w' σ):
  Cl Tryz.prog 183 [v,.func (.func g) #[] cap.toArray] w fun u w'=>∃H1 b,HLe H H1∧u= .bool b∧(b=true↔∃x∈rs,q x)∧St H1 w' σ:=by
 refine Cl.o Tryz.func183 Tryz.ntmps183 ag2 ?_
 refine .ai (.z zg (.nil (.ai (.z zm (.z zm ?_)))))
 refine .o (.call Tryz.call227 rfl (mG q hs hR hl hc hp) ?_);rintro _ w ⟨H1,i,hle1,rfl,hi,hs⟩
 refine .z y7 (.z zg (.nil ?_))
 refine .ret (Fin.bw Tryz.results183 rfl ?_)
 exact ⟨H1,_,hle1,rfl,by simp only [decide_eq_true_eq];exact hi,hs⟩
theorem tK{n:Int}(hs:St H w σ):
  Cl Tryz.prog 186 [I n] w fun u w'=>u= .bool (!decide (0≤n∧n≤20000))∧St H w' σ:=by
 refine Cl.o Tryz.func186 Tryz.ntmps186 ag1 ?_
 refine .ai (.z zg (.nil (.ai (.z zm ?_))))
 refine .o (.call db rfl (a6 hs) ?_);rintro _ w ⟨rfl,hs⟩
 refine .z gy (.z zg (.nil ?_))
 refine .ret (Fin.bw Tryz.results186 rfl ?_)
 exact ⟨rfl,hs⟩
theorem wI{s:Spc}{v vst vwa:Value}{r:List Int}{b:Nat}(hs:St H w σ)(hb:Row H b [I s.id,I s.src,vst,vwa,I s.al,I s.up])(h2:RI H vwa s.wa)(hr:RI H v r):
  Cl Tryz.prog 184 [v,.pointer (some ⟨b,0,none⟩)] w fun u w'=>∃H1 bb,HLe H H1∧u= .bool bb∧(bb=true↔¬(r.length=s.wa.length∧∀x∈r,0≤x∧x≤20000))∧St H1 w' σ:=by
 obtain ⟨a,c,rfl⟩:=RI.shape hr
 obtain ⟨awa,cwa,rfl⟩:=RI.shape h2
 have hb3:=hb.at 3
 refine Cl.o Tryz.func184 Tryz.ntmps184 ag2 ?_
 refine .ai (.z zg (.nil (.ai (.z zm (.z (cZ ae) (.z (zfa a8) (.y hs (zld an) (.z (cZ ae) (.z gE ?_)))))))))
 refine .z zm ?_
 refine .DQ (t':=10) rfl (fun hb10=>?_) (fun hb10=>?_)
 ·refine .gFs 2 6 false rfl rfl rfl ?_
  refine .z zpT (.z zg (.nil ?_))
  refine .ret (Fin.bw Tryz.results184 rfl ?_)
  exact ⟨H,true,HLe.refl H,rfl,⟨fun _ h=>by have:=h.1;simp_all,fun _=>rfl⟩,hs⟩
 ·refine .gT rfl rfl ?_
  refine .z zm ?_
  refine .gT rfl rfl ?_
  refine .o (.call Tryz.call185 rfl (kH (g:=186) (cap:=[]) (fun n=>¬(0≤n∧n≤20000)) hs hr Tryz.call186 (fun H' w σ n _ _ hs=>(tK hs).mono fun u w' ⟨g1,g2⟩=>⟨H',_,HLe.refl _,g1,by simp;omega,g2⟩)) ?_);rintro _ w ⟨H1,b12,hle1,rfl,hb12,hs⟩
  refine .z zpF (.z zg (.nil ?_))
  refine .ret (Fin.bw Tryz.results184 rfl ?_)
  have hlen:r.length=s.wa.length:=by simp_all;omega
  exact ⟨H1,_,hle1,rfl,by
   rw [hb12]
   constructor
   ·rintro ⟨x,h1,h2⟩ h;exact h2 (h.2 x h1)
   ·intro h
    refine Classical.byContradiction fun hn=>h ⟨hlen,fun x hx=>Classical.byContradiction fun hx'=>hn ⟨x,hx,hx'⟩⟩,hs⟩
theorem E0{s:Spc}{rows:List (List Int)}:jJ s rows↔rows.length=s.st.length∧∀r∈rows,r.length=s.wa.length∧∀x∈r,0≤x∧x≤20000:=by
 constructor
 ·rintro ⟨h1,h2,h3⟩
  refine ⟨h1,fun r hr=>?_⟩
  obtain ⟨i,hi⟩:=List.getElem?_of_mem hr
  have hil:=(List.getElem?_eq_some_iff.1 hi).1
  have hg:=rI hil
  rw [hi] at hg
  obtain rfl:=Option.some.inj hg
  have hl:=h2 i ak
  refine ⟨hl,fun x hx=>?_⟩
  obtain ⟨k,hk⟩:=List.getElem?_of_mem hx
  have hkl:=(List.getElem?_eq_some_iff.1 hk).1
  have hgk:=bF hkl
  rw [hk] at hgk
  obtain rfl:=Option.some.inj hgk
  exact h3 i ak k ak
 ·rintro ⟨h1,h2⟩
  have hm:∀i<s.st.length,gr rows i∈rows:=fun i hi=>List.mem_of_getElem? (rI ak)
  refine ⟨h1,fun i hi=>(h2 _ (hm i hi)).1,fun i hi k hk=>?_⟩
  have hl:=(h2 _ (hm i hi)).1
  exact (h2 _ (hm i hi)).2 _ (List.mem_of_getElem? (bF ak))
theorem j5{s:Spc}{vst vwa vh:Value}{rows:List (List Int)}(hs:St H w σ)(h1:RI H vst s.st)(h2:RI H vwa s.wa)(hr:RT H vh rows):
  Cl Tryz.prog 129 [.agg #[I s.id,I s.src,vst,vwa,I s.al,I s.up],.agg #[vh]] w fun u w'=>∃H1 b,HLe H H1∧u= .bool b∧(b=true↔jJ s rows)∧St H1 w' σ:=by
 obtain ⟨ast,cst,rfl⟩:=RI.shape h1
 obtain ⟨awa,cwa,rfl⟩:=RI.shape h2
 obtain ⟨ah,ch,rfl⟩:=hr.shape
 have hrl:=(hr.len).2.2
 refine Cl.o Tryz.func129 Tryz.ntmps129 ag2 ?_
 refine .ai ?_
 refine .bx hs fun b2 w hs=>?_
 refine .bx hs fun b3 w hs=>?_
 refine .z zg (.nil (.ai (.z (zfa jL) (.y hs (zld uj) (.z (cZ aC) (.z (zfa bH) (.y hs (zld an) (.z (cZ ae) (.z jU ?_)))))))))
 refine .z zm ?_
 refine .jM (t':=12) rfl (fun hb12=>?_) (fun hb12=>?_)
 ·refine .gT rfl rfl ?_
  refine .z (zfa jL) ?_
  refine .gT rfl rfl ?_
  refine .y hs (zld uj) ?_
  refine .gT rfl rfl ?_
  refine .q hs (cJ (f:=[]) (c:=[_]) rfl rfl) ?_
  refine .gT rfl rfl ?_
  obtain ⟨H0,hle0,hb2,hs⟩:=hs.cg (b:=b2) e7
  refine .o (.call Tryz.call183 rfl (kW (g:=184) (cap:=[.pointer (some ⟨b2,0,none⟩)]) (fun r=>¬(r.length=s.wa.length∧∀x∈r,0≤x∧x≤20000)) hs (hr.mono hle0) hrl Tryz.call184 (fun H' w σ r u hle hu hs=>wI (s:=s) hs (hb2.mono hle) (h2.mono (hle0.trans hle)) hu)) ?_);rintro _ w ⟨H1,b16,hle1,rfl,hb16,hs⟩
  refine .gT rfl rfl ?_
  refine .z gy (.z zpT (.z zg (.nil ?_)))
  refine .ret (Fin.bw Tryz.results129 rfl ?_)
  exact ⟨H1,_,hle0.trans hle1,rfl,by
   rw [E0]
   have hlen:rows.length=s.st.length:=by omega
   cases hbb:b16 with
   |true=>
    obtain ⟨x,hx,hn⟩:=hb16.1 hbb
    exact ⟨fun h=>(by cases h),fun h=>(hn (h.2 x hx)).elim⟩
   |false=>exact ⟨fun _=>⟨hlen,fun r hr=>Classical.byContradiction fun hn=>by rw [hb16.2 ⟨r,hr,hn⟩] at hbb;cases hbb⟩,fun _=>rfl⟩,hs.out⟩
 ·refine .gFs 5 7 true rfl rfl rfl ?_
  refine .z zpF (.z zg (.nil ?_))
  refine .ret (Fin.bw Tryz.results129 rfl ?_)
  exact ⟨H,_,HLe.refl H,rfl,⟨fun h=>(by cases h),fun h=>by have:=h.len;omega⟩,hs.out⟩
set_option maxHeartbeats 1000000 in
theorem pU{s:Spc}{q:Wht}{vst vwa vh:Value}{rows:List (List Int)}(hs:St H w σ)(h1:RI H vst s.st)(h2:RI H vwa s.wa)(hr:RT H vh rows):
  Cl Tryz.prog 64 [.agg #[I s.id,I s.src,vst,vwa,I s.al,I s.up],.agg #[vh],.agg #[I q.kind,I q.st,I q.wa]] w fun u w'=>∃H1 n e,HLe H H1∧u= .tuple #[I n,I e]∧sz s rows q n e∧St H1 w' σ:=by
 obtain ⟨ah,ch,rfl⟩:=hr.shape
 refine Cl.o Tryz.func64 Tryz.ntmps64 ag3 ?_
 refine .ai ?_
 refine .bx hs fun b3 w hs=>?_
 refine .bx hs fun b4 w hs=>?_
 refine .bx hs fun b5 w hs=>?_
 refine .z zg (.z zg (.nil (.seq (.ai (.y hs (zls [_,_,_,_,_,_] aT aF) ?_)))))
 refine .o (.call Tryz.call111 rfl (iC (s:=s) hs h1 h2) ?_);rintro _ w ⟨H1,e,hle1,rfl,he,hs⟩
 refine .z zg (.nil (.ai (.z zm (.z gE (.nil ?_)))))
 refine (.ep rfl (fun hc17=>?_) (fun hc17=>?_))
 ·refine .ai (.z zm (.z zg (.z zg (.nil ?_))))
  refine .ret (rT (?_))
  have hq:¬dP s∧e=30:=he.resolve_left fun h=>hc17 h.2
  exact Fin.ia [] [] hs fun w hs=>⟨_,results2 Tryz.results64 rfl rfl,H1,_,_,hle1,rfl,by rw [hq.2];exact .space hq.1,hs.out⟩
 ·refine .skip ?_
  refine nT ?_
  refine .seq (.ai (.y hs (zls [_,_,_,_,_,_] aT aF) (.y hs (zls [_] Tryz.isAgg64 yR) ?_)))
  have hok:dP s:=(he.resolve_right fun h=>by omega).1
  have hsm:=eL hok
  refine .o (.call Tryz.call129 rfl (j5 (s:=s) hs (h1.mono hle1) (h2.mono hle1) (hr.mono hle1)) ?_);rintro _ w ⟨H2,b21,hle2,rfl,hb21,hs⟩
  have hle02:=hle1.trans hle2
  refine .z gy (.nil ?_)
  refine (.cond rfl (fun hc22=>?_) (fun hc22=>?_))
  ·refine .ai (.z zg (.z zg (.nil ?_)))
   refine .ret (rT (?_))
   exact Fin.ia [] [] hs fun w hs=>⟨_,results2 Tryz.results64 rfl rfl,H2,_,_,hle02,rfl,.hull hok (fun h=>by rw [hb21.2 h] at hc22;cases hc22),hs.out⟩
  ·refine .skip ?_
   refine nT ?_
   refine .ai (.y hs (zls [_,_,_,_,_,_] aT aF) (.y hs (zls [_,_,_] yU iR) ?_))
   have hh:jJ s rows:=hb21.1 (by simpa using hc22)
   refine .o (.call Tryz.call130 rfl (jF (s:=s) (q:=q) hs (h1.mono hle02) (h2.mono hle02) hok) ?_);rintro _ w ⟨H3,vl,L,d,b,en,hle3,rfl,hO,hcase,hs⟩
   have hle03:=hle02.trans hle3
   obtain ⟨al,cl,rfl⟩:=hO.z8
   refine .z zm (.z zex (.z zex (.z zex ?_)))
   refine .o (.alloc hs ef rfl fun b9 w hs=>?_)
   refine .o (.store hs rfl rfl aA fun w hs=>?_)
   refine .z zg (.z zg (.nil (.seq (.ai (.z zm (.z gy (.nil ?_)))))))
   refine (.cond rfl (fun hc31=>?_) (fun hc31=>?_))
   ·refine .ai (.z zg (.z zg (.nil ?_)))
    refine .ret (rT (?_))
    have hq:¬eI s q:=by
     rcases hcase with ⟨g,_⟩|⟨_,g,_⟩
     ·subst g;cases hc31
     ·exact g
    exact Fin.ia [] [] hs fun w hs=>⟨_,results2 Tryz.results64 rfl rfl,H3,_,_,hle03,rfl,.what hok hh hq,hs.out⟩
   ·refine .skip ?_
    refine nT ?_
    refine .ai ?_
    refine .o (.alloc hs bN rfl fun b12 w hs=>?_)
    refine .o (.store hs rfl rfl aj fun w hs=>?_)
    refine .nil (.seq (.ai (.y hs (zls [_,_,_,_,_,_] aT aF) ?_)))
    obtain ⟨rfl,hq,rfl,rfl⟩:b=true∧eI s q∧L=lk s q∧d=qB q:=hcase.resolve_right fun h=>by rw [h.1] at hc31;cases hc31
    have hwl:=hZ s q
    obtain ⟨H4,hle4,hW,hs⟩:=bU.dM hO ak hs e7
    have hle04:=hle03.trans hle4
    refine .o (.call BD rfl (eJ (s:=s) hs (h1.mono hle04) (h2.mono hle04) ⟨ak,ak⟩) ?_);rintro _ w ⟨H5,ba,hle5,rfl,hit,hs⟩
    have hle05:=hle04.trans hle5
    replace hW:=hW.mono hle5
    have hr5:=hr.mono hle05
    refine .nil (.block ?_)
    refine .rangeFunc (gf:=188) (cap:=[.pointer (some ⟨ba,0,none⟩)]) (xs:=vI s) (σb:=[.blk b12 [I (gJ s q rows 0)],.blk b9 [.slice al (lk s q).length cl],.blk b4 [.slice ah rows.length ch]]) (σf:=σ) (hs.sb) trivial rfl hit BC (fun x hx=>by
      simp only [vI,List.mem_map] at hx
      obtain ⟨j,_,rfl⟩:=hx;rfl) rfl
     (I:=fun p H' σb=>σb=[.blk b12 [I (gJ s q rows p)],.blk b9 [.slice al (lk s q).length cl],.blk b4 [.slice ah rows.length ch]]) (Ix:=fun _ _ _=>False)
     (fun j _ _ σ g1 g2=>g2) (fun _ _ _ _ _ h=>h) rfl ?_ ?_ (fun D c H' σb w _ h _=>h.elim)
    ·rintro ly p hp H6 σb2 σf2 w hle6 rfl hs ⟨rr,hrr⟩
     have hpm:p<s.many:=by rw [dD] at hp;exact hp
     have hin:p/s.wa.length<s.st.length:=Nat.div_lt_of_lt_mul (by rw [Nat.mul_comm];exact hpm)
     have hkm:=Nat.mod_lt p hsm.2.2.1
     have hsucc:gJ s q rows (p+1)=gJ s q rows p+gi (lk s q) (p+1)*gt rows (p/s.wa.length) (p%s.wa.length):=rfl
     have hb0:=lh hok hq hh p ak
     have hb1:=lh hok hq hh (p+1) ak
     have hwz:=nq hok hq
     have hwz2:=nr (lk s q) (v:=p+1) (n:=s.many+1) ak
     have hnum:=hh.num _ hin _ hkm
     have hrow:=hh.row _ hin
     have hrlen:=hh.len
     have hprd:=kv (a:=gi (lk s q) (p+1)) (b:=gt rows (p/s.wa.length) (p%s.wa.length)) (A:=3456000000000) (B:=20000) ak ak
     have hgt:gt rows (p/s.wa.length) (p%s.wa.length)=gi (gr rows (p/s.wa.length)) (p%s.wa.length):=rfl
     rw [lO hp]
     generalize p/s.wa.length=i at*
     generalize p%s.wa.length=k at*
     rw [hgt] at hsucc hprd hnum
     refine .region ?_
     refine .o (.alloc hs jQ rfl fun b13 w hs=>?_)
     refine .o (.aI (vs:=[_,_,_]) hs rfl rfl nX fun w hs=>?_)
     refine .nil ?_
     refine nT ?_
     refine ⟨H6,[.blk b13 [I (i:Int),I (k:Int),I ((p+1:Nat):Int)],.blk b12 [I (gJ s q rows p)],.blk b9 [.slice al (lk s q).length cl],.blk b4 [.slice ah rows.length ch]],HLe.refl _,hs,?_⟩;rintro w σf4 - hs
     refine .block ?_
     refine .draw mix rfl hs fun w hs=>?_
     refine .y 0 rfl hs af ?_;refine .y 1 rfl hs an ?_;refine .z 2 rfl (zfa dL) ?_;refine .y 3 rfl hs af ?_
     refine .ixX (enc:=fun x=>[I x]) (i:=4) hs rfl aq .none (hW.mono hle6) rfl rfl ae aj (bF (l:=(lk s q)) (i:=(p+1)) ak) dn ?_;intro b39 o39 hc39;replace hc39:=bO.one hc39
     refine .r (i:=5) hs rfl aq .none (aR rfl af hc39) ?_
     refine .z 6 rfl (zfa jL) ?_;refine .y 7 rfl hs uj ?_;refine .z 8 rfl (zfa cM) ?_;refine .y 9 rfl hs af ?_
     refine .ixT (i:=10) hs rfl aq .none (hr5.mono hle6) rfl rfl aC aA (show i<_ by omega) dn ?_;intro b45 o45 a45 c45 hc45 hR45
     refine .r (i:=11) hs rfl aq .none (aR rfl an hc45) ?_
     refine .z 12 rfl (zfa ck) ?_;refine .y 13 rfl hs af ?_
     refine .ixX (enc:=fun x=>[I x]) (i:=14) hs rfl aq .none hR45 rfl rfl ae aj (bF (l:=(gr rows i)) (i:=k) ak) dn ?_;intro b49 o49 hc49;replace hc49:=bO.one hc49
     refine .r (i:=15) hs rfl aq .none (aR rfl af hc49) ?_
     refine .z 16 rfl kS ?_;refine .z 17 rfl cf ?_
     refine .E 18 hs ?_
     refine .store hs rfl rfl aj ?_;intro w hs
     refine .go ?_
     refine .D hs ?_
     refine nB ?_
     exact ⟨H6,[.blk b12 [I (gJ s q rows (p+1))],.blk b9 [.slice al (lk s q).length cl],.blk b4 [.slice ah rows.length ch]],HLe.refl _,by rw [hsucc];exact (hs.sb:St H6 w (.blk b12 _:: .blk b9 _:: .blk b4 _::σf4)),rfl⟩
    ·rintro D H6 σb2 w hle6 rfl hs
     rw [dD] at hs
     replace hs:St H6 w (.obj D (.deferred (some [])):: .blk b12 [I (gJ s q rows s.many)]:: .blk b9 [.slice al (lk s q).length cl]:: .blk b4 [.slice ah rows.length ch]::σ):=hs
     have hbd:=lh hok hq hh s.many ak
     have hdp:=wU q
     refine nB (nT ?_)
     refine .ai (.y hs (zld af) (.z zm ?_))
     refine .o (.call Tryz.call132 rfl (iV hs ak ak) ?_);rintro _ w ⟨rfl,hs⟩
     refine .z zg (.z zg (.nil ?_))
     refine .ret ?_
     exact Fin.ia [D] [] hs fun w hs=>⟨_,results2 Tryz.results64 rfl rfl,H6,_,_,hle05.trans hle6,rfl,.ok hok hh hq,hs.out⟩
end Go.Proofs.YteajddicacjkhaaGreat
namespace Go.Proofs.YteajddicacjkhaaGreat
open Go.MW
def JD(v:Srv)(s:bI)(e:Int):Prop:=rR v e∧(e=0→s=v.sys)∧(e≠0→s=⟨0,[]⟩)
theorem JD.uniq{v:Srv}{s t:bI}{e f:Int}(h:JD v s e)(g:JD v t f):s=t∧e=f:=by
 obtain rfl:=h.1.uniq g.1
 by_cases h0:e=0
 ·exact ⟨(h.2.1 h0).trans (g.2.1 h0).symm,rfl⟩
 ·exact ⟨(h.2.2 h0).trans (g.2.2 h0).symm,rfl⟩
structure WI(s:Spc)(L:List Int)(f:Nat→Nat→Int):Prop where
 len:L.length=s.many+1
 zero:gi L 0=0
 at_:∀i k,i<s.st.length→k<s.wa.length→gi L (s.u i k)=f i k
theorem WI.start(s:Spc):WI s (List.replicate (s.many+1) 0) fun _ _=>0:=
 ⟨bV,cU _ _ ak,fun i k hi hk=>by have:=s5 hi hk;exact cU _ _ ak⟩
theorem WI.set{s:Spc}{L:List Int}{f:Nat→Nat→Int}(h:WI s L f){i k:Nat}(hi:i<s.st.length)(hk:k<s.wa.length)(x:Int):WI s (L.set (s.u i k) x) fun i' k'=>if i'=i∧k'=k then x else f i' k':=by
 have hb:=s5 hi hk
 refine ⟨by rw [List.length_set];exact h.len,by rw [CR ak];exact h.zero,fun i' k' hi' hk'=>?_⟩
 have hb':=s5 hi' hk'
 rw [eZ (by rw [h.len];omega)]
 by_cases e:i'=i∧k'=k
 ·obtain ⟨rfl,rfl⟩:=e
  rw [if_pos rfl,if_pos ⟨rfl,rfl⟩]
 ·rw [if_neg e,if_neg,h.at_ i' k' hi' hk']
  intro e2
  obtain ⟨d1,d2⟩:=Gb (nw:=s.wa.length) (i:=i) hk
  obtain ⟨d3,d4⟩:=Gb (nw:=s.wa.length) (i:=i') hk'
  have e3:i'*s.wa.length+k'=i*s.wa.length+k:=by unfold Spc.u at e2;omega
  rw [e3] at d3 d4
  exact e ⟨d3.symm.trans d1,d4.symm.trans d2⟩
theorem WI.congr{s:Spc}{L:List Int}{f g:Nat→Nat→Int}(h:WI s L f)(e:∀i k,i<s.st.length→k<s.wa.length→f i k=g i k):WI s L g:=
 ⟨h.len,h.zero,fun i k hi hk=>(h.at_ i k hi hk).trans (e i k hi hk)⟩
inductive Hm(s:Spc)(q:Wht):List Int→Int→Int→Prop
 |space (h:¬dP s):Hm s q [] 0 30
 |what (h:dP s) (h1:¬eI s q):Hm s q [] 0 33
 |ok (h:dP s) (h1:eI s q):Hm s q (lk s q) (qB q) 0
theorem Hm.uniq{s:Spc}{q:Wht}{a b:List Int}{d f e g:Int}(h:Hm s q a d e)(k:Hm s q b f g):a=b∧d=f∧e=g:=by
 cases h<;>cases k<;>first|exact ⟨rfl,rfl,rfl⟩|contradiction
inductive zW(v:Srv)(q:Wht):Int→Prop
 |bad {e:Int} (h:rR v e) (he:e≠0):zW v q e
 |what (h:cI v) (h1:¬eI v.sp q):zW v q 33
 |ok (h:cI v) (h1:eI v.sp q):zW v q 0
theorem zW.zero{v:Srv}{q:Wht}(h:zW v q 0):cI v∧eI v.sp q:=by
 generalize hz:(0:Int)=z at h
 cases h with
 |bad h he=>exact (he hz.symm).elim
 |what=>omega
 |ok h h1=>exact ⟨h,h1⟩
theorem zW.qty{v:Srv}{q:Wht}{e:Int}(h:zW v q e)(he:e≠0):xa v q 0 0 e:=by
 cases h with
 |bad h he=>exact .bad h he
 |what h h1=>exact .what h h1
 |ok=>exact (he rfl).elim
def Iv(w:List Int)(high:Bool):List Int:=if high then w else xh w
end Go.Proofs.YteajddicacjkhaaGreat
namespace Go.Proofs.YteajddicacjkhaaGreat
open Go.MW
variable{H:bB}{w:World}{σ:List Ent}
theorem cP{n m:Int}(hs:St H w σ)(hm:1≤m∧m≤4611686018427387904):
  Cl Tryz.prog 90 [I n,I m] w fun u w'=>∃k:Nat,(k:Int)<m∧u=I (k:Int)∧St H w' σ:=by
 have h1:=Int.tmod_lt_of_pos n (show 0<m by omega)
 have h2:=Int.lt_tmod_of_pos n (show 0<m by omega)
 have h3:=Int.tmod_lt_of_pos (n.tmod m+m) (show 0<m by omega)
 have h4:=Int.tmod_nonneg m (show 0≤n.tmod m+m by omega)
 refine Cl.o Tryz.func90 Tryz.ntmps90 ag2 ?_
 refine .ai (.z zg (.nil (.ai (.z zm (.z zm (.z AU (.z zm (.z cf (.z zm ?_)))))))))
 refine .z AU (.z zg (.nil ?_))
 refine .ret (Fin.bw Tryz.results90 rfl ?_)
 exact ⟨((n.tmod m+m).tmod m).toNat,ak,by rw [show (((n.tmod m+m).tmod m).toNat:Int)=(n.tmod m+m).tmod m by omega],hs⟩
theorem cD{v:Value}{l:List Int}{i n:Int}(hs:St H w σ)(hr:RI H v l)(hi:0≤i)(hn:1≤n∧n≤4611686018427387904):
  Cl Tryz.prog 146 [v,I i,I n] w fun u w'=>∃k:Nat,(k:Int)<n∧u=I (k:Int)∧St H w' σ:=by
 obtain ⟨a,c,rfl⟩:=RI.shape hr
 refine Cl.o Tryz.func146 Tryz.ntmps146 ag3 ?_
 refine .ai (.z zg (.nil (.seq (.ai (.z zm (.z (cZ ae) (.z jU (.nil ?_))))))))
 refine (.bT rfl (fun hc9=>?_) (fun hc9=>?_))
 ·refine .ai (.z zg (.nil ?_))
  refine .ret (rT (Fin.bw Tryz.results146 rfl ?_))
  exact ⟨0,ak,rfl,hs⟩
 ·refine .skip ?_
  refine nT ?_
  refine .ai (.z zm (.z zm (.z zm (.z (cZ ae) (.z AU ?_)))))
  have g1:=Int.tmod_lt_of_pos i (show 0<(l.length:Int) by omega)
  have g2:=Int.tmod_nonneg (l.length:Int) hi
  refine .ixY hs hr rfl rfl ae aj (bF (l:=l) (i:=(i.tmod l.length).toNat) ak) ak ?_;intro b15 o15 hc15
  refine .q hs (aR rfl af hc15) ?_
  refine .z zm ?_
  refine .o (.call fT rfl (cP hs hn) ?_);rintro _ w ⟨k,hk,rfl,hs⟩
  refine .z zg (.nil ?_)
  refine .ret (Fin.bw Tryz.results146 rfl ?_)
  exact ⟨k,hk,rfl,hs⟩
theorem tt{v vp:Value}{s:bI}{fN:List Int}(hs:St H w σ)(hr:RSy H v s)(hp:RI H vp fN)(hgood:s.Ok∧s.Sound):
  Cl Tryz.prog 149 [v,vp] w fun u w'=>∃H1 vx x en,HLe H H1∧u= .tuple #[vx,I 0]∧bU 1 vx (Is x) en∧oA s fN x∧St H1 w' (en::σ):=by
 obtain ⟨ul,rfl,hl⟩:=hr
 obtain ⟨al,cl,rfl⟩:=RL.shape hl
 obtain ⟨ap,cp,rfl⟩:=RI.shape hp
 refine Cl.o Tryz.func149 Tryz.ntmps149 ag2 ?_
 refine .ai ?_
 refine .bx hs fun b2 w hs=>?_
 refine .z zg (.z zg (.nil (.ai (.y hs (zls [_,_] bg aE) ?_))))
 refine .o (.call Tryz.call147 rfl (lT (s:=s) hs ⟨_,rfl,hl⟩) ?_);rintro _ w ⟨H1,vt,e,hle1,rfl,hcase,hs⟩
 refine .z zm (.z zex (.z zex (.z zg (.z zg (.nil (.seq (.ai (.z zm (.z gE ?_)))))))))
 refine .nil ?_
 refine (.ep rfl (fun hc20=>?_) (fun hc20=>?_))
 ·refine .ai (.z zm (.z zg (.z zg (.nil ?_))))
  refine .ret (rT (Fin.kn Tryz.results149 rfl rfl ?_))
  rcases hcase with ⟨h1,rfl,rfl⟩|⟨h1,h2,rfl,rfl⟩|⟨_,_,rfl,_⟩
  ·exact (h1 (s.aP.2 hgood.1)).elim
  ·exact (h2 hgood.2).elim
  ·exact (hc20 rfl).elim
 ·refine .skip ?_
  refine nT ?_
  refine .ai ?_
  subst hc20
  obtain ⟨hok,hsd,rs,hRT,hSq,hWT⟩:s.Ok∧s.Sound∧∃rs,RT H1 vt rs∧Sq s.n rs∧fm s.n s.bY (gt rs):=by
   rcases hcase with ⟨h1,h2,_⟩|⟨_,_,h2,_⟩|⟨h1,h2,_,h3⟩
   ·exact (h1 h2.symm).elim
   ·omega
   ·exact ⟨h1,h2,h3⟩
  obtain ⟨at',ct,rfl⟩:=hRT.shape
  have hTS:=hok.IX hsd hWT
  have hrl:=hSq.1
  have hm0:=hok.m0
  have hm1:=hok.m1
  have hnn:(s.n:Int)=s.many+1:=by simp only [bI.n];omega
  refine .o (.buildSlice (cells:=[_]) hs cA rfl rfl fun b22 w hs=>?_)
  refine .z zg (.nil (.seq (.ai (.z zg (.nil (.block ?_))))))
  refine .loop (fun p:List Int×Value=>⟨109,[],[(9,I (p.1.length:Int)),(8,p.2),(6,.slice at' rs.length ct),(2,.pointer (some ⟨b2,0,none⟩)),(1,.slice ap fN.length cp)]⟩)
   (fun p w=>zT (gt rs) (pP fN) p.1∧p.1.length≤s.n∧∃en,bU 1 p.2 (Is p.1) en∧St H1 w (en:: .blk b2 [I s.many,.slice al s.bL.length cl]::σ))
   (fun p=>s.n - p.1.length) ([0],.slice (some ⟨b22,0,none⟩) 1 1) bD
   ⟨.start,s.Cy,_,.full (len:=1) rfl,hs⟩ ?_
  rintro ⟨X,v8⟩ w ⟨hP,hXn,en,hO,hs⟩
  dsimp only at hP hXn hO ⊢
  have hI:=hP.inv (fun i n hn=>wx fN i hn) hTS hXn
  have hX0:=hI.l0
  have hO1:=hO
  obtain ⟨b,cap,sp,rfl,rfl,hcap⟩:=hO.some hX0
  refine .seq (.ai (.z zm (.z (zfa bM) (.y hs (zld af) (.z um (.nil ?_))))))
  refine (.bT rfl (fun hc26=>?_) (fun hc26=>?_))
  ·refine .skip ?_
   refine nT ?_
   refine .seq (.block (.ai (.z zg (.nil ?_))))
   have hXl:X.length<s.n:=by omega
   refine .ai (.z zg (.nil (.seq (.ai (.z zm (.z (cZ ae) (.z zm (.nil ?_))))))))
   refine .for (N:=X.length) (J:=fun k fr w=>∃lo hi,fr=[(10,I lo),(11,I hi),(9,I (X.length:Int)),(8,.slice (some ⟨b,0,none⟩) X.length cap),(6,.slice at' rs.length ct),(2,.pointer (some ⟨b2,0,none⟩)),(1,.slice ap fN.length cp)]∧LoI (gt rs) X X.length k lo∧HiI (gt rs) X X.length k hi∧St H1 w (.blk b (Is X++sp):: .blk b2 [I s.many,.slice al s.bL.length cl]::σ)) ak ?_ ?_ ?_
   ·exact .mk ⟨_,_,rfl,.start _ _ _,.start _ _ _,hs⟩
   ·rintro k fr w hk ⟨lo,hi,rfl,hLo,hHi,hs⟩
    have hXk:=hI.bd k hk
    have hr1:(gr rs X.length).length=s.n:=hSq.2 _ hXl
    have hr2:(gr rs k).length=s.n:=hSq.2 _ ak
    have hb1:gi (gr rs X.length) k≠1000000000→-1400000≤gi (gr rs X.length) k∧gi (gr rs X.length) k≤1400000:=fun h=>hTS.bd X.length k hXl ak h
    have hb2:gi (gr rs k) X.length≠1000000000→-1400000≤gi (gr rs k) X.length∧gi (gr rs k) X.length≤1400000:=fun h=>hTS.bd k X.length ak hXl h
    refine .block (.ai (.z zm (.z zg (.nil ?_))))
    refine .cut (fun fs w=>∃lo',kQ fs ⟨109,[],[(10,I lo'),(12,I (k:Int)),(31,I (k:Int)),(30,I (X.length:Int)),(11,I hi),(9,I (X.length:Int)),(8,.slice (some ⟨b,0,none⟩) X.length cap),(6,.slice at' rs.length ct),(2,.pointer (some ⟨b2,0,none⟩)),(1,.slice ap fN.length cp)]⟩∧LoI (gt rs) X X.length (k+1) lo'∧St H1 w (.blk b (Is X++sp):: .blk b2 [I s.many,.slice al s.bL.length cl]::σ)) ?_ ?_
    ·refine .ai (.z zm (.z zm ?_))
     refine .ixT hs hRT rfl rfl aC aA (show X.length<rs.length by omega) rfl ?_;intro b36 o36 a36 c36 hc36 hR36
     refine .q hs (aR rfl an hc36) ?_
     refine .z zm ?_
     refine .ixY hs hR36 rfl rfl ae aj (bF (l:=gr rs X.length) (i:=k) ak) rfl ?_;intro b39 o39 hc39
     refine .q hs (aR rfl af hc39) ?_
     refine .z gE (.nil ?_)
     refine (.ep rfl (fun hc41=>?_) (fun hc41=>?_))
     ·refine .draw mix rfl hs fun w hs=>?_
      refine .z 0 rfl zm ?_;refine .z 1 rfl zm ?_;refine .z 2 rfl zm ?_;refine .z 3 rfl (zix ae aj) ?_
      refine .load (i:=4) hs rfl aq .none rfl af ?_ (hv:=eR hk sp)
      refine .z 5 rfl zm ?_;refine .z 6 rfl zm ?_
      refine .ixT (i:=7) hs rfl aq .none hRT rfl rfl aC aA (show X.length<rs.length by omega) rfl ?_;intro b49 o49 a49 c49 hc49 hR49
      refine .r (i:=8) hs rfl aq .none (aR rfl an hc49) ?_
      refine .z 9 rfl zm ?_
      refine .ixX (enc:=fun x=>[I x]) (i:=10) hs rfl aq .none hR49 rfl rfl ae aj (bF (l:=gr rs X.length) (i:=k) ak) rfl ?_;intro b52 o52 hc52;replace hc52:=bO.one hc52
      refine .r (i:=11) hs rfl aq .none (aR rfl af hc52) ?_
      refine .z 12 rfl gZ ?_;refine .z 13 rfl DP ?_;refine .z 14 rfl zg ?_;refine .D hs ?_
      refine nT ?_
      exact ⟨_,bD,hLo.put hc41 (by have:=hb1 hc41;have:=hXk;have:=hTS.n65;show -1000000000≤gi X k - gi (gr rs X.length) k;omega),hs⟩
     ·refine .skip ?_
      refine nT ?_
      exact ⟨_,bD,hLo.skip hc41,hs⟩
    ·rintro fs w ⟨lo',hfs,hLo',hs⟩
     refine WE.sub ?_ hfs
     refine .ai (.z zm (.z zm ?_))
     refine .ixT hs hRT rfl rfl aC aA (show k<rs.length by omega) rfl ?_;intro b58 o58 a58 c58 hc58 hR58
     refine .q hs (aR rfl an hc58) ?_
     refine .z zm ?_
     refine .ixY hs hR58 rfl rfl ae aj (bF (l:=gr rs k) (i:=X.length) ak) rfl ?_;intro b61 o61 hc61
     refine .q hs (aR rfl af hc61) ?_
     refine .z gE (.nil ?_)
     refine (.ep rfl (fun hc63=>?_) (fun hc63=>?_))
     ·refine .draw mix rfl hs fun w hs=>?_
      refine .z 0 rfl zm ?_;refine .z 1 rfl zm ?_;refine .z 2 rfl zm ?_;refine .z 3 rfl (zix ae aj) ?_
      refine .load (i:=4) hs rfl aq .none rfl af ?_ (hv:=eR hk sp)
      refine .z 5 rfl zm ?_;refine .z 6 rfl zm ?_
      refine .ixT (i:=7) hs rfl aq .none hRT rfl rfl aC aA (show k<rs.length by omega) rfl ?_;intro b71 o71 a71 c71 hc71 hR71
      refine .r (i:=8) hs rfl aq .none (aR rfl an hc71) ?_
      refine .z 9 rfl zm ?_
      refine .ixX (enc:=fun x=>[I x]) (i:=10) hs rfl aq .none hR71 rfl rfl ae aj (bF (l:=gr rs k) (i:=X.length) ak) rfl ?_;intro b74 o74 hc74;replace hc74:=bO.one hc74
      refine .r (i:=11) hs rfl aq .none (aR rfl af hc74) ?_
      refine .z 12 rfl cf ?_;refine .z 13 rfl BE ?_;refine .z 14 rfl zg ?_;refine .D hs ?_
      refine nB (nT ?_)
      exact .mk ⟨lo',_,rfl,hLo',hHi.put hc63 (by have:=hb2 hc63;have:=hXk;have:=hTS.n65;show gi X k+gi (gr rs k) X.length≤1000000000;omega),hs⟩
     ·refine .skip ?_
      refine nB (nT ?_)
      exact .mk ⟨lo',_,rfl,hLo',hHi.skip hc63,hs⟩
   ·rintro fr w ⟨lo,hi,rfl,hLo,hHi,hs⟩
    have hlb:=hLo.bd hI hTS hXl (Nat.le_refl _)
    have hhb:=hHi.bd hI hTS hXl (Nat.le_refl _)
    have hle:=hI.le hTS hXl rfl hLo hHi
    simp only [free] at hlb hhb hle
    have hpk:=wx fN ((X.length:Int) - 1) (n:=hi - lo+1)
    refine nT ?_
    refine .ai (.z zg (.nil ?_))
    refine .cut (fun fs w=>kQ fs ⟨109,[],[(13,I (jz lo hi (pP fN ((X.length:Int) - 1) (hi - lo+1)))),(9,I (X.length:Int)),(8,.slice (some ⟨b,0,none⟩) X.length cap),(6,.slice at' rs.length ct),(2,.pointer (some ⟨b2,0,none⟩)),(1,.slice ap fN.length cp)]⟩∧St H1 w (.blk b (Is X++sp):: .blk b2 [I s.many,.slice al s.bL.length cl]::σ)) ?_ ?_
    ·refine .block (.ai (.z zm (.z gE (.z zm ?_))))
     refine .DQ (t':=82) rfl (fun hb82=>?_) (fun hb82=>?_)
     ·refine .gT rfl rfl ?_
      refine .z zm ?_
      refine .gT rfl rfl ?_
      refine .z gE (.z zpT (.z zg (.nil ?_)))
      refine (.ep rfl (fun hc79=>?_) (fun hc79=>?_))
      ·refine .region (.z zm (.z zm (.z zm (.z gZ (.z zm (.z zm (.z gZ (.z cf ?_))))))))
       refine .o (.call Tryz.call209 rfl (tu hs (hp.mono hle1) ak ak) ?_);rintro _ w ⟨rfl,hs⟩
       have hq1:hi≠1000000000:=by simpa using hc79
       have hq2:=hle (by simpa using hb82) hq1
       have hq3:=hpk ak
       refine .z cf (.z zg (.nil ?_))
       refine nB (nT ?_)
       refine ⟨.dA rfl ?_ bD,hs⟩
       unfold jz
       simp only [free] at*
       split<;>(try split)<;>first|rfl|omega|(simp_all;done)|(exfalso;simp_all;omega)
      ·refine .ai (.z zm (.z gE (.z zg (.nil ?_))))
       refine (.ep rfl (fun hc96=>?_) (fun hc96=>?_))
       ·refine .region (.z zm (.z zg (.nil ?_)))
        refine nB (nT ?_)
        refine ⟨.dA rfl ?_ bD,hs⟩
        unfold jz
        simp only [free] at*
        split<;>(try split)<;>first|rfl|omega|(simp_all;done)|(exfalso;simp_all;omega)
       ·refine .ai (.z zm (.z gE (.z zg (.nil ?_))))
        refine (.ep rfl (fun hc100=>?_) (fun hc100=>?_))
        ·refine .region (.z zm (.z zg (.nil ?_)))
         refine nB (nT ?_)
         refine ⟨.dA rfl ?_ bD,hs⟩
         unfold jz
         simp only [free] at*
         split<;>(try split)<;>first|rfl|omega|(simp_all;done)|(exfalso;simp_all;omega)
        ·refine .skip ?_
         refine nB (nT ?_)
         refine ⟨.dA rfl ?_ bD,hs⟩
         unfold jz
         simp only [free] at*
         split<;>(try split)<;>first|rfl|omega|(simp_all;done)|(exfalso;simp_all;omega)
     ·refine .gFs 2 2 true rfl rfl rfl ?_
      refine .z zpF (.z zg (.nil ?_))
      refine (.cF ?_)
      refine .ai (.z zm (.z gE (.z zg (.nil ?_))))
      refine (.ep rfl (fun hc96=>?_) (fun hc96=>?_))
      ·refine .region (.z zm (.z zg (.nil ?_)))
       refine nB (nT ?_)
       refine ⟨.dA rfl ?_ bD,hs⟩
       unfold jz
       simp only [free] at*
       split<;>(try split)<;>first|rfl|omega|(simp_all;done)|(exfalso;simp_all;omega)
      ·refine .ai (.z zm (.z gE (.z zg (.nil ?_))))
       refine (.ep rfl (fun hc100=>?_) (fun hc100=>?_))
       ·refine .region (.z zm (.z zg (.nil ?_)))
        refine nB (nT ?_)
        refine ⟨.dA rfl ?_ bD,hs⟩
        unfold jz
        simp only [free] at*
        split<;>(try split)<;>first|rfl|omega|(simp_all;done)|(exfalso;simp_all;omega)
       ·refine .skip ?_
        refine nB (nT ?_)
        refine ⟨.dA rfl ?_ bD,hs⟩
        unfold jz
        simp only [free] at*
        split<;>(try split)<;>first|rfl|omega|(simp_all;done)|(exfalso;simp_all;omega)
    ·rintro fs w ⟨hfs,hs⟩
     refine WE.sub ?_ hfs
     refine .region (.z zm (.z zm ?_))
     refine .o (.buildSlice (cells:=[_]) hs cA rfl rfl fun b106 w hs=>?_)
     refine .o (.append (ys:=Is [jz lo hi (pP fN ((X.length:Int) - 1) (hi - lo+1))]) hs cn rfl rfl hO1 (.own .here rfl rfl) (iX _) (fun l' h=>by simp at h;have:=hTS.n65;omega) ?_);intro v107 en107 w hO2 hs
     rw [←List.map_append] at hO2
     refine .z zg (.nil ?_)
     refine nB (nT ?_)
     refine .region (.z zm (.z cf (.z zg (.nil ?_))))
     refine nT ?_
     exact ⟨(X++[jz lo hi (pP fN ((X.length:Int) - 1) (hi - lo+1))],v107),.dA rfl bV bD,⟨hP.snoc hLo hHi,by simp;omega,_,hO2,hs.sb⟩,by simp;omega⟩
  ·refine .exit ?_
   refine xT (xT (xB (nT ?_)))
   refine .ai (.z zm (.z zg (.z zg (.nil ?_))))
   refine .ret (Fin.kn Tryz.results149 rfl rfl ?_)
   exact ⟨H1,_,X,_,hle1,rfl,hO1,⟨gt rs,hWT,hP,ak⟩,hs.sb⟩
theorem mI{s:Srv}{vst vwa vr vc:Value}(hs:St H w σ)(h1:RI H vst s.sp.st)(h2:RI H vwa s.sp.wa)(h3:RRd H vr s.rs)(h4:RCm H vc s.cs)(he:s.early):
  Cl Tryz.prog 148 [.agg #[I s.sp.id,I s.sp.src,vst,vwa,I s.sp.al,I s.sp.up,vr,vc]] w fun u w'=>∃H1,HLe H H1∧RSy H1 u s.nM∧St H1 w' σ:=by
 obtain ⟨ar,cr,rfl⟩:=RRd.shape h3
 have hfl:=Ay s
 have hrl:=he.2.1
 refine Cl.o Tryz.func148 Tryz.ntmps148 ag1 ?_
 refine .ai ?_
 refine .bx hs fun b1 w hs=>?_
 refine .o (.alloc hs dz rfl fun b2 w hs=>?_)
 refine .nil (.ai (.y hs (zls [_,_,_,_,_,_,_,_] aJ aB) ?_))
 refine .o (.call Tryz.call205 rfl (qT (s:=s) hs h1 h2 h3 h4 he) ?_);rintro _ w ⟨H1,hle1,⟨ul,rfl,hL⟩,hs⟩
 have hL:RL H1 ul s.bL:=hL
 obtain ⟨al,cl,rfl⟩:=RL.shape hL
 have hln:=RS.len hL
 rw [List.length_map] at hln
 refine .o (.alloc hs dz rfl fun b3 w hs=>?_)
 refine .o (.aI (vs:=[_,_]) hs rfl rfl aE fun w hs=>?_)
 refine .nil (.ai (.z (zfa bJ) (.y hs (zld cu) (.z (zfa bJ) (.y hs (zld cu) (.z (cZ aH) (.z (zfa br) (.y hs (zld cS) (.z (cZ aN) ?_)))))))))
 refine .z kS (.z gZ ?_)
 refine .q hs (pN (k:=s.mT.length) rfl rfl aH aQ ak ak) ?_
 have hT:=RS.head hL (k:=s.mT.length) ak
 rw [←List.map_take,yn] at hT
 refine .z (zfa bJ) ?_
 refine .o (.store hs rfl rfl nY fun w hs=>?_)
 refine .nil (.ai (.y hs (zls [_,_] bg aE) ?_))
 refine .o (.aI (vs:=[_,_]) hs rfl rfl aE fun w hs=>?_)
 refine .nil ?_
 refine .ret ?_
 exact Fin.ia [] [] hs fun w hs=>⟨_,results1 Tryz.results148 (di (vs:=[_,_]) hs rfl bg aE),H1,hle1,⟨_,rfl,hT⟩,hs.out⟩
theorem tq{s:Srv}{vst vwa vr vc:Value}(hs:St H w σ)(h1:RI H vst s.sp.st)(h2:RI H vwa s.sp.wa)(h3:RRd H vr s.rs)(h4:RCm H vc s.cs)(he:s.early)(hok:s.nM.Ok):
  Cl Tryz.prog 91 [.agg #[I s.sp.id,I s.sp.src,vst,vwa,I s.sp.al,I s.sp.up,vr,vc]] w fun u w'=>∃H1,∃b:Bool,HLe H H1∧u= .bool b∧(b=false→s.nM.Sound)∧St H1 w' σ:=by
 refine Cl.o Tryz.func91 Tryz.ntmps91 ag1 ?_
 refine .ai ?_
 refine .bx hs fun b1 w hs=>?_
 refine .z zg (.nil (.ai (.y hs (zls [_,_,_,_,_,_,_,_] aJ aB) ?_)))
 refine .o (.call Tryz.call148 rfl (mI (s:=s) hs h1 h2 h3 h4 he) ?_);rintro _ w ⟨H1,hle1,hS,hs⟩
 refine .o (.call Tryz.call147 rfl (lT (s:=s.nM) hs hS) ?_);rintro _ w ⟨H2,vt,e,hle2,rfl,hcase,hs⟩
 refine .z zm (.z zex (.z zex (.z zg (.z zg (.nil (.ai (.z zm (.z gE (.z zg ?_)))))))))
 refine .nil ?_
 refine .ret (Fin.bw Tryz.results91 rfl ?_)
 exact ⟨H2,_,hle1.trans hle2,rfl,fun h=>by
  rcases hcase with ⟨k1,_,_⟩|⟨_,_,k3,_⟩|⟨_,k2,_,_⟩
  ·exact (k1 (s.nM.aP.2 hok)).elim
  ·subst k3;simp at h
  ·exact k2,hs.out⟩
theorem tp{s:Srv}{vst vwa vr vc vp:Value}{fN:List Int}(hs:St H w σ)(h1:RI H vst s.sp.st)(h2:RI H vwa s.sp.wa)(h3:RRd H vr s.rs)(h4:RCm H vc s.cs)(hp:RI H vp fN)(he:s.early)(hok:s.nM.Ok∧s.nM.Sound):
  Cl Tryz.prog 92 [.agg #[I s.sp.id,I s.sp.src,vst,vwa,I s.sp.al,I s.sp.up,vr,vc],vp] w fun u w'=>∃H1 x en,HLe H H1∧bU 1 u (Is x) en∧oA s.nM fN x∧St H1 w' (en::σ):=by
 obtain ⟨ap,cp,rfl⟩:=RI.shape hp
 refine Cl.o Tryz.func92 Tryz.ntmps92 ag2 ?_
 refine .ai ?_
 refine .bx hs fun b2 w hs=>?_
 refine .z zg (.nil (.ai (.y hs (zls [_,_,_,_,_,_,_,_] aJ aB) ?_)))
 refine .o (.call Tryz.call148 rfl (mI (s:=s) hs h1 h2 h3 h4 he) ?_);rintro _ w ⟨H1,hle1,hS,hs⟩
 refine .z zm ?_
 refine .o (.call Tryz.call149 rfl (tt (s:=s.nM) hs hS (hp.mono hle1) hok) ?_);rintro _ w ⟨H2,vx,x,en,hle2,rfl,hO,hP,hs⟩
 refine .z zm (.z zex (.z zex (.z zg (.z zg (.nil (.ai (.z zm (.z zg (.nil ?_)))))))))
 refine .ret (Fin.bw Tryz.results92 rfl ?_)
 exact ⟨H2,x,en,hle1.trans hle2,hO,hP,hs.sb⟩
structure Grow(d D:Int)(L:List Int)(x:Int):Prop where
 low:d≤x
 high:x≤d+D*L.length
 all:∀i<L.length,d≤gi L i∧gi L i<x
 rise:∀i,i+1<L.length→gi L i<gi L (i+1)
theorem Grow.start(d D:Int):Grow d D [] d:=⟨ak,bV,fun i h=>by simp at h,fun i h=>by simp at h⟩
theorem Grow.snoc{d D x y:Int}{L:List Int}(h:Grow d D L x)(h1:x<y)(h2:y≤x+D):Grow d D (L++[x]) y:=by
 obtain ⟨g1,g2,g3,g4⟩:=h
 refine ⟨ak,?_,fun i hi=>?_,fun i hi=>?_⟩
 ·rw [List.length_append,List.length_singleton,Int.natCast_add,Int.mul_add];omega
 ·rw [List.length_append,List.length_singleton] at hi
  rw [wM]
  split
  ·have:=g3 i ea;omega
  ·rw [if_pos ak];omega
 ·rw [List.length_append,List.length_singleton] at hi
  rw [wM,wM,if_pos ak]
  split
  ·exact g4 i ea
  ·rw [if_pos ak];exact (g3 i ak).2
theorem Grow.plc{d D x most:Int}{many:Nat}{L:List Int}(h:Grow d D L x)(hd:0≤d)(h2:2≤L.length)(hm:L.length≤many)(hx:d+D*L.length≤most):gw many most L:=
 ⟨h2,hm,by have:=(h.all 0 ak).1;omega,by have:=(h.all (L.length - 1) ak).2;have:=h.high;omega,h.rise⟩
structure IQ(s:Spc):Prop where
 ok:dP s
 st:s.st.length≤4
 wa:s.wa.length≤3
set_option maxHeartbeats 1000000 in
theorem oT{v:Value}{l:List Int}(hs:St H w σ)(hr:RI H v l):
  Cl Tryz.prog 89 [v] w fun u w'=>∃s vst vwa e1 e2,u= .agg #[I s.id,I s.src,vst,vwa,I s.al,I s.up]∧IQ s∧bU 1 vst (Is s.st) e1∧bU 1 vwa (Is s.wa) e2∧St H w' (e1::e2::σ):=by
 obtain ⟨av,cv,rfl⟩:=RI.shape hr
 refine Cl.o Tryz.func89 Tryz.ntmps89 ag1 ?_
 refine .ai ?_
 refine .o (.alloc hs iO rfl fun b2 w hs=>?_)
 refine .nil (.ai (.z zm ?_))
 refine .o (.call fk rfl (cD hs hr ak ak) ?_);rintro _ w ⟨k11,g11,rfl,hs⟩
 refine .z cf (.z zm ?_)
 refine .o (.call fk rfl (cD hs hr ak ak) ?_);rintro _ w ⟨k14,g14,rfl,hs⟩
 refine .z cf (.z (zbd [_,_,_,_,_,_] qq) ?_)
 refine .o (.alloc hs iO rfl fun b3 w hs=>?_)
 refine .o (.aI (vs:=[_,_,_,_,_,_]) hs rfl rfl aF fun w hs=>?_)
 refine .nil (.ai (.z zm ?_))
 refine .o (.call fk rfl (cD hs hr ak ak) ?_);rintro _ w ⟨k18,g18,rfl,hs⟩
 refine .z cf (.z kS (.z zg (.nil (.ai (.z zg (.nil (.seq (.ai (.z zg ?_)))))))))
 refine .nil (.block ?_)
 refine .loop (fun p:List Int×Int×Value=>⟨90,[],[(6,I (p.1.length:Int)),(5,I p.2.1),(4,I (100*(1+(k18:Int)))),(0,.slice av l.length cv),(3,.pointer (some ⟨b3,0,none⟩)),(2,.pointer (some ⟨b2,0,none⟩))]⟩)
  (fun p w=>p.1.length≤4∧Grow 0 2707 p.1 p.2.1∧∃en,bU 1 p.2.2 (Is p.1) en∧St H w (en:: .blk b3 [I (1+(k11:Int)),I (1+(k14:Int)),p.2.2,.slice none 0 0,I 0,I 0]:: .blk b2 [I 0,I 0,.slice none 0 0,.slice none 0 0,I 0,I 0]::σ)) (fun p=>4 - p.1.length) ([],0,.slice none 0 0) bD
  ⟨bV,.start _ _,_,.nil 1 none,hs.nul⟩ ?_
 clear hs
 rintro ⟨L,x,vo⟩ w ⟨hL4,hG,en,hO,hs⟩
 dsimp only at hL4 hG hO hs ⊢
 obtain ⟨ao,lo,co,rfl,-⟩:=hO.shape
 have hx0:=hG.low
 have hx1:=hG.high
 refine .seq (.ai (.z zm (.z zm ?_)))
 refine .o (.call fk rfl (cD hs hr ak ak) ?_);rintro _ w ⟨k23,g23,rfl,hs⟩
 refine .z cf (.z iM (.nil ?_))
 refine (.bT rfl (fun hc25=>?_) (fun hc25=>?_))
 ·refine .skip ?_
  refine nT ?_
  refine .seq (.block (.ai (.z (zfa bH) (.y hs (zld an) (.z zm ?_)))))
  refine .o (.buildSlice (cells:=[_]) hs cA rfl rfl fun b31 w hs=>?_)
  refine .o (.append (ys:=Is [x]) hs cn rfl rfl hO (.own .here rfl rfl) (iX _) (fun l' h=>by simp at h;omega) ?_);intro v32 en32 w hO2 hs
  rw [←List.map_append] at hO2
  obtain ⟨a32,l32,c32,rfl,-⟩:=hO2.shape
  refine .z (zfa bH) ?_
  refine .o (.store hs rfl rfl aA fun w hs=>?_)
  refine .nil (.region (.z zm (.z zm (.z zm (.z zm (.z cf ?_))))))
  refine .o (.call fk rfl (cD hs hr ak ak) ?_);rintro _ w ⟨k39,g39,rfl,hs⟩
  have m41:=kv (a:=100*(1+(k18:Int))) (b:=1+(k39:Int)) (A:=900) (B:=3) ak ak
  have m41':100≤100*(1+(k18:Int))*(1+(k39:Int)):=by
   have:=Int.mul_le_mul (a:=100) (c:=100*(1+(k18:Int))) (b:=1) (d:=1+(k39:Int)) ak ak ak ak
   omega
  refine .z cf (.z kS (.z cf (.z zm ?_)))
  refine .o (.call fk rfl (cD hs hr ak ak) ?_);rintro _ w ⟨k44,g44,rfl,hs⟩
  refine .z zm (.z zm (.z cf ?_))
  refine .o (.call fk rfl (cD hs hr ak ak) ?_);rintro _ w ⟨k48,g48,rfl,hs⟩
  have m49:0≤(k44:Int)*(k48:Int)∧(k44:Int)*(k48:Int)≤1:=by
   have e1:k44=0∨k44=1:=by omega
   rcases e1 with rfl|rfl<;>simp<;>omega
  refine .z kS (.z kS (.z cf (.z zg (.nil ?_))))
  refine nB (nT ?_)
  refine .region (.z zm (.z cf (.z zg (.nil ?_))))
  refine nT ?_
  exact ⟨(L++[x],_,.slice a32 l32 c32),.dA rfl bV bD,⟨by simp;omega,hG.snoc (by dsimp only;omega) (by dsimp only;omega),_,hO2,hs.sb⟩,by simp;omega⟩
 ·refine .exit ?_
  refine xT (xT (xB (nT ?_)))
  refine .ai (.z zm ?_)
  have hL2:2≤L.length:=by omega
  refine .o (.call fk rfl (cD hs hr ak ak) ?_);rintro _ w ⟨k53,g53,rfl,hs⟩
  refine .z cf (.z kS (.z zg (.nil (.ai (.z zm ?_)))))
  refine .o (.call fk rfl (cD hs hr ak ak) ?_);rintro _ w ⟨k57,g57,rfl,hs⟩
  refine .z kS (.z zg (.nil (.seq (.ai (.z zg (.nil (.block ?_)))))))
  refine .loop (fun p:List Int×Int×Value=>⟨90,[],[(9,I (p.1.length:Int)),(8,I p.2.1),(7,I (50*(1+(k53:Int)))),(0,.slice av l.length cv),(3,.pointer (some ⟨b3,0,none⟩)),(2,.pointer (some ⟨b2,0,none⟩))]⟩)
   (fun p w=>p.1.length≤3∧Grow (10*(k57:Int)) 1350 p.1 p.2.1∧∃en2,bU 1 p.2.2 (Is p.1) en2∧St H w (en2:: .blk b3 [I (1+(k11:Int)),I (1+(k14:Int)),.slice ao lo co,p.2.2,I 0,I 0]:: .blk b2 [I 0,I 0,.slice none 0 0,.slice none 0 0,I 0,I 0]::en::σ)) (fun p=>3 - p.1.length) ([],10*(k57:Int),.slice none 0 0) bD
   ⟨bV,.start _ _,_,.nil 1 none,(hs.sb).nul⟩ ?_
  clear hs
  rintro ⟨L2,y,vo2⟩ w ⟨hM4,hG2,en2,hO2,hs⟩
  dsimp only at hM4 hG2 hO2 hs ⊢
  obtain ⟨ap,lp,cp,rfl,-⟩:=hO2.shape
  have hy0:=hG2.low
  have hy1:=hG2.high
  refine .seq (.ai (.z zm (.z zm ?_)))
  refine .o (.call fk rfl (cD hs hr ak ak) ?_);rintro _ w ⟨k61,g61,rfl,hs⟩
  refine .z cf (.z iM (.nil ?_))
  refine (.bT rfl (fun hc63=>?_) (fun hc63=>?_))
  ·refine .skip ?_
   refine nT ?_
   refine .seq (.block (.ai (.z (zfa a8) (.y hs (zld an) (.z zm ?_)))))
   refine .o (.buildSlice (cells:=[_]) hs cA rfl rfl fun b69 w hs=>?_)
   refine .o (.append (ys:=Is [y]) hs cn rfl rfl hO2 (.own .here rfl rfl) (iX _) (fun l' h=>by simp at h;omega) ?_);intro v70 en70 w hO3 hs
   rw [←List.map_append] at hO3
   obtain ⟨a70,l70,c70,rfl,-⟩:=hO3.shape
   refine .z (zfa a8) ?_
   refine .o (.store hs rfl rfl aA fun w hs=>?_)
   refine .nil (.region (.z zm (.z zm (.z zm (.z zm (.z cf ?_))))))
   refine .o (.call fk rfl (cD hs hr ak ak) ?_);rintro _ w ⟨k77,g77,rfl,hs⟩
   have m79:=kv (a:=50*(1+(k53:Int))) (b:=1+(k77:Int)) (A:=450) (B:=3) ak ak
   have m79':50≤50*(1+(k53:Int))*(1+(k77:Int)):=by
    have:=Int.mul_le_mul (a:=50) (c:=50*(1+(k53:Int))) (b:=1) (d:=1+(k77:Int)) ak ak ak ak
    omega
   refine .z cf (.z kS (.z cf (.z zg (.nil ?_))))
   refine nB (nT ?_)
   refine .region (.z zm (.z cf (.z zg (.nil ?_))))
   refine nT ?_
   exact ⟨(L2++[y],_,.slice a70 l70 c70),.dA rfl bV bD,⟨by simp;omega,hG2.snoc (by dsimp only;omega) (by dsimp only;omega),_,hO3,hs.sb⟩,by simp;omega⟩
  ·refine .exit ?_
   refine xT (xT (xB (nT ?_)))
   refine .ai (.z zm ?_)
   refine .o (.call fk rfl (cD hs hr ak ak) ?_);rintro _ w ⟨k83,g83,rfl,hs⟩
   refine .z kS (.z zm ?_)
   refine .o (.call fk rfl (cD hs hr ak ak) ?_);rintro _ w ⟨k86,g86,rfl,hs⟩
   refine .z kS (.z (zbd [_,_] rN) (.z (zfa eU) ?_))
   refine .o (.aI (vs:=[_,_]) hs rfl rfl Tryz.sizeOf46 fun w hs=>?_)
   refine .nil (.ai (.y hs (zls [_,_,_,_,_,_] aT aF) ?_))
   refine .o (.aI (vs:=[_,_,_,_,_,_]) hs rfl rfl aF fun w hs=>?_)
   refine .nil ?_
   refine .ret ?_
   exact Fin.ia [] [] hs fun w hs=>⟨_,results1 Tryz.results89 (di (vs:=[_,_,_,_,_,_]) hs rfl aT aF),⟨1+(k11:Int),1+(k14:Int),L,L2,100*(k83:Int),100*(k86:Int)⟩,.slice ao lo co,.slice ap lp cp,en,en2,rfl,
    ⟨⟨hG.plc ak hL2 ak ak,hG2.plc ak ak ak ak,by dsimp only;omega,by dsimp only;omega,by dsimp only;omega,by dsimp only;omega⟩,hL4,hM4⟩,hO,hO2,hs.sb⟩
instance (s:Spc) (r:Rdg):Decidable (gP s r):=
 decidable_of_iff ((1≤r.src∧r.src≤99999)∧(0≤r.st∧r.st≤(s.st.length:Int) - 1)∧(0≤r.wa∧r.wa≤(s.wa.length:Int) - 1)∧(0≤r.tol∧r.tol≤1000)∧(0≤r.val∧r.val≤20000 - r.tol)∧(1≤r.tape∧r.tape≤99)∧(0≤r.day∧r.day≤100000))
  ⟨fun ⟨a,b,c,d,e,f,g⟩=>⟨a,b,c,d,e,f,g⟩,fun ⟨a,b,c,d,e,f,g⟩=>⟨a,b,c,d,e,f,g⟩⟩
def gI(s:Spc)(rs:List Rdg):List Rdg:=rs.filter fun r=>decide (gP s r)
theorem Bj(s:Spc){rs:List Rdg}{k:Nat}{r:Rdg}(h:rs[k]? =some r):gI s (rs.take (k+1))=if gP s r then gI s (rs.take k)++[r] else gI s (rs.take k):=by
 unfold gI
 rw [cC h,List.filter_append]
 by_cases e:gP s r
 ·simp [e]
 ·simp [e]
theorem tI(s:Spc)(rs:List Rdg):(gI s rs).length≤rs.length:=List.length_filter_le _ _
theorem yg{s:Spc}{rs:List Rdg}{r:Rdg}(h:r∈gI s rs):r∈rs∧gP s r:=by
 unfold gI at h;simpa using List.mem_filter.1 h
theorem EZ{s:Spc}{rs:List Rdg}{t:TD}(h:t∈aK (gI s rs)):t∈aK rs:=by
 obtain ⟨r,h1,h2⟩:=dV.1 h
 exact dV.2 ⟨r,(yg h1).1,h2⟩
def mw(v:Srv)(x:List Int)(t:TD):Int:=gi x (v.sp.many+1+(iU v.bq t).toNat)
def Il(v:Srv)(x:List Int):List Int:=x.take (v.sp.many+1)++(aK (gI v.sp v.rs)).map (mw v x)
set_option maxHeartbeats 1000000 in
theorem tn{vr:Value}{rs:List Rdg}(hs:St H w σ)(hr:RRd H vr rs)(hl:rs.length≤1000000):
  Cl Tryz.prog 96 [vr] w fun u w'=>∃en,bU 2 u (tdc (aK rs)).flatten en∧St H w' (en::σ):=by
 obtain ⟨ar,cr,rfl⟩:=RRd.shape hr
 refine Cl.o Tryz.func96 Tryz.ntmps96 ag1 ?_
 refine .ai (.z zg (.nil (.ai (.z zg (.nil (.seq (.ai (.z zg (.nil ?_)))))))))
 refine .block ?_
 refine .loop (fun p:Nat×Value=>⟨32,[],[(4,I (p.1:Int)),(3,p.2),(0,.slice ar rs.length cr)]⟩)
  (fun p w=>p.1≤rs.length∧∃en,bU 2 p.2 (tdc (aK (rs.take p.1))).flatten en∧St H w (en::σ)) (fun p=>rs.length - p.1) (0,.slice none 0 0) bD
  ⟨Nat.zero_le _,_,.nil 2 none,hs.nul⟩ ?_
 rintro ⟨k,vo⟩ w ⟨hk,en,hO,hs⟩
 dsimp only at hk hO ⊢
 have htl:=jX rs k ak
 obtain ⟨ao,co,rfl⟩:=hO.kX (oG _) ak
 rw [dJ] at hO ⊢
 refine .seq (.ai (.z zm (.z zm (.z (cZ aN) (.z iM (.nil ?_))))))
 refine (.bT rfl (fun hc9=>?_) (fun hc9=>?_))
 ·refine .skip ?_
  refine nT ?_
  refine .seq (.block ?_)
  refine .seq (.draw mix rfl hs fun w hs=>?_)
  refine .z 0 rfl zm ?_;refine .z 1 rfl zm ?_
  obtain ⟨r,hx⟩:=nth (l:=rs) (k:=k) ak
  have htk:=iq hx
  refine .ixX (enc:=Rdg.c) (i:=2) hs rfl aq .none hr rfl rfl aN aW hx dn ?_;intro b14 o14 hc14
  have d14:cellAt H b14 (o14+5)=some (I r.tape):=hc14 5 _ rfl
  refine .z 3 rfl (zfa dY) ?_;refine .y 4 rfl hs af ?_;refine .z 5 rfl zm ?_;refine .z 6 rfl zm ?_
  refine .ixX (enc:=Rdg.c) (i:=7) hs rfl aq .none hr rfl rfl aN aW hx dn ?_;intro b19 o19 hc19
  have d19:cellAt H b19 (o19+6)=some (I r.day):=hc19 6 _ rfl
  refine .z 8 rfl (zfa dX) ?_;refine .y 9 rfl hs af ?_;refine .z 10 rfl (zbd [_,_] gq) ?_
  refine .E 11 hs ?_
  refine .alloc hs jR rfl ?_;intro b5 w hs
  refine .go ?_
  refine .E 12 hs ?_
  refine .aI (vs:=[_,_]) hs rfl rfl bj ?_;intro w hs
  refine .go ?_
  refine .D hs ?_
  refine .ai (.z zm (.y hs (zls [_,_] dv bj) ?_))
  refine .o (.call Tryz.call95 rfl (mH (t:=r.td) (hs.sb:St H w (en:: .blk b5 [I r.tape,I r.day]::σ)) hO ak) ?_);rintro _ w ⟨rfl,hs⟩
  have hnn:=rC (l:=aK (rs.take k)) (t:=r.td)
  refine .z iM (.nil ?_)
  refine (.bT rfl (fun hc26=>?_) (fun hc26=>?_))
  ·refine .region (.z zm (.y hs (zls [_,_] dv bj) ?_))
   refine .o (.buildSlice (cells:=[_,_]) hs gK rfl rfl fun b29 w hs=>?_)
   refine .o (.append (ys:=r.td.c) hs dQ rfl rfl hO (.own .here rfl rfl) (by simp [TD.c,Value.oneCell']) (fun l h=>by rw [cK _ (oG _),dJ] at h;omega) ?_);intro v30 en30 w hO2 hs
   refine .z zg (.nil ?_)
   refine nB (nT ?_)
   refine .region (.z zm (.z cf (.z zg (.nil ?_))))
   refine nT ?_
   have hn:r.td∉aK (rs.take k):=fun hm=>by have:=hnn.2 hm;omega
   rw [←vZ,show aK (rs.take k)++[r.td]=aK (rs.take (k+1)) by rw [htk];unfold nS;rw [if_neg hn]] at hO2
   exact ⟨(k+1,v30),.dA rfl bV bD,⟨by dsimp only;omega,_,hO2,hs.sb⟩,by dsimp only;omega⟩
  ·refine .skip ?_
   refine nB (nT ?_)
   refine .region (.z zm (.z cf (.z zg (.nil ?_))))
   refine nT ?_
   have hm:r.td∈aK (rs.take k):=hnn.1 ak
   exact ⟨(k+1,_),.dA rfl bV bD,⟨by dsimp only;omega,en,by dsimp only;rw [htk];unfold nS;rw [if_pos hm];exact hO,hs.sb⟩,by dsimp only;omega⟩
 ·refine .exit ?_
  refine xT (xT (xB (nT ?_)))
  refine .ai (.z zm (.z zg (.nil ?_)))
  refine .ret (Fin.bw Tryz.results96 rfl ?_)
  obtain rfl:k=rs.length:=by omega
  rw [List.take_length] at hO
  exact ⟨en,by rw [List.take_length];exact hO,hs⟩
set_option maxHeartbeats 2000000 in
theorem pM{s:Srv}{x:List Int}{vst vwa vr vc vx:Value}(hs:St H w σ)(h1:RI H vst s.sp.st)(h2:RI H vwa s.sp.wa)(h3:RRd H vr s.rs)(hc:∃a l c,vc= .slice a l c)(hx:RI H vx x)(hxl:x.length=s.sys.n)(hb:s.sp.st.length≤1000∧s.sp.wa.length≤1000∧s.rs.length≤1000):
  Cl Tryz.prog 97 [.agg #[I s.sp.id,I s.sp.src,vst,vwa,I s.sp.al,I s.sp.up,vr,vc],vx] w fun u w'=>∃H1 vr' vy e1 e2,HLe H H1∧u= .tuple #[.agg #[I s.sp.id,I s.sp.src,vst,vwa,I s.sp.al,I s.sp.up,vr',vc],vy]∧bU 7 vr' (rdc (gI s.sp s.rs)).flatten e1∧bU 1 vy (Is (Il s x)) e2∧St H1 w' (e1::e2::σ):=by
 obtain ⟨ast,cst,rfl⟩:=RI.shape h1
 obtain ⟨awa,cwa,rfl⟩:=RI.shape h2
 obtain ⟨ar,cr,rfl⟩:=RRd.shape h3
 obtain ⟨ac,lc,cc,rfl⟩:=hc
 obtain ⟨ax,cx,rfl⟩:=RI.shape hx
 have hm:s.sp.many≤1000000:=Nat.mul_le_mul hb.1 hb.2.1
 have hn:=pK s
 have htl:=dc s.rs
 refine Cl.o Tryz.func97 Tryz.ntmps97 ag2 ?_
 refine .ai ?_
 refine .bx hs fun b2 w hs=>?_
 refine .o (.alloc hs ee rfl fun b4 w hs=>?_)
 refine .z zg (.nil (.ai (.z (zfa br) (.y hs (zld cS) ?_))))
 refine .o (.call Tryz.call96 rfl (gR (rs:=s.rs) hs h3 ak) ?_);rintro v15 w ⟨H1,hle1,hT,hs⟩
 obtain ⟨at',ct,rfl⟩:=RTd.shape hT
 refine .z zg (.nil (.ai (.z (zfa bC) (.y hs (zls [_,_,_,_,_,_] aT aF) ?_))))
 refine .o (.call Tryz.call94 rfl (fO (s:=s.sp) hs (h1.mono hle1) (h2.mono hle1) ⟨hb.1,hb.2.1⟩) ?_);rintro _ w ⟨rfl,hs⟩
 refine .z zg (.nil (.ai (.y hs (zls [_,_,_,_,_,_,_,_] aJ aB) ?_)))
 refine .o (.alloc hs ee rfl fun b8 w hs=>?_)
 refine .o (.aI (vs:=[_,_,_,_,_,_,_,_]) hs rfl rfl aB fun w hs=>?_)
 refine .nil (.ai (.z (zfa br) ?_))
 refine .o (.store hs rfl rfl Hr fun w hs=>?_)
 refine .nil (.seq (.ai (.z zg (.nil (.block ?_)))))
 refine .loop (fun p:Nat×Value=>⟨78,[],[(9,I (p.1:Int)),(8,.pointer (some ⟨b8,0,none⟩)),(7,I (s.sp.many:Int)),(6,.slice at' (aK s.rs).length ct),(4,.pointer (some ⟨b4,0,none⟩)),(2,.pointer (some ⟨b2,0,none⟩)),(1,.slice ax x.length cx)]⟩)
  (fun p w=>p.1≤s.rs.length∧∃en,bU 7 p.2 (rdc (gI s.sp (s.rs.take p.1))).flatten en∧St H1 w (en:: .blk b8 [I s.sp.id,I s.sp.src,.slice ast s.sp.st.length cst,.slice awa s.sp.wa.length cwa,I s.sp.al,I s.sp.up,p.2,.slice ac lc cc]:: .blk b4 [I 0,I 0,.slice none 0 0,.slice none 0 0,I 0,I 0,.slice none 0 0,.slice none 0 0]:: .blk b2 [I s.sp.id,I s.sp.src,.slice ast s.sp.st.length cst,.slice awa s.sp.wa.length cwa,I s.sp.al,I s.sp.up,.slice ar s.rs.length cr,.slice ac lc cc]::σ)) (fun p=>s.rs.length - p.1) (0,.slice none 0 0) bD
  ⟨Nat.zero_le _,_,.nil 7 none,hs.nul⟩ ?_
 clear hs
 rintro ⟨k,vo⟩ w ⟨hk,en,hO,hs⟩
 dsimp only at hk hO hs ⊢
 have hkl:=tI s.sp (s.rs.take k)
 rw [List.length_take] at hkl
 obtain ⟨ao,lo,co,rfl,-⟩:=hO.shape
 refine .seq (.ai (.z zm (.z (zfa br) (.y hs (zld cS) (.z (cZ aN) (.z iM (.nil ?_)))))))
 refine (.bT rfl (fun hc25=>?_) (fun hc25=>?_))
 ·refine .skip ?_
  refine nT ?_
  refine .seq (.block ?_)
  refine .seq (.draw mix rfl hs fun w hs=>?_)
  refine .z 0 rfl (zfa bC) ?_;refine .ys 1 rfl hs [_,_,_,_,_,_] aT aF ?_;refine .z 2 rfl (zfa br) ?_;refine .y 3 rfl hs cS ?_;refine .z 4 rfl zm ?_
  obtain ⟨r,hr⟩:=nth (l:=s.rs) (k:=k) ak
  have hsn:=Bj s.sp hr
  refine .ixX (enc:=Rdg.c) (i:=5) hs rfl aq .none (h3.mono hle1) rfl rfl aN aW hr dn ?_;intro b33 o33 hc33
  refine .r (i:=6) hs rfl aq .none (bK (vs:=r.c) rfl fS aW hc33) ?_
  refine .E 7 hs ?_
  refine .call Tryz.call150 rfl (lq (s:=s.sp) (r:=r) hs (h1.mono hle1) (h2.mono hle1)) ?_;rintro _ w ⟨b35,rfl,hb35,hs⟩
  refine .go ?_
  refine .D hs ?_
  refine (.cond rfl (fun hc35=>?_) (fun hc35=>?_))
  ·refine .draw mix rfl hs fun w hs=>?_
   refine .z 0 rfl (zfa br) ?_;refine .y 1 rfl hs cS ?_;refine .z 2 rfl (zfa br) ?_;refine .y 3 rfl hs cS ?_;refine .z 4 rfl zm ?_
   refine .ixX (enc:=Rdg.c) (i:=5) hs rfl aq .none (h3.mono hle1) rfl rfl aN aW hr dn ?_;intro b41 o41 hc41
   refine .r (i:=6) hs rfl aq .none (bK (vs:=r.c) rfl fS aW hc41) ?_
   refine .E 7 hs ?_
   refine .buildSlice (cells:=r.c) hs jH rfl aq ?_;intro b43 w hs
   refine .go ?_
   refine .E 8 hs ?_
   refine .append (ys:=r.c) hs ft rfl rfl hO (.own .here rfl rfl) (by simp [Rdg.c,Value.oneCell']) (fun l' h=>by rw [cK _ (qV _),fc] at h;omega) ?_;intro v44 en44 w hO2 hs
   rw [←Ad,show gI s.sp (s.rs.take k)++[r]=gI s.sp (s.rs.take (k+1)) by rw [hsn,if_pos (hb35.1 (by simpa using hc35))]] at hO2
   obtain ⟨a44,l44,c44,rfl,-⟩:=hO2.shape
   refine .go ?_
   refine .z 9 rfl (zfa br) ?_
   refine .E 10 hs ?_
   refine .store hs rfl rfl Hr ?_;intro w hs
   refine .go ?_
   refine .D hs ?_
   refine nB (nT ?_)
   refine .region (.z zm (.z cf (.z zg (.nil ?_))))
   refine nT ?_
   exact ⟨(k+1,.slice a44 l44 c44),.dA rfl bV bD,⟨by dsimp only;omega,_,hO2,hs.sb⟩,by dsimp only;omega⟩
  ·refine .skip ?_
   refine nB (nT ?_)
   refine .region (.z zm (.z cf (.z zg (.nil ?_))))
   refine nT ?_
   exact ⟨(k+1,.slice ao lo co),.dA rfl bV bD,⟨by dsimp only;omega,en,by dsimp only;rw [hsn,if_neg (fun h=>by rw [hb35.2 h] at hc35;cases hc35)];exact hO,hs.sb⟩,by dsimp only;omega⟩
 ·refine .exit ?_
  refine xT (xT (xB (nT ?_)))
  refine .ai ?_
  obtain rfl:k=s.rs.length:=by omega
  rw [List.take_length] at hO
  refine .o (.buildSlice (cells:=[]) hs rM rfl rfl fun b46 w hs=>?_)
  refine .z zm (.z zm (.z cf ?_))
  refine .q hs (pN (k:=s.sp.many+1) rfl rfl ae aj rfl (by have:=(RS.len hx).2.1;omega)) ?_
  refine .o (.append (xs:=[]) (ys:=Is (x.take (s.sp.many+1))) hs cn rfl rfl (.full (len:=0) rfl) (.ints (RI.head (hx.mono hle1) (k:=s.sp.many+1) ak)) (iX _) (fun l h=>by simp at h;rw [List.length_take];omega) ?_);intro v51 en51 w hO3 hs
  rw [List.nil_append] at hO3
  refine .z zg (.nil (.ai (.z (zfa br) (.y hs (zld cS) ?_))))
  have hkl:=tI s.sp s.rs
  obtain ⟨H2,hle2,hRR,hs2,back⟩:=hO.zy (qV _) ak (by rw [fc];omega) (hs.sb:St H1 w (en::en51:: .blk b8 [I s.sp.id,I s.sp.src,.slice ast s.sp.st.length cst,.slice awa s.sp.wa.length cwa,I s.sp.al,I s.sp.up,.slice ao lo co,.slice ac lc cc]:: .blk b4 [I 0,I 0,.slice none 0 0,.slice none 0 0,I 0,I 0,.slice none 0 0,.slice none 0 0]:: .blk b2 [I s.sp.id,I s.sp.src,.slice ast s.sp.st.length cst,.slice awa s.sp.wa.length cwa,I s.sp.al,I s.sp.up,.slice ar s.rs.length cr,.slice ac lc cc]::σ))
  refine .o (.call Tryz.call96 rfl (tn (rs:=gI s.sp s.rs) hs2 hRR ak) ?_);rintro v54 w ⟨enT,hOT,hsT⟩
  have hs:=back (HLe.refl _) hsT
  have htl':=dc (gI s.sp s.rs)
  obtain ⟨H3,hle3,hT3,hs⟩:=bU.cg (m:=2) (cs:=tdc (aK (gI s.sp s.rs))) hOT (oG _) ak (by rw [dJ];omega) hs (.there .here)
  have hT3:RTd H3 v54 (aK (gI s.sp s.rs)):=hT3
  obtain ⟨a54,c54,rfl⟩:=RTd.shape hT3
  refine .z zg (.nil (.seq (.ai (.z zg (.nil (.block ?_))))))
  refine .loop (fun p:Nat×Value=>⟨78,[],[(12,I (p.1:Int)),(10,p.2),(11,.slice a54 (aK (gI s.sp s.rs)).length c54),(8,.pointer (some ⟨b8,0,none⟩)),(7,I (s.sp.many:Int)),(6,.slice at' (aK s.rs).length ct),(4,.pointer (some ⟨b4,0,none⟩)),(1,.slice ax x.length cx)]⟩)
   (fun p w=>p.1≤(aK (gI s.sp s.rs)).length∧∃en2,bU 1 p.2 (Is (x.take (s.sp.many+1)++((aK (gI s.sp s.rs)).take p.1).map (mw s x))) en2∧St H3 w (en2:: .blk b8 [I s.sp.id,I s.sp.src,.slice ast s.sp.st.length cst,.slice awa s.sp.wa.length cwa,I s.sp.al,I s.sp.up,.slice ao lo co,.slice ac lc cc]:: .blk b4 [I 0,I 0,.slice none 0 0,.slice none 0 0,I 0,I 0,.slice none 0 0,.slice none 0 0]::en::σ)) (fun p=>(aK (gI s.sp s.rs)).length - p.1) (0,v51) bD
   ⟨Nat.zero_le _,en51,by simpa using hO3,hs.sb⟩ ?_
  clear hs
  rintro ⟨j,vy⟩ w ⟨hj,en2,hO4,hs⟩
  dsimp only at hj hO4 hs ⊢
  obtain ⟨ay,ly,cy,rfl,-⟩:=hO4.shape
  refine .seq (.ai (.z zm (.z zm (.z (cZ aV) (.z iM (.nil ?_))))))
  refine (.bT rfl (fun hc58=>?_) (fun hc58=>?_))
  ·refine .skip ?_
   refine nT ?_
   refine .seq (.block (.region (.z zm (.z zm (.z zm (.z cf (.z zm (.z zm (.z zm ?_)))))))))
   obtain ⟨t,ht⟩:=nth (l:=aK (gI s.sp s.rs)) (k:=j) ak
   have htm:t∈s.bq:=EZ (List.mem_of_getElem? ht)
   obtain ⟨q,q1,q2,q3⟩:=fa htm
   have q3':q<(aK s.rs).length:=q3
   have q1':iU (aK s.rs) t=(q:Int):=q1
   have hnt:s.sys.n=s.sp.many+(aK s.rs).length+1:=hn
   have herr:mw s x t=gi x (s.sp.many+1+q):=by unfold mw;rw [q1,Int.toNat_natCast]
   refine .ixX (enc:=TD.c) hs hT3 rfl rfl aV bj ht dn ?_;intro b68 o68 hc68
   refine .q hs (bK (vs:=t.c) rfl dv bj hc68) ?_
   refine .o (.call Tryz.call95 rfl (js (t:=t) hs (hT.mono hle3) ak) ?_);rintro _ w ⟨rfl,hs⟩
   rw [q1']
   refine .z cf ?_
   refine .ixY hs (hx.mono (hle1.trans hle3)) rfl rfl ae aj (bF (l:=x) (i:=s.sp.many+1+q) ak) ak ?_;intro b72 o72 hc72
   refine .q hs (aR rfl af hc72) ?_
   refine .o (.buildSlice (cells:=[_]) hs cA rfl rfl fun b74 w hs=>?_)
   refine .o (.append (ys:=Is [gi x (s.sp.many+1+q)]) hs cn rfl rfl hO4 (.own .here rfl rfl) (iX _) (fun l' h=>by simp at h;omega) ?_);intro v75 en75 w hO5 hs
   rw [←List.map_append,List.append_assoc,←herr,show ((aK (gI s.sp s.rs)).take j).map (mw s x)++[mw s x t]=((aK (gI s.sp s.rs)).take (j+1)).map (mw s x) by rw [cC ht];simp] at hO5
   obtain ⟨a75,l75,c75,rfl,-⟩:=hO5.shape
   refine .z zg (.nil ?_)
   refine nB (nT ?_)
   refine .region (.z zm (.z cf (.z zg (.nil ?_))))
   refine nT ?_
   exact ⟨(j+1,.slice a75 l75 c75),.dA rfl bV bD,⟨by dsimp only;omega,_,hO5,hs.sb⟩,by dsimp only;omega⟩
  ·refine .exit ?_
   refine xT (xT (xB (nT ?_)))
   refine .ai (.y hs (zls [_,_,_,_,_,_,_,_] aJ aB) (.z zm ?_))
   refine .o (.aI (vs:=[_,_,_,_,_,_,_,_]) hs rfl rfl aB fun w hs=>?_)
   refine .z zg (.nil ?_)
   refine .ret ?_
   obtain rfl:j=(aK (gI s.sp s.rs)).length:=by omega
   rw [List.take_length] at hO4
   exact Fin.ia [] [] hs fun w hs=>⟨_,results2 Tryz.results97 (di (vs:=[_,_,_,_,_,_,_,_]) hs rfl aJ aB) rfl,H3,_,_,en,en2,hle1.trans hle3,rfl,hO,hO4,hs.sb⟩
theorem Bi{s:Spc}{rs R:List Rdg}{cs:List Cmp}{x:List Int}(hf:ew (Srv.nM ⟨s,rs,cs⟩).bY (gi x))(hx0:gi x 0=0)(hxl:x.length=s.many+(aK rs).length+1)(ht:aK R=aK rs)(hS:∀r∈R,RdS s r)(hR:∀r∈R,Dq s (aK rs) x r):
  qx ⟨s,gI s R,cs⟩ (Il ⟨s,R,cs⟩ x):=by
 have hl:(x.take (s.many+1)).length=s.many+1:=by rw [List.length_take];omega
 refine CE (R:=R) (x:=x) List.filter_sublist hS hx0 (CU hf ht hR) ?_ (fun b hb=>?_) fun j hj=>?_
 ·show (x.take (s.many+1)++(aK (gI s R)).map (mw ⟨s,R,cs⟩ x)).length=_
  rw [List.length_append,hl,List.length_map]
 ·show gi (x.take (s.many+1)++(aK (gI s R)).map (mw ⟨s,R,cs⟩ x)) b=_
  unfold gi
  simp only [List.getD]
  rw [List.getElem?_append_left ak,List.getElem?_take_of_lt ak]
 ·show gi (x.take (s.many+1)++(aK (gI s R)).map (mw ⟨s,R,cs⟩ x)) (s.many+1+j)=_
  have e:∀t,(aK (gI s R))[j]? =some t→gi (x.take (s.many+1)++(aK (gI s R)).map (mw ⟨s,R,cs⟩ x)) (s.many+1+j)=mw ⟨s,R,cs⟩ x t:=fun t ht=>by
   unfold gi
   simp only [List.getD]
   rw [List.getElem?_append_right ak,hl,show s.many+1+j - (s.many+1)=j by omega,List.getElem?_map,ht]
   rfl
  rw [e _ (we hj)];rfl
set_option maxHeartbeats 2000000 in
theorem ux{vs v5 v4 vp:Value}{sl pk:List Int}{fs5:List F5}{fs4:List F4}{z1 z2 z3:Int}(hs:St H w σ)(g1:RI H vs sl)(g2:RF5 H v5 fs5)(g3:RF4 H v4 fs4)(g4:RI H vp pk):
  Cl Tryz.prog 31 [.agg #[vs,v5,v4,vp,I z1,I z2,I z3]] w fun u w'=>∃H1 s y vst vwa vr vc vy e1 e2 e3 e4 e5,HLe H H1∧u= .tuple #[.agg #[I s.sp.id,I s.sp.src,vst,vwa,I s.sp.al,I s.sp.up,vr,vc],vy]∧Dt s∧F2 s vst vwa vr vc e1 e2 e3 e4∧bU 1 vy (Is y) e5∧qx s y∧St H1 w' (e1::e2::e3::e4::e5::σ):=by
 obtain ⟨avs,cvs,rfl⟩:=RI.shape g1
 obtain ⟨av5,cv5,rfl⟩:=g2.shape
 obtain ⟨av4,cv4,rfl⟩:=g3.shape
 obtain ⟨avp,cvp,rfl⟩:=RI.shape g4
 refine Cl.o Tryz.func31 Tryz.ntmps31 ag1 ?_
 refine .ai ?_
 refine .bx hs fun b1 w hs=>?_
 refine .o (.alloc hs ee rfl fun b2 w hs=>?_)
 refine .z zg (.nil (.ai (.z (zfa m9) (.y hs (zld an) ?_))))
 refine .o (.call Tryz.call89 rfl (oT hs g1) ?_);rintro _ w ⟨s,vst,vwa,e1,e2,rfl,hSp,hO1,hO2,hs⟩
 have hSt:=hSp.st
 have hWa:=hSp.wa
 have hSt2:=hSp.ok.st.two
 have hWa2:=hSp.ok.wa.two
 obtain ⟨ast,lst,cst,rfl,hlst⟩:=hO1.shape
 obtain ⟨awa,lwa,cwa,rfl,hlwa⟩:=hO2.shape
 obtain rfl:s.st.length=lst:=by simpa [Is] using hlst
 obtain rfl:s.wa.length=lwa:=by simpa [Is] using hlwa
 refine .z (zbd [_,_,_,_,_,_,_,_] ow) ?_
 refine .o (.alloc hs ee rfl fun b4 w hs=>?_)
 refine .o (.aI (vs:=[_,_,_,_,_,_,_,_]) hs rfl rfl aB fun w hs=>?_)
 refine .nil (.ai (.z (zfa bC) (.y hs (zls [_,_,_,_,_,_] aT aF) ?_)))
 refine .o (.alloc hs iO rfl fun b5 w hs=>?_)
 refine .o (.aI (vs:=[_,_,_,_,_,_]) hs rfl rfl aF fun w hs=>?_)
 refine .nil ?_
 refine .cut (fun fs w=>∃rs e3 ar cr,kQ fs ⟨208,[],[(5,.pointer (some ⟨b5,0,none⟩)),(4,.pointer (some ⟨b4,0,none⟩)),(2,.pointer (some ⟨b2,0,none⟩)),(1,.pointer (some ⟨b1,0,none⟩))]⟩∧rs.length≤14∧rs.length≤fs5.length∧(∀r∈rs,gP s r)∧bU 7 (.slice ar rs.length cr) (rdc rs).flatten e3∧St H w (e3:: .blk b5 [I s.id,I s.src,.slice ast s.st.length cst,.slice awa s.wa.length cwa,I s.al,I s.up]:: .blk b4 [I s.id,I s.src,.slice ast s.st.length cst,.slice awa s.wa.length cwa,I s.al,I s.up,.slice ar rs.length cr,.slice none 0 0]::e1::e2:: .blk b2 [I 0,I 0,.slice none 0 0,.slice none 0 0,I 0,I 0,.slice none 0 0,.slice none 0 0]:: .blk b1 [.slice avs sl.length cvs,.slice av5 fs5.length cv5,.slice av4 fs4.length cv4,.slice avp pk.length cvp,I z1,I z2,I z3]::σ)) ?_ ?_
 ·refine .ai (.z zg (.nil (.block ?_)))
  refine .loop (fun p:List Rdg×Option Addr×Nat=>⟨208,[],[(6,I (p.1.length:Int)),(5,.pointer (some ⟨b5,0,none⟩)),(4,.pointer (some ⟨b4,0,none⟩)),(2,.pointer (some ⟨b2,0,none⟩)),(1,.pointer (some ⟨b1,0,none⟩))]⟩)
   (fun p w=>p.1.length≤14∧p.1.length≤fs5.length∧(∀r∈p.1,gP s r)∧∃e3,bU 7 (.slice p.2.1 p.1.length p.2.2) (rdc p.1).flatten e3∧
    St H w (e3:: .blk b5 [I s.id,I s.src,.slice ast s.st.length cst,.slice awa s.wa.length cwa,I s.al,I s.up]:: .blk b4 [I s.id,I s.src,.slice ast s.st.length cst,.slice awa s.wa.length cwa,I s.al,I s.up,.slice p.2.1 p.1.length p.2.2,.slice none 0 0]::e1::e2:: .blk b2 [I 0,I 0,.slice none 0 0,.slice none 0 0,I 0,I 0,.slice none 0 0,.slice none 0 0]:: .blk b1 [.slice avs sl.length cvs,.slice av5 fs5.length cv5,.slice av4 fs4.length cv4,.slice avp pk.length cvp,I z1,I z2,I z3]::σ)) (fun p=>14 - p.1.length) ([],none,0) bD
   ⟨bV,bV,bV,_,.nil 7 none,(hs.sb).nul⟩ ?_
  clear hs
  rintro ⟨rs,ar,cr⟩ w ⟨hr14,hrf,hrok,e3,hO3,hs⟩
  dsimp only at hr14 hrf hrok hO3 hs ⊢
  refine .seq (.ai (.z zm (.z (zfa fZ) (.y hs (zld Tryz.isAgg35) (.z (cZ Tryz.runUnderlying35) (.z iM (.z zm ?_)))))))
  refine .jM (t':=31) rfl (fun hb31=>?_) (fun hb31=>?_)
  ·refine .gT rfl rfl ?_
   refine .z zm ?_
   refine .gT rfl rfl ?_
   refine .z iM (.z zpT (.nil ?_))
   refine (.bT rfl (fun hc34=>?_) (fun hc34=>?_))
   ·refine .skip ?_
    refine nT ?_
    refine .seq (.block (.ai (.z (zfa fZ) (.y hs (zld Tryz.isAgg35) (.z zm ?_)))))
    obtain ⟨n,hn⟩:=nth (l:=fs5) (k:=rs.length) ak
    refine .ixX (enc:=F5.v) hs g2 rfl rfl Tryz.runUnderlying35 uP hn dn ?_;intro b40 o40 hc40
    refine .q hs (bK (vs:=n.v) rfl Tryz.isAgg151 uP hc40) ?_
    refine .o (.alloc hs Tryz.zeroValue151 rfl fun b7 w hs=>?_)
    refine .o (.aI (vs:=[_,_,_,_,_]) hs rfl rfl uP fun w hs=>?_)
    refine .nil ?_
    refine .seq (.draw mix rfl hs fun w hs=>?_)
    refine .z 0 rfl (zia 4 gD aj) ?_
    refine .y 1 rfl hs af ?_
    refine .z 3 rfl (zia 4 gD aj) ?_
    refine .y 4 rfl hs af ?_;refine .z 5 rfl Hf ?_
    refine .E 2 hs ?_
    refine .call fT rfl (cP hs ak) ?_;rintro _ w ⟨k44,g44,rfl,hs⟩
    refine .go ?_
    refine .E 6 hs ?_
    refine .call fT rfl (cP hs ak) ?_;rintro _ w ⟨k48,g48,rfl,hs⟩
    have m49:0≤(k44:Int)*(k48:Int)∧(k44:Int)*(k48:Int)≤39:=by
     have e1:k48=0∨k48=1:=by omega
     rcases e1 with rfl|rfl<;>simp<;>omega
    refine .go ?_
    refine .z 7 rfl kS ?_;refine .z 8 rfl zg ?_;refine .D hs ?_
    refine .draw mix rfl hs fun w hs=>?_
    refine .z 0 rfl (zfa br) ?_;refine .y 1 rfl hs cS ?_;refine .z 2 rfl zm ?_;refine .z 3 rfl cf ?_
    refine .z 4 rfl (zia 0 gD aj) ?_
    refine .y 5 rfl hs af ?_;refine .z 6 rfl (zfa bH) ?_;refine .y 7 rfl hs an ?_;refine .z 8 rfl (cZ ae) ?_
    refine .z 10 rfl (zia 1 gD aj) ?_
    refine .y 11 rfl hs af ?_;refine .z 12 rfl (zfa a8) ?_;refine .y 13 rfl hs an ?_;refine .z 14 rfl (cZ ae) ?_;refine .z 16 rfl zm ?_
    refine .z 17 rfl (zia 2 gD aj) ?_
    refine .y 18 rfl hs af ?_
    refine .z 21 rfl (zia 3 gD aj) ?_
    refine .y 22 rfl hs af ?_
    refine .E 9 hs ?_
    refine .call fT rfl (cP hs ak) ?_;rintro _ w ⟨k59,g59,rfl,hs⟩
    refine .go ?_
    refine .E 15 hs ?_
    refine .call fT rfl (cP hs ak) ?_;rintro _ w ⟨k65,g65,rfl,hs⟩
    refine .go ?_
    refine .E 19 hs ?_
    refine .call fT rfl (cP hs ak) ?_;rintro _ w ⟨k69,g69,rfl,hs⟩
    refine .go ?_
    refine .z 20 rfl cf ?_
    refine .E 23 hs ?_
    refine .call fT rfl (cP hs ak) ?_;rintro _ w ⟨k73,g73,rfl,hs⟩
    obtain ⟨r,hr⟩:∃r:Rdg,r=⟨10+(rs.length:Int),(k59:Int),(k65:Int),0,(k44:Int)*(k48:Int),1+(k69:Int),(k73:Int)⟩:=⟨_,rfl⟩
    have hrOk:gP s r:=by subst hr;exact ⟨by dsimp only;omega,by dsimp only;omega,by dsimp only;omega,by dsimp only;omega,by dsimp only;omega,by dsimp only;omega,by dsimp only;omega⟩
    refine .go ?_
    refine .z 24 rfl (zbd [_,_,_,_,_,_,_] gv) ?_
    refine .E 25 hs ?_
    refine .buildSlice (cells:=r.c) hs jH rfl (by subst hr;kernel_rfl) ?_;intro b75 w hs
    refine .go ?_
    refine .E 26 hs ?_
    refine .append (ys:=r.c) hs ft rfl rfl hO3 (.own .here rfl rfl) (by simp [Rdg.c,Value.oneCell']) (fun l' h=>by rw [cK _ (qV _),fc] at h;omega) ?_;intro v76 en76 w hO4 hs
    rw [←Ad] at hO4
    obtain ⟨a76,c76,rfl⟩:=hO4.kX (qV _) ak
    rw [fc] at hO4 ⊢
    refine .go ?_
    refine .z 27 rfl (zfa br) ?_
    refine .E 28 hs ?_
    refine .store hs rfl rfl Hr ?_;intro w hs
    refine .go ?_
    refine .D hs ?_
    refine nB (nT ?_)
    refine .region (.z zm (.z cf (.z zg (.nil ?_))))
    refine nT ?_
    exact ⟨(rs++[r],a76,c76),.dA rfl bV bD,⟨by simp;omega,by simp;omega,fun q hq=>by
      simp only [List.mem_append,List.mem_singleton] at hq
      rcases hq with hq|rfl
      ·exact hrok q hq
      ·exact hrOk,_,hO4,hs.sb⟩,by simp;omega⟩
   ·refine .exit ?_
    refine xT (xT (xB (nT ?_)))
    exact ⟨rs,e3,ar,cr,bD,hr14,hrf,hrok,hO3,hs⟩
  ·refine .gFs 2 5 true rfl rfl rfl ?_
   refine .z zpF (.nil ?_)
   refine (.cF ?_)
   refine .exit ?_
   refine xT (xT (xB (nT ?_)))
   exact ⟨rs,e3,ar,cr,bD,hr14,hrf,hrok,hO3,hs⟩
 ·clear hs
  rintro fs w ⟨rs,e3,ar,cr,hfs,hr14,hrf,hrok,hO3,hs⟩
  refine WE.sub ?_ hfs
  clear hfs
  refine .cut (fun fs w=>∃cs e4 ac cc,kQ fs ⟨208,[],[(5,.pointer (some ⟨b5,0,none⟩)),(4,.pointer (some ⟨b4,0,none⟩)),(2,.pointer (some ⟨b2,0,none⟩)),(1,.pointer (some ⟨b1,0,none⟩))]⟩∧cs.length≤5∧(∀c∈cs,rp c)∧(Srv.nM ⟨s,rs,cs⟩).Sound∧bU 6 (.slice ac cs.length cc) (cmc cs).flatten e4∧St H w (e1::e2::e3::e4:: .blk b5 [I s.id,I s.src,.slice ast s.st.length cst,.slice awa s.wa.length cwa,I s.al,I s.up]:: .blk b4 [I s.id,I s.src,.slice ast s.st.length cst,.slice awa s.wa.length cwa,I s.al,I s.up,.slice ar rs.length cr,.slice ac cs.length cc]:: .blk b2 [I 0,I 0,.slice none 0 0,.slice none 0 0,I 0,I 0,.slice none 0 0,.slice none 0 0]:: .blk b1 [.slice avs sl.length cvs,.slice av5 fs5.length cv5,.slice av4 fs4.length cv4,.slice avp pk.length cvp,I z1,I z2,I z3]::σ)) ?_ ?_
  ·refine .ai (.z zg (.nil (.block ?_)))
   refine .loop (fun p:Nat×List Cmp×Option Addr×Nat=>⟨208,[],[(9,I (p.1:Int)),(5,.pointer (some ⟨b5,0,none⟩)),(4,.pointer (some ⟨b4,0,none⟩)),(2,.pointer (some ⟨b2,0,none⟩)),(1,.pointer (some ⟨b1,0,none⟩))]⟩)
    (fun p w=>p.1≤5∧p.1≤fs4.length∧p.2.1.length≤p.1∧(∀c∈p.2.1,rp c)∧(Srv.nM ⟨s,rs,p.2.1⟩).Sound∧∃e4,bU 6 (.slice p.2.2.1 p.2.1.length p.2.2.2) (cmc p.2.1).flatten e4∧
     St H w (e1::e2::e3::e4:: .blk b5 [I s.id,I s.src,.slice ast s.st.length cst,.slice awa s.wa.length cwa,I s.al,I s.up]:: .blk b4 [I s.id,I s.src,.slice ast s.st.length cst,.slice awa s.wa.length cwa,I s.al,I s.up,.slice ar rs.length cr,.slice p.2.2.1 p.2.1.length p.2.2.2]:: .blk b2 [I 0,I 0,.slice none 0 0,.slice none 0 0,I 0,I 0,.slice none 0 0,.slice none 0 0]:: .blk b1 [.slice avs sl.length cvs,.slice av5 fs5.length cv5,.slice av4 fs4.length cv4,.slice avp pk.length cvp,I z1,I z2,I z3]::σ)) (fun p=>5 - p.1) (0,[],none,0) bD
    ⟨bV,bV,bV,bV,CV (wG hSp.ok hSt hWa hr14 bV hrok bV) rfl,.nul,.nil 6 none,(hs.nul).sb⟩ ?_
   clear hs
   rintro ⟨k,cs,ac,cc⟩ w ⟨hk5,hkf,hck,hcok,hsd,e4,hO4,hs⟩
   dsimp only at hk5 hkf hck hcok hsd hO4 hs ⊢
   refine .seq (.ai (.z zm (.z (zfa jh) (.y hs (zld Tryz.isAgg36) (.z (cZ Tryz.runUnderlying36) (.z iM (.z zm ?_)))))))
   refine .jM (t':=83) rfl (fun hb83=>?_) (fun hb83=>?_)
   ·refine .gT rfl rfl ?_
    refine .z zm ?_
    refine .gT rfl rfl ?_
    refine .z iM (.z zpT (.nil ?_))
    refine (.bT rfl (fun hc86=>?_) (fun hc86=>?_))
    ·refine .skip ?_
     refine nT ?_
     refine .seq (.block (.ai (.z (zfa jh) (.y hs (zld Tryz.isAgg36) (.z zm ?_)))))
     obtain ⟨n,hn⟩:=nth (l:=fs4) (k:=k) ak
     refine .ixX (enc:=F4.v) hs g3 rfl rfl Tryz.runUnderlying36 Tryz.sizeOf97 hn dn ?_;intro b92 o92 hc92
     refine .q hs (bK (vs:=n.v) rfl Tryz.isAgg97 Tryz.sizeOf97 hc92) ?_
     refine .o (.alloc hs Tryz.zeroValue97 rfl fun b10 w hs=>?_)
     refine .o (.aI (vs:=[_,_,_,_]) hs rfl rfl Tryz.sizeOf97 fun w hs=>?_)
     refine .nil (.ai ?_)
     refine .z (zia 1 rq aj) ?_
     refine .y hs (zld af) ?_
     refine .o (.call fT rfl (cP hs ak) ?_);rintro _ w ⟨k96,g96,rfl,hs⟩
     refine .z gZ (.z zg (.nil (.ai ?_)))
     refine .z (zia 3 rq aj) ?_
     refine .y hs (zld af) ?_
     refine .o (.call fT rfl (cP hs ak) ?_);rintro _ w ⟨k100,g100,rfl,hs⟩
     refine .z zg (.nil ?_)
     refine .seq (.draw mix rfl hs fun w hs=>?_)
     refine .z 0 rfl (zfa dr) ?_;refine .y 1 rfl hs oa ?_;refine .z 2 rfl zm ?_;refine .z 3 rfl cf ?_
     refine .z 4 rfl (zia 0 rq aj) ?_
     refine .y 5 rfl hs af ?_;refine .z 8 rfl zm ?_;refine .z 9 rfl zm ?_
     refine .z 10 rfl (zia 3 rq aj) ?_
     refine .y 11 rfl hs af ?_;refine .z 12 rfl Hf ?_;refine .z 15 rfl zm ?_;refine .z 16 rfl zm ?_
     refine .z 17 rfl (zia 2 rq aj) ?_
     refine .y 18 rfl hs af ?_
     refine .E 6 hs ?_
     refine .call fT rfl (cP hs ak) ?_;rintro _ w ⟨k107,g107,rfl,hs⟩
     refine .go ?_
     refine .z 7 rfl cf ?_
     refine .E 13 hs ?_
     refine .call fT rfl (cP hs ak) ?_;rintro _ w ⟨k114,g114,rfl,hs⟩
     refine .go ?_
     refine .z 14 rfl cf ?_
     refine .E 19 hs ?_
     refine .call fT rfl (cP hs ak) ?_;rintro _ w ⟨k120,g120,rfl,hs⟩
     obtain ⟨c,hc⟩:∃c:Cmp,c=⟨30+(k:Int),1+(k107:Int),(k100:Int),(k100:Int)+(k114:Int),(k96:Int) - 40,(k96:Int) - 40+(k120:Int)⟩:=⟨_,rfl⟩
     have hcOk:rp c:=by subst hc;exact ⟨by dsimp only;omega,by dsimp only;omega,by dsimp only;omega,by dsimp only;omega,by dsimp only;omega,by dsimp only;omega⟩
     refine .go ?_
     refine .z 20 rfl cf ?_;refine .z 21 rfl (zbd [_,_,_,_,_,_] ni) ?_
     refine .E 22 hs ?_
     refine .buildSlice (cells:=c.c) hs jI rfl (by subst hc;kernel_rfl) ?_;intro b123 w hs
     refine .go ?_
     refine .E 23 hs ?_
     refine .append (ys:=c.c) hs jo rfl rfl hO4 (.own .here rfl rfl) (by simp [Cmp.c,Value.oneCell']) (fun l' h=>by rw [cK _ (Dd _),nA] at h;omega) ?_;intro v124 en124 w hO5 hs
     rw [←AJ] at hO5
     obtain ⟨a124,c124,rfl⟩:=hO5.kX (Dd _) ak
     rw [nA] at hO5 ⊢
     have hcl:(cs++[c]).length=cs.length+1:=by simp
     have hcok':∀d∈cs++[c],rp d:=fun d hd=>by
      simp only [List.mem_append,List.mem_singleton] at hd
      rcases hd with hd|rfl
      ·exact hcok d hd
      ·exact hcOk
     have hsok:cI ⟨s,rs,cs++[c]⟩:=wG hSp.ok hSt hWa hr14 ak hrok hcok'
     refine .go ?_
     refine .z 24 rfl (zfa dr) ?_
     refine .E 25 hs ?_
     refine .store hs rfl rfl Tryz.sizeOf50 ?_;intro w hs
     refine .go ?_
     refine .D hs ?_
     refine .ai (.y hs (zls [_,_,_,_,_,_,_,_] aJ aB) ?_)
     obtain ⟨Hx,hlex,r1,r2,r3,r4,hs2,back⟩:=F2.zy (s:=⟨s,rs,cs++[c]⟩) ⟨hO1,hO2,hO3,hO5⟩ (by show s.st.length≤_;omega) (by show s.wa.length≤_;omega) (by show rs.length≤_;omega) (by show (cs++[c]).length≤_;omega) (hs.sb:St H w (e1::e2::e3::en124:: .blk b5 [I s.id,I s.src,.slice ast s.st.length cst,.slice awa s.wa.length cwa,I s.al,I s.up]:: .blk b4 [I s.id,I s.src,.slice ast s.st.length cst,.slice awa s.wa.length cwa,I s.al,I s.up,.slice ar rs.length cr,.slice a124 (cs++[c]).length c124]:: .blk b2 [I 0,I 0,.slice none 0 0,.slice none 0 0,I 0,I 0,.slice none 0 0,.slice none 0 0]:: .blk b1 [.slice avs sl.length cvs,.slice av5 fs5.length cv5,.slice av4 fs4.length cv4,.slice avp pk.length cvp,I z1,I z2,I z3]::σ))
     refine .o (.call Tryz.call91 rfl (tq (s:=⟨s,rs,cs++[c]⟩) hs2 r1 r2 r3 r4 hsok.early (zC hsok)) ?_);rintro _ w ⟨Hy,b127,hley,rfl,hb127,hs3⟩
     have hs:=back hley hs3
     clear hs2 hs3 back
     refine .nil ?_
     refine (.cond rfl (fun hc127=>?_) (fun hc127=>?_))
     ·refine .region (.z (zfa dr) (.y hs (zld oa) (.z (zfa dr) (.y hs (zld oa) (.z (cZ cR) (.z gZ ?_))))))
      refine .q hs (pN (k:=cs.length) rfl rfl cR eF ak (by have:=hO5.le;omega)) ?_
      refine .z (zfa dr) ?_
      refine .o (.store hs rfl rfl Tryz.sizeOf50 fun w hs=>?_)
      refine .nil ?_
      refine nB (nT ?_)
      refine .region (.z zm (.z cf (.z zg (.nil ?_))))
      refine nT ?_
      exact ⟨(k+1,cs,a124,c124),.dA rfl bV bD,⟨by dsimp only;omega,by dsimp only;omega,by dsimp only;omega,hcok,hsd,_,hO5.GJ,hs.sb⟩,by dsimp only;omega⟩
     ·refine .skip ?_
      refine nB (nT ?_)
      refine .region (.z zm (.z cf (.z zg (.nil ?_))))
      refine nT ?_
      exact ⟨(k+1,cs++[c],a124,c124),.dA rfl bV bD,⟨by dsimp only;omega,by dsimp only;omega,by dsimp only;omega,hcok',hb127 (by simpa using hc127),_,hO5,hs.sb⟩,by dsimp only;omega⟩
    ·refine .exit ?_
     refine xT (xT (xB (nT ?_)))
     exact ⟨cs,e4,ac,cc,bD,ak,hcok,hsd,hO4,hs⟩
   ·refine .gFs 2 5 true rfl rfl rfl ?_
    refine .z zpF (.nil ?_)
    refine (.cF ?_)
    refine .exit ?_
    refine xT (xT (xB (nT ?_)))
    exact ⟨cs,e4,ac,cc,bD,ak,hcok,hsd,hO4,hs⟩
  ·clear hs
   rintro fs w ⟨cs,e4,ac,cc,hfs,hc5,hcok,hsd,hO4,hs⟩
   refine WE.sub ?_ hfs
   clear hfs
   have hsok:cI ⟨s,rs,cs⟩:=wG hSp.ok hSt hWa hr14 hc5 hrok hcok
   refine .ai (.y hs (zls [_,_,_,_,_,_,_,_] aJ aB) (.z (zfa m8) (.y hs (zld an) ?_)))
   obtain ⟨Hx,hlex,r1,r2,r3,r4,hs2,back⟩:=F2.zy (s:=⟨s,rs,cs⟩) ⟨hO1,hO2,hO3,hO4⟩ (by show s.st.length≤_;omega) (by show s.wa.length≤_;omega) (by show rs.length≤_;omega) (by show cs.length≤_;omega) hs
   refine .o (.call Tryz.call92 rfl (tp (s:=⟨s,rs,cs⟩) hs2 r1 r2 r3 r4 (g4.mono hlex) hsok.early ⟨zC hsok,hsd⟩) ?_);rintro v139 w ⟨Hy,x,ex,hley,hOx,hP,hs3⟩
   have hs:=back hley hs3
   clear hs2 hs3 back r1 r2 r3 r4
   obtain ⟨hxl,hx0,hxb,hfe⟩:=hP.wP (zC hsok) hsd
   have hsm:=hsok.many
   have hfn:(Srv.nM ⟨s,rs,cs⟩).n=s.many+(aK rs).length+1:=pK ⟨s,rs,cs⟩
   have hxl:x.length=s.many+(aK rs).length+1:=by rw [hxl];exact hfn
   rw [hfn] at hxb
   have hsm:s.many+(aK rs).length≤64:=hsm
   obtain ⟨Hz,hlez,hX,hs⟩:=bU.dM hOx ak hs e7
   obtain ⟨ax,cx,rfl⟩:=RI.shape hX
   refine .z zg (.nil (.seq (.ai (.z zg (.nil (.block ?_))))))
   refine .loop (fun p:Nat×List Rdg=>⟨208,[],[(14,I (p.1:Int)),(13,.slice ax x.length cx),(5,.pointer (some ⟨b5,0,none⟩)),(4,.pointer (some ⟨b4,0,none⟩)),(2,.pointer (some ⟨b2,0,none⟩)),(1,.pointer (some ⟨b1,0,none⟩))]⟩)
    (fun p w=>p.1≤rs.length∧p.2.length=rs.length∧aK p.2=aK rs∧(∀r∈p.2,RdS s r)∧(∀j<p.1,∀r,p.2[j]? =some r→Dq s (aK rs) x r)∧∃e3,bU 7 (.slice ar rs.length cr) (rdc p.2).flatten e3∧
     St Hz w (e1::e2::e3::e4:: .blk b5 [I s.id,I s.src,.slice ast s.st.length cst,.slice awa s.wa.length cwa,I s.al,I s.up]:: .blk b4 [I s.id,I s.src,.slice ast s.st.length cst,.slice awa s.wa.length cwa,I s.al,I s.up,.slice ar rs.length cr,.slice ac cs.length cc]:: .blk b2 [I 0,I 0,.slice none 0 0,.slice none 0 0,I 0,I 0,.slice none 0 0,.slice none 0 0]:: .blk b1 [.slice avs sl.length cvs,.slice av5 fs5.length cv5,.slice av4 fs4.length cv4,.slice avp pk.length cvp,I z1,I z2,I z3]::σ)) (fun p=>rs.length - p.1) (0,rs) bD
    ⟨bV,rfl,rfl,fun r hr=>⟨(hrok r hr).st,(hrok r hr).wa,(hrok r hr).tol⟩,fun j hj=>by omega,e3,hO3,hs⟩ ?_
   clear hs hO3
   rintro ⟨k,R⟩ w ⟨hk,hRl,hRt,hRs,hRv,e3,hO3,hs⟩
   dsimp only at hk hRl hRt hRs hRv hO3 hs ⊢
   refine .seq (.ai (.z zm (.z (zfa br) (.y hs (zld cS) (.z (cZ aN) (.z iM (.nil ?_)))))))
   refine (.bT rfl (fun hc144=>?_) (fun hc144=>?_))
   ·refine .skip ?_
    refine nT ?_
    refine .seq (.block (.ai (.z (zfa fZ) (.y hs (zld Tryz.isAgg35) (.z zm ?_)))))
    obtain ⟨n,hn⟩:=nth (l:=fs5) (k:=k) ak
    obtain ⟨r,hr⟩:=nth (l:=R) (k:=k) ak
    have hrS:=hRs r (List.mem_of_getElem? hr)
    obtain ⟨u,hu1,hu2⟩:=hrS.u
    have hrst:=hrS.st
    have hrwa:=hrS.wa
    have hrtol:=hrS.tol
    have hmem:r.td∈aK R:=dV.2 ⟨r,List.mem_of_getElem? hr,rfl⟩
    obtain ⟨q,q1,q2,q3⟩:=fa hmem
    rw [hRt] at q3
    have hb1:=hxb u ak
    have hb2:=hxb (s.many+1+q) ak
    obtain ⟨bo,co,sp,hv,rfl,hcap⟩:=hO3.Jz (qV _) ak (by rw [fc];omega)
    simp only [Value.slice.injEq] at hv
    obtain ⟨rfl,hv2,rfl⟩:=hv
    obtain ⟨Hx,hlex,r1,r2,r3,r4,hs2,back⟩:=F2.zy (s:=⟨s,R,cs⟩) ⟨hO1,hO2,hO3,hO4⟩ (by show s.st.length≤_;omega) (by show s.wa.length≤_;omega) (by show R.length≤_;omega) (by show cs.length≤_;omega) hs
    clear hs
    have hs:=hs2
    clear hs2
    refine .ixX (enc:=F5.v) hs (g2.mono (hlez.trans hlex)) rfl rfl Tryz.runUnderlying35 uP hn dn ?_;intro b150 o150 hc150
    refine .q hs (bK (vs:=n.v) rfl Tryz.isAgg151 uP hc150) ?_
    refine .o (.alloc hs Tryz.zeroValue151 rfl fun b15 w hs=>?_)
    refine .o (.aI (vs:=[_,_,_,_,_]) hs rfl rfl uP fun w hs=>?_)
    refine .nil (.ai (.z (zfa br) (.y hs (zld cS) (.z zm ?_))))
    refine .ixX (enc:=Rdg.c) hs r3 rfl rfl aN aW hr dn ?_;intro b155 o155 hc155
    refine .q hs (bK (vs:=r.c) rfl fS aW hc155) ?_
    refine .o (.alloc hs fD rfl fun b16 w hs=>?_)
    refine .o (.aI (vs:=[_,_,_,_,_,_,_]) hs rfl rfl aW fun w hs=>?_)
    refine .nil (.ai (.y hs (zls [_,_,_,_,_,_] aT aF) (.z (zfa fH) (.y hs (zld af) (.z (zfa fG) (.y hs (zld af) ?_))))))
    refine .o (.call xp rfl (dK (s:=s) hs r2 ak ak ak) ?_);rintro _ w ⟨rfl,hs⟩
    rw [hu1]
    refine .z zg (.nil ?_)
    refine .seq (.draw mix rfl hs fun w hs=>?_)
    refine .ys 0 rfl hs [_,_,_,_,_,_] aT aF ?_;refine .z 3 rfl (zfa br) ?_;refine .y 4 rfl hs cS ?_;refine .z 6 rfl (zfa dY) ?_;refine .y 7 rfl hs af ?_;refine .z 8 rfl (zfa dX) ?_;refine .y 9 rfl hs af ?_;refine .z 10 rfl (zbd [_,_] gq) ?_
    refine .E 1 hs ?_
    refine .call Tryz.call94 rfl (fO (s:=s) hs r1 r2 ⟨ak,ak⟩) ?_;rintro _ w ⟨rfl,hs⟩
    refine .go ?_
    refine .z 2 rfl cf ?_
    refine .E 5 hs ?_
    refine .call Tryz.call96 rfl (gR (rs:=R) hs r3 ak) ?_;rintro v168 w ⟨Hw,hlew,hT,hs⟩
    refine .go ?_
    refine .E 11 hs ?_
    refine .call Tryz.call95 rfl (js (t:=r.td) hs hT (by rw [hRt];omega)) ?_;rintro _ w ⟨rfl,hs⟩
    rw [q1]
    refine .go ?_
    refine .z 12 rfl cf ?_;refine .z 13 rfl zg ?_;refine .D hs ?_
    refine .seq (.draw mix rfl hs fun w hs=>?_)
    refine .z 0 rfl (zia 4 gD aj) ?_
    refine .y 1 rfl hs af ?_;refine .z 2 rfl Hf ?_;refine .z 3 rfl (zfa df) ?_;refine .y 4 rfl hs af ?_;refine .z 5 rfl kS ?_;refine .z 6 rfl cf ?_;refine .z 8 rfl (zfa df) ?_;refine .y 9 rfl hs af ?_
    refine .E 7 hs ?_
    refine .call fT rfl (cP hs ak) ?_;rintro _ w ⟨k183,g183,rfl,hs⟩
    refine .go ?_
    refine .z 10 rfl gZ ?_;refine .z 11 rfl zg ?_;refine .D hs ?_
    refine .draw mix rfl hs fun w hs=>?_
    refine .z 0 rfl (zfa br) ?_;refine .y 1 rfl hs cS ?_;refine .z 2 rfl zm ?_;refine .z 3 rfl zm ?_;refine .z 4 rfl zm ?_
    have hs:=back hlew hs
    refine .ixX (enc:=fun x=>[I x]) (i:=5) hs rfl aq .none hX rfl rfl ae aj (bF (l:=x) (i:=u) ak) rfl ?_;intro b192 o192 hc192;replace hc192:=bO.one hc192
    refine .r (i:=6) hs rfl aq .none (aR rfl af hc192) ?_
    refine .z 7 rfl zm ?_;refine .z 8 rfl zm ?_
    refine .ixX (enc:=fun x=>[I x]) (i:=9) hs rfl aq .none hX rfl rfl ae aj (bF (l:=x) (i:=s.many+1+q) ak) (by push_cast;rfl) ?_;intro b196 o196 hc196;replace hc196:=bO.one hc196
    refine .r (i:=10) hs rfl aq .none (aR rfl af hc196) ?_
    refine .z 11 rfl gZ ?_;refine .z 12 rfl zm ?_;refine .z 13 rfl cf ?_
    first|(refine .ixw 14 rfl hs aN aW ?_;intro b201 o201 hc201)|refine .z 14 rfl (AV aN aW) ?_
    refine .z 15 rfl (zfa dZ) ?_
    refine .E 16 hs ?_
    refine .store (c':=(rdc (R.set k {r with val:=gi x u - gi x (s.many+1+q)+((k183:Int) - r.tol)})).flatten++sp) hs rfl rfl aj ?_ e7 (Nat.ble_eq_true_of_le (by rw [List.length_append,cK _ (qV _),fc];omega)) (zk hr sp _);intro w hs
    refine .go ?_
    refine .D hs ?_
    refine nB (nT ?_)
    refine .region (.z zm (.z cf (.z zg (.nil ?_))))
    refine nT ?_
    exact ⟨(k+1,R.set k {r with val:=gi x u - gi x (s.many+1+q)+((k183:Int) - r.tol)}),.dA rfl bV bD,⟨by dsimp only;omega,by dsimp only;rw [List.length_set];exact hRl,by dsimp only;rw [xx hr];exact hRt,fun y hy=>by
      rcases List.mem_or_eq_of_mem_set hy with h|h
      ·exact hRs y h
      ·subst h;exact ⟨hrst,hrwa,hrtol⟩,fun j hj y hy=>by
      dsimp only at hj hy
      by_cases e:j=k
      ·subst e
       rw [List.getElem?_set_self ak] at hy
       obtain rfl:=Option.some.inj hy
       have q1':iU (aK rs) r.td=q:=by rw [←hRt];exact q1
       unfold Dq
       show gi x (1+r.st*s.wa.length+r.wa).toNat - gi x (s.many+1+iU (aK rs) r.td).toNat - r.tol≤_∧_≤gi x (1+r.st*s.wa.length+r.wa).toNat - gi x (s.many+1+iU (aK rs) r.td).toNat+r.tol
       rw [hu1,q1',show ((s.many:Int)+1+(q:Int)).toNat=s.many+1+q by omega,Int.toNat_natCast]
       dsimp only
       omega
      ·rw [List.getElem?_set_ne ak] at hy
       exact hRv j ak y hy,_,EA hO3 _,hs.sb⟩,by dsimp only;omega⟩
   ·refine .exit ?_
    refine xT (xT (xB (nT ?_)))
    refine .ai (.y hs (zls [_,_,_,_,_,_,_,_] aJ aB) (.z zm ?_))
    obtain rfl:k=rs.length:=by omega
    obtain ⟨Hx,hlex,r1,r2,r3,r4,hs2,back⟩:=F2.zy (s:=⟨s,R,cs⟩) ⟨hO1,hO2,hO3,hO4⟩ (by show s.st.length≤_;omega) (by show s.wa.length≤_;omega) (by show R.length≤_;omega) (by show cs.length≤_;omega) hs
    refine .o (.call Tryz.call97 rfl (pM (s:=⟨s,R,cs⟩) (x:=x) hs2 r1 r2 r3 ⟨_,_,_,rfl⟩ (hX.mono hlex) (by rw [pK];show _=s.many+(aK R).length+1;rw [hRt];exact hxl) ⟨by show s.st.length≤_;omega,by show s.wa.length≤_;omega,by show R.length≤_;omega⟩) ?_);rintro _ w ⟨Hy,vr',vy,er,ey,hley,rfl,hOr,hOy,hs3⟩
    have hs:=back hley hs3
    clear hs2 hs3 back r1 r2 r3 r4
    have hkl:=tI s R
    obtain ⟨arr,crr,rfl⟩:=hOr.kX (qV _) ak
    obtain ⟨ayy,lyy,cyy,rfl,-⟩:=hOy.shape
    refine .z zex (.z zex ?_)
    refine .o (.aI (vs:=[_,_,_,_,_,_,_,_]) hs rfl rfl aB fun w hs=>?_)
    refine .z zg (.nil ?_)
    refine .ret ?_
    exact Fin.ia [] [] hs fun w hs=>⟨_,results2 Tryz.results31 (di (vs:=[_,_,_,_,_,_,_,_]) hs rfl aJ aB) rfl,Hz,⟨s,gI s R,cs⟩,_,_,_,_,_,_,e1,e2,er,e4,ey,hlez,rfl,
     ⟨hSt,hWa,by show (gI s R).length≤14;omega,hc5,wG hSp.ok hSt hWa ak hc5 (fun r h=>(yg h).2) hcok⟩,⟨hO1,hO2,hOr,hO4⟩,hOy,Bi hfe hx0 hxl hRt hRs (fun r hr=>by
      obtain ⟨j,hj⟩:=List.getElem?_of_mem hr
      have:=(List.getElem?_eq_some_iff.1 hj).1
      exact hRv j ak r hj),hs.sb⟩
end Go.Proofs.YteajddicacjkhaaGreat
namespace Go.Proofs.YteajddicacjkhaaGreat
open Go.MW
theorem ue.uniq{v:Srv}{A B:List Int}{e f:Int}(h:ue v A e)(g:ue v B f):A=B∧e=f:=by
 cases h with
 |bad h he h1=>
  cases g with
  |bad g _ g1=>exact ⟨by rw [h1,g1],h.uniq g⟩
  |ok g _=>exact (he (h.aP.2 g)).elim
 |ok h h1=>
  cases g with
  |bad g ge _=>exact (ge (g.aP.2 h)).elim
  |ok _ g1=>exact h1.uniq g1
end Go.Proofs.YteajddicacjkhaaGreat
namespace Go.Proofs.YteajddicacjkhaaGreat
open Go.MW
variable{H:bB}{w:World}{σ:List Ent}
set_option maxHeartbeats 4000000 in
theorem ml{s:Srv}{rows:List (List Int)}{vst vwa vr vc vh:Value}(hs:St H w σ)(h1:RI H vst s.sp.st)(h2:RI H vwa s.sp.wa)(h3:RRd H vr s.rs)(h4:RCm H vc s.cs)(hh:RT H vh rows):
  Cl Tryz.prog 65 [.agg #[I s.sp.id,I s.sp.src,vst,vwa,I s.sp.al,I s.sp.up,vr,vc],.agg #[vh]] w fun u w'=>∃H1 e,HLe H H1∧u=I e∧BI s rows e∧St H1 w' σ:=by
 obtain ⟨ast,cst,rfl⟩:=RI.shape h1
 obtain ⟨awa,cwa,rfl⟩:=RI.shape h2
 obtain ⟨ar,cr,rfl⟩:=RRd.shape h3
 obtain ⟨ac,cc,rfl⟩:=RCm.shape h4
 obtain ⟨ah,ch,rfl⟩:=hh.shape
 refine Cl.o Tryz.func65 Tryz.ntmps65 ag2 ?_
 refine .ai ?_
 refine .bx hs fun b2 w hs=>?_
 refine .bx hs fun b3 w hs=>?_
 refine .z zg (.nil (.seq (.ai (.y hs (zls [_,_,_,_,_,_,_,_] aJ aB) ?_))))
 refine .o (.call JS rfl (eM (s:=s) hs h1 h2 h3 h4) ?_);rintro _ w ⟨H1,e,hle1,rfl,hC,hs⟩
 refine .z zg (.nil (.ai (.z zm (.z gE (.nil ?_)))))
 refine (.ep rfl (fun hc16=>?_) (fun hc16=>?_))
 ·refine .ai (.z zm (.z zg (.nil ?_)))
  refine .ret (rT (?_))
  exact Fin.bw Tryz.results65 rfl ⟨H1,_,hle1,rfl,.bad hC hc16,hs.out⟩
 ·refine .skip ?_
  refine nT ?_
  refine .seq (.ai (.z (zfa bC) (.y hs (zls [_,_,_,_,_,_] aT aF) (.y hs (zls [_] Tryz.isAgg64 yR) ?_))))
  have hok:cI s:=hC.aP.1 (by simpa using hc16)
  have hsm:=eL hok.early.1
  have hrl:=hok.early.2.1
  refine .o (.call Tryz.call129 rfl (j5 (s:=s.sp) hs (h1.mono hle1) (h2.mono hle1) (hh.mono hle1)) ?_);rintro _ w ⟨H2,b21,hle2,rfl,hb21,hs⟩
  have hle02:=hle1.trans hle2
  refine .z gy (.nil ?_)
  refine (.cond rfl (fun hc22=>?_) (fun hc22=>?_))
  ·refine .ai (.z zg (.nil ?_))
   refine .ret (rT (?_))
   exact Fin.bw Tryz.results65 rfl ⟨H2,_,hle02,rfl,.hull hok (fun h=>by rw [hb21.2 h] at hc22;cases hc22),hs.out⟩
  ·refine .skip ?_
   refine nT ?_
   refine .ai (.y hs (zls [_,_,_,_,_,_,_,_] aJ aB) ?_)
   have hhull:jJ s.sp rows:=hb21.1 (by simpa using hc22)
   have hll:=hok.bL
   have hmm:=hok.many
   refine .o (.call JR rfl (ez (s:=s) hs (h1.mono hle02) (h2.mono hle02) (h3.mono hle02) (h4.mono hle02) hok.early) ?_);rintro _ w ⟨H3,hle3,⟨ul,rfl,hL⟩,hs⟩
   obtain ⟨al,cl,rfl⟩:=RL.shape hL
   have hle03:=hle02.trans hle3
   have hbd:=fun b hb=>FN (b:=b) hhull hb
   have hlim:=fun l hl=>hok.sys.lim l hl
   refine .o (.alloc hs dz rfl fun b6 w hs=>?_)
   refine .o (.aI (vs:=[_,_]) hs rfl rfl aE fun w hs=>?_)
   refine .nil (.ai ?_)
   refine .o (.buildSlice (cells:=[_]) hs cA rfl rfl fun b25 w hs=>?_)
   refine .o (.alloc hs ef rfl fun b7 w hs=>?_)
   refine .o (.store hs rfl rfl aA fun w hs=>?_)
   refine .nil (.seq (.ai (.z (zfa bC) (.y hs (zls [_,_,_,_,_,_] aT aF) ?_))))
   refine .o (.call BD rfl (eJ (s:=s.sp) hs (h1.mono hle03) (h2.mono hle03) ⟨ak,ak⟩) ?_);rintro _ w ⟨H4,ba,hle4,rfl,hit,hs⟩
   have hle04:=hle03.trans hle4
   refine .nil (.block ?_)
   refine .rangeFunc (gf:=188) (cap:=[.pointer (some ⟨ba,0,none⟩)]) (xs:=vI s.sp) (σb:=[.blk b7 [.slice (some ⟨b25,0,none⟩) 1 1],.blk b25 (Is [0]),.blk b6 [I s.sys.many,.slice al s.bL.length cl],.blk b3 [.slice ah rows.length ch]]) (σf:=σ) (hs.sb) trivial rfl hit BC (fun x hx=>by
     simp only [vI,List.mem_map] at hx
     obtain ⟨j,_,rfl⟩:=hx;rfl) rfl
    (I:=fun p H' σb=>∃vo en,σb=[.blk b7 [vo],en,.blk b6 [I s.sys.many,.slice al s.bL.length cl],.blk b3 [.slice ah rows.length ch]]∧bU 1 vo (Is (xl1 s (gt rows) (p+1))) en) (Ix:=fun _ _ _=>False)
    (fun j _ _ σ g1 g2=>g2) (fun _ _ _ _ _ h=>h) ⟨_,_,rfl,.full rfl⟩ ?_ ?_ (fun D c H' σb w _ h _=>h.elim)
   ·rintro ly p hp H5 σb2 σf2 w hle5 ⟨vo,en,rfl,hO⟩ hs ⟨rr,hrr⟩
    have hpm:p<s.sp.many:=by rw [dD] at hp;exact hp
    have hin:p/s.sp.wa.length<s.sp.st.length:=Nat.div_lt_of_lt_mul (by rw [Nat.mul_comm];exact hpm)
    have hkm:=Nat.mod_lt p hsm.2.2.1
    have hval:hpt s.sp (gt rows) (p+1)=gi (gr rows (p/s.sp.wa.length)) (p%s.sp.wa.length):=rfl
    have hrow:=hhull.row _ hin
    have hrlen:=hhull.len
    have hr5:=hh.mono (hle04.trans hle5)
    rw [lO hp]
    obtain ⟨ao,lo,co,rfl,hlo⟩:=hO.shape
    have hxl:=kT s (gt rows) (p+1)
    generalize p/s.sp.wa.length=i at*
    generalize p%s.sp.wa.length=k at*
    refine .region ?_
    refine .o (.alloc hs jQ rfl fun b8 w hs=>?_)
    refine .o (.aI (vs:=[_,_,_]) hs rfl rfl nX fun w hs=>?_)
    refine .nil ?_
    refine nT ?_
    refine ⟨H5,[.blk b8 [I (i:Int),I (k:Int),I ((p+1:Nat):Int)],.blk b7 [.slice ao lo co],en,.blk b6 [I s.sys.many,.slice al s.bL.length cl],.blk b3 [.slice ah rows.length ch]],HLe.refl _,hs,?_⟩;rintro w σf4 - hs
    refine .block ?_
    refine .draw mix rfl hs fun w hs=>?_
    refine .y 0 rfl hs an ?_;refine .z 1 rfl (zfa jL) ?_;refine .y 2 rfl hs uj ?_;refine .z 3 rfl (zfa cM) ?_;refine .y 4 rfl hs af ?_
    refine .ixT (i:=5) hs rfl aq .none hr5 rfl rfl aC aA (show i<_ by omega) dn ?_;intro b35 o35 a35 c35 hc35 hR35
    refine .r (i:=6) hs rfl aq .none (aR rfl an hc35) ?_
    refine .z 7 rfl (zfa ck) ?_;refine .y 8 rfl hs af ?_
    refine .ixX (enc:=fun x=>[I x]) (i:=9) hs rfl aq .none hR35 rfl rfl ae aj (bF (l:=(gr rows i)) (i:=k) ak) dn ?_;intro b39 o39 hc39;replace hc39:=bO.one hc39
    refine .r (i:=10) hs rfl aq .none (aR rfl af hc39) ?_
    refine .E 11 hs ?_
    refine .buildSlice (cells:=[_]) hs cA rfl rfl ?_;intro b41 w hs
    refine .go ?_
    refine .E 12 hs ?_
    refine .append (ys:=Is [gi (gr rows i) k]) hs cn rfl rfl hO (.own (c:=Is [gi (gr rows i) k]) (by first|exact .here|exact .there .here) rfl rfl) (iX _) (fun l h=>by simp at h;omega) ?_;intro v42 en42 w hO2 hs
    rw [←List.map_append,←hval,←DW] at hO2
    obtain ⟨a42,l42,c42,rfl,h42⟩:=hO2.shape
    refine .go ?_
    refine .E 13 hs ?_
    refine .store hs rfl rfl aA ?_;intro w hs
    refine .go ?_
    refine .D hs ?_
    refine nB ?_
    exact ⟨H5,[.blk b7 [.slice a42 l42 c42],en42,.blk b6 [I s.sys.many,.slice al s.bL.length cl],.blk b3 [.slice ah rows.length ch]],HLe.refl _,(hs.sb:St H5 w (.blk b7 _::en42:: .blk b6 _:: .blk b3 _::σf4)),_,_,rfl,hO2⟩
   ·rintro D H5 σb2 w hle5 ⟨vo,en,rfl,hO⟩ hs
    rw [dD] at hO
    replace hs:St H5 w (.obj D (.deferred (some [])):: .blk b7 [vo]::en:: .blk b6 [I s.sys.many,.slice al s.bL.length cl]:: .blk b3 [.slice ah rows.length ch]::σ):=hs
    obtain ⟨ao,lo,co,rfl,hlo⟩:=hO.shape
    have hxl:=kT s (gt rows) (s.sp.many+1)
    have hlo':lo=s.sp.many+1:=by simp [Is] at hlo;omega
    subst hlo'
    have hL5:=hL.mono (hle4.trans hle5)
    have hleF:=hle04.trans hle5
    refine nB (nT ?_)
    refine .seq (.ai (.y hs (zld an) (.z (cZ ae) (.z zg (.nil (.block ?_))))))
    refine .loop (fun j:Nat=>⟨81,marks [D],[(9,I ((s.sp.many+1+j:Nat):Int)),(7,.pointer (some ⟨b7,0,none⟩)),(6,.pointer (some ⟨b6,0,none⟩))]⟩)
     (fun j w=>j≤s.bq.length∧∃ax cx en,bU 1 (.slice ax (s.sp.many+1+j) cx) (Is (xl1 s (gt rows) (s.sp.many+1)++xl2 s (gt rows) j)) en∧St H5 w (.obj D (.deferred (some [])):: .blk b7 [.slice ax (s.sp.many+1+j) cx]::en:: .blk b6 [I s.sys.many,.slice al s.bL.length cl]::σ)) (fun j=>s.bq.length - j) 0 bD
     ⟨Nat.zero_le _,_,_,_,by show bU 1 _ (Is (_++[])) _;rw [List.append_nil];exact hO,hs.sb⟩ ?_
    clear hs hO
    rintro j w ⟨hj,ax,cx,en,hO,hs⟩
    have hsys:s.sys.many=((s.sp.many+s.bq.length:Nat):Int):=rfl
    have hx2:=uR s (gt rows) j
    have hxall:(xl1 s (gt rows) (s.sp.many+1)++xl2 s (gt rows) j).length=s.sp.many+1+j:=by rw [List.length_append,hxl,hx2]
    refine .seq (.ai (.z zm (.z (zfa bM) (.y hs (zld af) (.z um (.nil ?_))))))
    refine (.bT rfl (fun hc48=>?_) (fun hc48=>?_))
    ·refine .skip ?_
     refine nT ?_
     refine .seq (.block (.ai (.z zg (.nil (.seq (.ai (.z (zfa bJ) (.y hs (zld cu) (.z (cZ aH) ?_)))))))))
     refine .z zm (.nil ?_)
     refine .for (N:=s.bL.length) (J:=fun k fr w=>fr=[(10,I (uo (hpt s.sp (gt rows)) (s.sp.many+1+j:Nat) (s.bL.take k))),(52,.slice al s.bL.length cl),(9,I ((s.sp.many+1+j:Nat):Int)),(7,.pointer (some ⟨b7,0,none⟩)),(6,.pointer (some ⟨b6,0,none⟩))]∧St H5 w (.obj D (.deferred (some [])):: .blk b7 [.slice ax (s.sp.many+1+j) cx]::en:: .blk b6 [I s.sys.many,.slice al s.bL.length cl]::σ)) ak ?_ ?_ ?_
     ·exact .mk ⟨rfl,hs⟩
     ·rintro k fr w hk ⟨rfl,hs⟩
      obtain ⟨l,hx⟩:=nth (l:=s.bL) hk
      have hlm:=List.mem_of_getElem? hx
      obtain ⟨⟨gA,gB⟩,hsd⟩:=mO hok.early hlm
      have hM:=(hlim l hlm).2.2.2.1
      obtain ⟨eB,hB⟩:∃b:Nat,l.B=b:=⟨_,(Int.toNat_of_nonneg gB).symm⟩
      have hB1:l.B.toNat=eB:=by rw [hB,Int.toNat_natCast]
      rw [hB1] at hsd
      have hbl:=zw (hpt s.sp (gt rows)) (s.sp.many+1+j:Nat) (s.bL.take k)
      refine .block (.ai ?_)
      refine .ixX (enc:=Lim.c) hs hL5 rfl rfl aH aQ hx rfl ?_;intro b56 o56 hc56
      refine .q hs (bK (vs:=l.c) rfl eE aQ hc56) ?_
      refine .o (.alloc hs dy rfl fun b12 w hs=>?_)
      refine .o (.aI (vs:=l.c) hs rfl rfl aQ fun w hs=>?_)
      refine .nil (.ai (.z (zfa dC) (.y hs (zld af) (.z zm (.z jU (.nil ?_))))))
      refine (.bT rfl (fun hc61=>?_) (fun hc61=>?_))
      ·refine .draw mix rfl hs fun w hs=>?_
       have hbB:=hbd eB ak
       obtain ⟨bo,co',sp,hv,rfl,hcap⟩:=hO.blk (by rw [hxall];omega)
       simp only [Value.slice.injEq] at hv
       obtain ⟨rfl,-,rfl⟩:=hv
       have hgx:gi (xl1 s (gt rows) (s.sp.many+1)++xl2 s (gt rows) j) eB=hpt s.sp (gt rows) eB:=vQ s _ _ ak
       refine .z 0 rfl zm ?_;refine .y 1 rfl hs an ?_;refine .z 2 rfl (zfa dN) ?_;refine .y 3 rfl hs af ?_
       rw [hB]
       refine .z 4 rfl (zix (j:=eB) ae aj) ?_
       refine .load (i:=5) hs rfl aq .none rfl af ?_ (hv:=eR ak sp)
       rw [hgx]
       refine .z 6 rfl (zfa eV) ?_;refine .y 7 rfl hs af ?_;refine .z 8 rfl gZ ?_;refine .z 9 rfl DP ?_;refine .z 10 rfl zg ?_;refine .D hs ?_
       refine nB (nT ?_)
       exact .mk ⟨by rw [cC hx,tF,if_pos ak,hB1],hs.sb⟩
      ·refine .skip ?_
       refine nB (nT ?_)
       exact .mk ⟨by rw [cC hx,tF,if_neg ak],hs.sb⟩
     ·rintro fr w ⟨rfl,hs⟩
      rw [List.take_length]
      refine nT ?_
      refine .region (.y hs (zld an) (.z zm ?_))
      refine .o (.buildSlice (cells:=[_]) hs cA rfl rfl fun b75 w hs=>?_)
      refine .o (.append (ys:=Is [uo (hpt s.sp (gt rows)) (s.sp.many+1+j:Nat) s.bL]) hs cn rfl rfl hO (.own .here rfl rfl) (iX _) (fun l h=>by simp only [Is,List.length_map,hxall] at h;omega) ?_);intro v76 en76 w hO2 hs
      rw [←List.map_append,List.append_assoc,←DV] at hO2
      obtain ⟨a76,c76,rfl⟩:=hO2.z8
      have hx3:(xl1 s (gt rows) (s.sp.many+1)++xl2 s (gt rows) (j+1)).length=s.sp.many+1+(j+1):=by rw [List.length_append,hxl,uR]
      rw [hx3] at hO2 ⊢
      refine .o (.store hs rfl rfl aA fun w hs=>?_)
      refine .nil ?_
      refine nB (nT ?_)
      refine .region (.z zm (.z cf (.z zg (.nil ?_))))
      refine nT ?_
      exact ⟨j+1,.dA rfl (by simp;omega) bD,⟨ak,_,_,_,hO2,hs.sb⟩,ak⟩
    ·refine .exit ?_
     refine xT (xT (xB (nT ?_)))
     refine .seq (.ai (.y hs (zls [_,_] bg aE) (.y hs (zld an) ?_)))
     obtain rfl:j=s.bq.length:=by omega
     obtain ⟨H6,hle6,hX,hs⟩:=bU.dM hO (by rw [hxall];omega) hs e7
     refine .o (.call Tryz.call134 rfl (ng (s:=s.sys) hs ⟨_,rfl,hL5.mono hle6⟩ hX) ?_);rintro _ w ⟨e79,rfl,hP,hs⟩
     have hn:=pK s
     have hkeep:nm s.sys (xl1 s (gt rows) (s.sp.many+1)++xl2 s (gt rows) s.bq.length)↔∃f,Kp s (gt rows) f:=by
      rw [←DU hok]
      refine ⟨fun h=>h.wP,fun h=>⟨by rw [hxall,hn];omega,by rw [vQ s _ _ ak];rfl,fun b hb=>?_,h⟩⟩
      rw [hn] at hb
      by_cases e:b<s.sp.many+1
      ·rw [vQ s _ _ e]
       have:=hbd b ak
       omega
      ·rw [show b=s.sp.many+1+(b - (s.sp.many+1)) by omega,zY s _ ak]
       have g1:=zw (hpt s.sp (gt rows)) (s.sp.many+1+(b - (s.sp.many+1)):Nat) s.bL
       have g2:=EP hok hhull (b - (s.sp.many+1))
       omega
     refine .z gE (.nil ?_)
     refine (.ep rfl (fun hc80=>?_) (fun hc80=>?_))
     ·refine .ai (.z zg (.nil ?_))
      refine .ret (rT (?_))
      refine Fin.ia [D] [] hs fun w hs=>⟨_,results1 Tryz.results65 rfl,H6,_,hleF.trans hle6,rfl,.no hok hhull (fun h=>hc80 ?_),hs.out⟩
      cases hP with
      |bad h=>exact (h (s.sys.aP.2 hok.sys)).elim
      |off _ h1=>exact (h1 (hkeep.2 h)).elim
      |ok=>rfl
     ·refine .skip ?_
      refine nT ?_
      refine .ai (.z zg (.nil ?_))
      refine .ret ?_
      refine Fin.ia [D] [] hs fun w hs=>⟨_,results1 Tryz.results65 rfl,H6,_,hleF.trans hle6,rfl,.ok hok hhull (hkeep.1 ?_),hs.out⟩
      cases hP with
      |bad h=>exact (h (s.sys.aP.2 hok.sys)).elim
      |off _ h1=>omega
      |ok _ h1=>exact h1
end Go.Proofs.YteajddicacjkhaaGreat
namespace Go.Proofs.YteajddicacjkhaaGreat
open Go.MW
def DD(q:Wht)(high:Bool)(n m:Int):Prop:=if high=true then m/qB q≤n else n≤-m/qB q
inductive yN(v:Srv)(q:Wht)(high:Bool)(n m:Int)(us:List Use):Int→Prop
 |bad {e:Int} (h:rR v e) (he:e≠0):yN v q high n m us e
 |what (h:cI v) (h1:¬eI v.sp q):yN v q high n m us 33
 |prf (h:cI v) (h1:eI v.sp q) (h2:¬pv v.sys (Iv (v.w q) high) m us):yN v q high n m us 24
 |off (h:cI v) (h1:eI v.sp q) (h2:pv v.sys (Iv (v.w q) high) m us) (h3:¬DD q high n m):yN v q high n m us 36
 |ok (h:cI v) (h1:eI v.sp q) (h2:pv v.sys (Iv (v.w q) high) m us) (h3:DD q high n m):yN v q high n m us 0
theorem yN.uniq{v:Srv}{q:Wht}{high:Bool}{n m:Int}{us:List Use}{e f:Int}(h:yN v q high n m us e)(g:yN v q high n m us f):e=f:=by
 cases h with
 |bad h he=>
  cases g with
  |bad g _=>exact h.uniq g
  |what g _=>exact (he (h.aP.2 g)).elim
  |prf g _ _=>exact (he (h.aP.2 g)).elim
  |off g _ _ _=>exact (he (h.aP.2 g)).elim
  |ok g _ _ _=>exact (he (h.aP.2 g)).elim
 |what h h1=>cases g with|bad g ge=>exact (ge (g.aP.2 h)).elim|_=>first|rfl|contradiction
 |prf h h1 h2=>cases g with|bad g ge=>exact (ge (g.aP.2 h)).elim|_=>first|rfl|contradiction
 |off h h1 h2 h3=>cases g with|bad g ge=>exact (ge (g.aP.2 h)).elim|_=>first|rfl|contradiction
 |ok h h1 h2 h3=>cases g with|bad g ge=>exact (ge (g.aP.2 h)).elim|_=>first|rfl|contradiction
theorem Ex{v:Srv}(h:cI v){ws:List Int}{m:Int}{us:List Use}(hp:pv v.sys ws m us): -4608000000000000000≤m∧m≤4608000000000000000:=by
 have h1:=Fk h.sys hp.use
 have h2:=hp.tot
 have h3:=hp.bound
 omega
def FZ(s:Srv)(q:Wht)(high:Bool)(n:Int)(us:List Use):Prop:=pv s.sys (Iv (s.w q) high) n us∧pw s.sys (Iv (s.w q) high) n 0
theorem sD.same{v:Srv}{q:Wht}{lo hi e f:Int}(h:sD v q e)(g:xa v q lo hi f):e=f:=by
 by_cases e0:e=0
 ·subst e0
  obtain ⟨h1,h2,h3⟩:=h.zero
  cases g with
  |bad g ge=>exact (ge (g.aP.2 h1)).elim
  |what _ g=>exact (g h2).elim
  |fls _ _ g=>exact (g h3).elim
  |ok=>rfl
 ·exact ((h.qty e0).uniq g).2.2
theorem FZ.bd{v:Srv}{q:Wht}{high:Bool}{n e:Int}{us:List Use}(h0:e≠0→n=0∧us=[])(hA:sD v q e)(h:e=0→FZ v q high n us):us.length≤400∧-5000000000000000000≤n∧n≤5000000000000000000:=by
 by_cases e0:e=0
 ·subst e0
  have h1:=Ex hA.zero.1 (h rfl).1
  exact ⟨(h rfl).1.len,ak⟩
 ·obtain ⟨rfl,rfl⟩:=h0 e0
  exact ⟨bV,ak⟩
end Go.Proofs.YteajddicacjkhaaGreat
namespace Go.Proofs.YteajddicacjkhaaGreat
open Go.MW
variable{H:bB}{w:World}{σ:List Ent}
theorem uw{vs v5 v4 vp:Value}{sl pk:List Int}{fs5:List F5}{fs4:List F4}{z1 z2 z3:Int}(hs:St H w σ)(g1:RI H vs sl)(g2:RF5 H v5 fs5)(g3:RF4 H v4 fs4)(g4:RI H vp pk):
  Cl Tryz.prog 31 [.agg #[vs,v5,v4,vp,I z1,I z2,I z3]] w fun u w'=>∃H1 s y vst vwa vr vc vy,HLe H H1∧u= .tuple #[.agg #[I s.sp.id,I s.sp.src,vst,vwa,I s.sp.al,I s.sp.up,vr,vc],vy]∧Dt s∧qx s y∧RI H1 vst s.sp.st∧RI H1 vwa s.sp.wa∧RRd H1 vr s.rs∧RCm H1 vc s.cs∧RI H1 vy y∧St H1 w' σ:=by
 refine (ux hs g1 g2 g3 g4).mono ?_
 rintro _ w ⟨H3,m,y,ust,uwa,ur,uc,uy,e1,e2,e3,e4,e5,hle3,rfl,hM,hOV,hOy,hK,hs⟩
 have hst4:=hM.st
 have hwa3:=hM.wa
 have hmr:=hM.rs
 have hmc:=hM.cs
 obtain ⟨H4,hle4,r1,r2,r3,r4,hs,-⟩:=F2.zy hOV ak ak ak ak hs
 obtain ⟨hyl,-,hyb⟩:=hK.bd
 have hmt:=hM.ok.many
 obtain ⟨H5,hle5,hY,hs⟩:=bU.dM hOy ak hs .here
 exact ⟨H5,m,y,_,_,_,_,_,hle3.trans (hle4.trans hle5),rfl,hM,hK,r1.mono hle5,r2.mono hle5,r3.mono hle5,r4.mono hle5,hY,hs⟩
end Go.Proofs.YteajddicacjkhaaGreat
