/-
  Texts of these claims, joined: Ze Zf Zg Zh Zi Zj Zk Zl Zm Zn Zo Zp Zt Zv Zx Zy Zz Na.
-/
import Derived.Test.YteajddicacjkhaaGreatCc
namespace Go.Proofs.YteajddicacjkhaaGreat
open Go.MW
variable{H:bV}{w:World}{σ:List Ent}
theorem bF{a0 a1 a2:Int}(hs:St H w σ):Cl Tryz.prog 164 [I a0,I a1,I a2] w fun v w'=>v= .bool (decide (a1≤a0∧a0≤a2))∧St H w' σ:=by
 refine Cl.o Tryz.func164 Tryz.ntmps164 ag3 ?_
 refine .aj (.z zg (.nil (.aj (.z zm (.z zm (.z oF (.z zm ?_)))))))
 refine .iW (t':=10) rfl (fun hb10=>?_) (fun hb10=>?_)
 ·refine .gT rfl rfl ?_
  refine .z zm ?_
  refine .gT rfl rfl ?_
  refine .z zm ?_
  refine .gT rfl rfl ?_
  refine .z oF (.z zpT (.z zg (.nil ?_)))
  refine .ret (Fin.bE Tryz.results164 rfl ?_)
  exact ⟨by simp [*],hs.out⟩
 ·refine .gFs 3 3 true rfl rfl rfl ?_
  refine .z zpF (.z zg (.nil ?_))
  refine .ret (Fin.bE Tryz.results164 rfl ?_)
  exact ⟨by simp [*],hs.out⟩
theorem iy{a0:Int}(hs:St H w σ):Cl Tryz.prog 165 [I a0] w fun v w'=>v= .bool (decide (1≤a0∧a0≤99999))∧St H w' σ:=by
 refine Cl.o Tryz.func165 Tryz.ntmps165 ag1 ?_
 refine .aj (.z zg (.nil (.aj (.z zm ?_))))
 refine .o (.call dK rfl (bF hs) ?_);rintro _ w ⟨rfl,hs⟩
 refine .z zg (.nil ?_)
 refine .ret (Fin.bE Tryz.results165 rfl ?_)
 exact ⟨rfl,hs⟩
def Spc.agg(s:Spc)(vst vwa:Value):Value:= .agg #[I s.id,I s.src,vst,vwa,I s.al,I s.up]
theorem fa{s:Spc}{vst vwa:Value}(hs:St H w σ)(h1:RI H vst s.st)(h2:RI H vwa s.wa):
  Cl Tryz.prog 111 [.agg #[I s.id,I s.src,vst,vwa,I s.al,I s.up]] w fun v w'=>∃H1 e,HLe H H1∧v=I e∧((eI s∧e=0)∨(¬eI s∧e=30))∧St H1 w' σ:=by
 obtain ⟨ast,cst,rfl⟩:=RI.shape h1
 obtain ⟨awa,cwa,rfl⟩:=RI.shape h2
 refine Cl.o Tryz.func111 Tryz.ntmps111 ag1 ?_
 refine .aj ?_
 refine .bx hs fun b1 w hs=>?_
 refine .z zg (.nil (.seq (.aj (.z (zfa bP) (.y hs (zld an) (.z (zfa a8) (.y hs (zld an) ?_)))))))
 refine .o (.call Tryz.call163 rfl (nz hs h1 h2) ?_);rintro _ w ⟨H1,vo,e,hle1,rfl,hG,hG',hs⟩
 refine .z zm (.z zex (.z zex (.z zg (.z zg (.nil (.aj (.z zm (.z gS (.z zm ?_)))))))))
 refine .B3 (t':=15) rfl (fun hb15=>?_) (fun hb15=>?_)
 ·refine .gFs 4 2 false rfl rfl rfl ?_
  refine .z zpT (.z zm ?_)
  refine .gFs 4 8 false rfl rfl rfl ?_
  refine .z zpT (.z zm ?_)
  refine .gFs 5 14 false rfl rfl rfl ?_
  refine .z zpT (.z zm ?_)
  refine .gFs 5 21 false rfl rfl rfl ?_
  refine .z zpT (.nil ?_)
  refine (.cT ?_)
  refine .aj (.z zg (.nil ?_))
  refine .ret (rT (Fin.bE tF rfl ?_))
  exact ⟨H1,_,hle1,rfl,.inr ⟨fun h=>by have:=(hG ⟨h.st,h.wa⟩).1;simp_all,rfl⟩,hs.out⟩
 ·refine .gT rfl rfl ?_
  refine .z (zfa lU) ?_
  refine .gT rfl rfl ?_
  refine .y hs (zld ae) ?_
  refine .gT rfl rfl ?_
  refine .o (.call dK rfl (bF hs) ?_);rintro _ w ⟨rfl,hs⟩
  refine .gT rfl rfl ?_
  refine .z fW (.z zpF (.z zm ?_))
  refine .bif (t':=21) rfl (fun hb21=>?_) (fun hb21=>?_)
  ·refine .gFs 4 8 false rfl rfl rfl ?_
   refine .z zpT (.z zm ?_)
   refine .gFs 5 14 false rfl rfl rfl ?_
   refine .z zpT (.z zm ?_)
   refine .gFs 5 21 false rfl rfl rfl ?_
   refine .z zpT (.nil ?_)
   refine (.cT ?_)
   refine .aj (.z zg (.nil ?_))
   refine .ret (rT (Fin.bE tF rfl ?_))
   exact ⟨H1,_,hle1,rfl,.inr ⟨fun h=>by have:=h.id;simp_all,rfl⟩,hs.out⟩
  ·refine .gT rfl rfl ?_
   refine .z (zfa dM) ?_
   refine .gT rfl rfl ?_
   refine .y hs (zld ae) ?_
   refine .gT rfl rfl ?_
   refine .o (.call Tryz.call165 rfl (iy hs) ?_);rintro _ w ⟨rfl,hs⟩
   refine .gT rfl rfl ?_
   refine .z fW (.z zpF (.z zm ?_))
   refine .bif (t':=27) rfl (fun hb27=>?_) (fun hb27=>?_)
   ·refine .gFs 5 14 false rfl rfl rfl ?_
    refine .z zpT (.z zm ?_)
    refine .gFs 5 21 false rfl rfl rfl ?_
    refine .z zpT (.nil ?_)
    refine (.cT ?_)
    refine .aj (.z zg (.nil ?_))
    refine .ret (rT (Fin.bE tF rfl ?_))
    exact ⟨H1,_,hle1,rfl,.inr ⟨fun h=>by have:=h.src;simp_all,rfl⟩,hs.out⟩
   ·refine .gT rfl rfl ?_
    refine .z (zfa dY) ?_
    refine .gT rfl rfl ?_
    refine .z (zfa jC) ?_
    refine .gT rfl rfl ?_
    refine .y hs (zld ae) ?_
    refine .gT rfl rfl ?_
    refine .o (.call dK rfl (bF hs) ?_);rintro _ w ⟨rfl,hs⟩
    refine .gT rfl rfl ?_
    refine .z fW (.z zpF (.z zm ?_))
    refine .bif (t':=34) rfl (fun hb34=>?_) (fun hb34=>?_)
    ·refine .gFs 5 21 false rfl rfl rfl ?_
     refine .z zpT (.nil ?_)
     refine (.cT ?_)
     refine .aj (.z zg (.nil ?_))
     refine .ret (rT (Fin.bE tF rfl ?_))
     exact ⟨H1,_,hle1,rfl,.inr ⟨fun h=>by have:=h.al;simp_all,rfl⟩,hs.out⟩
    ·refine .gT rfl rfl ?_
     refine .z (zfa dY) ?_
     refine .gT rfl rfl ?_
     refine .z (zfa jB) ?_
     refine .gT rfl rfl ?_
     refine .y hs (zld ae) ?_
     refine .gT rfl rfl ?_
     refine .o (.call dK rfl (bF hs) ?_);rintro _ w ⟨rfl,hs⟩
     refine .gT rfl rfl ?_
     refine .z fW (.z zpF (.nil ?_))
     refine (.cond rfl (fun hc40=>?_) (fun hc40=>?_))
     ·refine .aj (.z zg (.nil ?_))
      refine .ret (rT (Fin.bE tF rfl ?_))
      exact ⟨H1,_,hle1,rfl,.inr ⟨fun h=>by have:=h.up;simp_all,rfl⟩,hs.out⟩
     ·refine .skip ?_
      refine nT ?_
      refine .aj (.z zg (.nil ?_))
      refine .ret (Fin.bE tF rfl ?_)
      have hg:=hG' (by simp_all)
      exact ⟨H1,_,hle1,rfl,.inl ⟨⟨hg.1,hg.2,by simp_all,by simp_all,by simp_all,by simp_all⟩,rfl⟩,hs.out⟩
theorem nh{s:Spc}{r:Rdg}{vst vwa:Value}(hs:St H w σ)(h1:RI H vst s.st)(h2:RI H vwa s.wa):
  Cl Tryz.prog 120 [.agg #[I s.id,I s.src,vst,vwa,I s.al,I s.up],.agg #[I r.src,I r.st,I r.wa,I r.val,I r.tol,I r.tape,I r.day]] w fun v w'=>∃b:Bool,v= .bool b∧(b=true↔jE s r)∧St H w' σ:=by
 obtain ⟨ast,cst,rfl⟩:=RI.shape h1
 obtain ⟨awa,cwa,rfl⟩:=RI.shape h2
 have l1:=(RI.len h1).2.2
 have l2:=(RI.len h2).2.2
 refine Cl.o Tryz.func120 Tryz.ntmps120 ag2 ?_
 refine .aj ?_
 refine .bx hs fun b2 w hs=>?_
 refine .bx hs fun b3 w hs=>?_
 refine .z zg (.nil (.aj (.z (zfa eF) (.y hs (zld ae) ?_))))
 refine .o (.call Tryz.call165 rfl (iy hs) ?_);rintro _ w ⟨rfl,hs⟩
 refine .z zm ?_
 refine .bif (t':=8) rfl (fun hb8=>?_) (fun hb8=>?_)
 ·refine .gT rfl rfl ?_
  refine .z (zfa fE) ?_
  refine .gT rfl rfl ?_
  refine .y hs (zld ae) ?_
  refine .gT rfl rfl ?_
  refine .z (zfa bP) ?_
  refine .gT rfl rfl ?_
  refine .y hs (zld an) ?_
  refine .gT rfl rfl ?_
  refine .z (dp af) ?_
  refine .gT rfl rfl ?_
  refine .z gM ?_
  refine .gT rfl rfl ?_
  refine .o (.call dK rfl (bF hs) ?_);rintro _ w ⟨rfl,hs⟩
  refine .z zpT (.z zm ?_)
  refine .bif (t':=17) rfl (fun hb17=>?_) (fun hb17=>?_)
  ·refine .gT rfl rfl ?_
   refine .z (zfa fD) ?_
   refine .gT rfl rfl ?_
   refine .y hs (zld ae) ?_
   refine .gT rfl rfl ?_
   refine .z (zfa a8) ?_
   refine .gT rfl rfl ?_
   refine .y hs (zld an) ?_
   refine .gT rfl rfl ?_
   refine .z (dp af) ?_
   refine .gT rfl rfl ?_
   refine .z gM ?_
   refine .gT rfl rfl ?_
   refine .o (.call dK rfl (bF hs) ?_);rintro _ w ⟨rfl,hs⟩
   refine .z zpT (.z zm ?_)
   refine .bif (t':=26) rfl (fun hb26=>?_) (fun hb26=>?_)
   ·refine .gT rfl rfl ?_
    refine .z (zfa da) ?_
    refine .gT rfl rfl ?_
    refine .y hs (zld ae) ?_
    refine .gT rfl rfl ?_
    refine .o (.call dK rfl (bF hs) ?_);rintro _ w ⟨rfl,hs⟩
    refine .z zpT (.z zm ?_)
    refine .bif (t':=31) rfl (fun hb31=>?_) (fun hb31=>?_)
    ·refine .gT rfl rfl ?_
     refine .z (zfa dn) ?_
     refine .gT rfl rfl ?_
     refine .y hs (zld ae) ?_
     refine .gT rfl rfl ?_
     refine .z (zfa da) ?_
     refine .gT rfl rfl ?_
     refine .y hs (zld ae) ?_
     refine .gT rfl rfl ?_
     have ht:0≤r.tol∧r.tol≤1000:=by simp_all
     refine .z gM ?_
     refine .gT rfl rfl ?_
     refine .o (.call dK rfl (bF hs) ?_);rintro _ w ⟨rfl,hs⟩
     refine .z zpT (.z zm ?_)
     refine .bif (t':=39) rfl (fun hb39=>?_) (fun hb39=>?_)
     ·refine .gT rfl rfl ?_
      refine .z (zfa eE) ?_
      refine .gT rfl rfl ?_
      refine .y hs (zld ae) ?_
      refine .gT rfl rfl ?_
      refine .o (.call dK rfl (bF hs) ?_);rintro _ w ⟨rfl,hs⟩
      refine .z zpT (.z zm ?_)
      refine .bif (t':=44) rfl (fun hb44=>?_) (fun hb44=>?_)
      ·refine .gT rfl rfl ?_
       refine .z (zfa eD) ?_
       refine .gT rfl rfl ?_
       refine .y hs (zld ae) ?_
       refine .gT rfl rfl ?_
       refine .o (.call dK rfl (bF hs) ?_);rintro _ w ⟨rfl,hs⟩
       refine .z zpT (.z zg (.nil ?_))
       refine .ret (Fin.bE mZ rfl ?_)
       first
       |exact ⟨false,rfl,⟨fun h=>(by cases h),fun h=>(by obtain ⟨g1,g2,g3,g4,g5,g6,g7⟩:=h;simp_all;done)⟩,hs.out⟩
       |exact ⟨_,rfl,⟨fun h=>⟨by simp_all,by simp_all,by simp_all,by simp_all,by simp_all,by simp_all,by simpa using h⟩,fun h=>by simpa using h.day⟩,hs.out⟩
      ·refine .gFs 3 39 true rfl rfl rfl ?_
       refine .z zpF (.z zg (.nil ?_))
       refine .ret (Fin.bE mZ rfl ?_)
       first
       |exact ⟨false,rfl,⟨fun h=>(by cases h),fun h=>(by obtain ⟨g1,g2,g3,g4,g5,g6,g7⟩:=h;simp_all;done)⟩,hs.out⟩
       |exact ⟨_,rfl,⟨fun h=>⟨by simp_all,by simp_all,by simp_all,by simp_all,by simp_all,by simp_all,by simpa using h⟩,fun h=>by simpa using h.day⟩,hs.out⟩
     ·refine .gFs 3 34 true rfl rfl rfl ?_
      refine .z zpF (.z zm ?_)
      refine .gFs 3 39 true rfl rfl rfl ?_
      refine .z zpF (.z zg (.nil ?_))
      refine .ret (Fin.bE mZ rfl ?_)
      first
      |exact ⟨false,rfl,⟨fun h=>(by cases h),fun h=>(by obtain ⟨g1,g2,g3,g4,g5,g6,g7⟩:=h;simp_all;done)⟩,hs.out⟩
      |exact ⟨_,rfl,⟨fun h=>⟨by simp_all,by simp_all,by simp_all,by simp_all,by simp_all,by simp_all,by simpa using h⟩,fun h=>by simpa using h.day⟩,hs.out⟩
    ·refine .gFs 6 26 true rfl rfl rfl ?_
     refine .z zpF (.z zm ?_)
     refine .gFs 3 34 true rfl rfl rfl ?_
     refine .z zpF (.z zm ?_)
     refine .gFs 3 39 true rfl rfl rfl ?_
     refine .z zpF (.z zg (.nil ?_))
     refine .ret (Fin.bE mZ rfl ?_)
     first
     |exact ⟨false,rfl,⟨fun h=>(by cases h),fun h=>(by obtain ⟨g1,g2,g3,g4,g5,g6,g7⟩:=h;simp_all;done)⟩,hs.out⟩
     |exact ⟨_,rfl,⟨fun h=>⟨by simp_all,by simp_all,by simp_all,by simp_all,by simp_all,by simp_all,by simpa using h⟩,fun h=>by simpa using h.day⟩,hs.out⟩
   ·refine .gFs 3 21 true rfl rfl rfl ?_
    refine .z zpF (.z zm ?_)
    refine .gFs 6 26 true rfl rfl rfl ?_
    refine .z zpF (.z zm ?_)
    refine .gFs 3 34 true rfl rfl rfl ?_
    refine .z zpF (.z zm ?_)
    refine .gFs 3 39 true rfl rfl rfl ?_
    refine .z zpF (.z zg (.nil ?_))
    refine .ret (Fin.bE mZ rfl ?_)
    first
    |exact ⟨false,rfl,⟨fun h=>(by cases h),fun h=>(by obtain ⟨g1,g2,g3,g4,g5,g6,g7⟩:=h;simp_all;done)⟩,hs.out⟩
    |exact ⟨_,rfl,⟨fun h=>⟨by simp_all,by simp_all,by simp_all,by simp_all,by simp_all,by simp_all,by simpa using h⟩,fun h=>by simpa using h.day⟩,hs.out⟩
  ·refine .gFs 7 12 true rfl rfl rfl ?_
   refine .z zpF (.z zm ?_)
   refine .gFs 3 21 true rfl rfl rfl ?_
   refine .z zpF (.z zm ?_)
   refine .gFs 6 26 true rfl rfl rfl ?_
   refine .z zpF (.z zm ?_)
   refine .gFs 3 34 true rfl rfl rfl ?_
   refine .z zpF (.z zm ?_)
   refine .gFs 3 39 true rfl rfl rfl ?_
   refine .z zpF (.z zg (.nil ?_))
   refine .ret (Fin.bE mZ rfl ?_)
   first
   |exact ⟨false,rfl,⟨fun h=>(by cases h),fun h=>(by obtain ⟨g1,g2,g3,g4,g5,g6,g7⟩:=h;simp_all;done)⟩,hs.out⟩
   |exact ⟨_,rfl,⟨fun h=>⟨by simp_all,by simp_all,by simp_all,by simp_all,by simp_all,by simp_all,by simpa using h⟩,fun h=>by simpa using h.day⟩,hs.out⟩
 ·refine .gFs 7 3 true rfl rfl rfl ?_
  refine .z zpF (.z zm ?_)
  refine .gFs 7 12 true rfl rfl rfl ?_
  refine .z zpF (.z zm ?_)
  refine .gFs 3 21 true rfl rfl rfl ?_
  refine .z zpF (.z zm ?_)
  refine .gFs 6 26 true rfl rfl rfl ?_
  refine .z zpF (.z zm ?_)
  refine .gFs 3 34 true rfl rfl rfl ?_
  refine .z zpF (.z zm ?_)
  refine .gFs 3 39 true rfl rfl rfl ?_
  refine .z zpF (.z zg (.nil ?_))
  refine .ret (Fin.bE mZ rfl ?_)
  first
  |exact ⟨false,rfl,⟨fun h=>(by cases h),fun h=>(by obtain ⟨g1,g2,g3,g4,g5,g6,g7⟩:=h;simp_all;done)⟩,hs.out⟩
  |exact ⟨_,rfl,⟨fun h=>⟨by simp_all,by simp_all,by simp_all,by simp_all,by simp_all,by simp_all,by simpa using h⟩,fun h=>by simpa using h.day⟩,hs.out⟩
theorem ni{c:Cmp}(hs:St H w σ):
  Cl Tryz.prog 170 [.agg #[I c.src,I c.tape,I c.fr,I c.to,I c.lo,I c.hi]] w fun v w'=>∃b:Bool,v= .bool b∧(b=true↔sB c)∧St H w' σ:=by
 refine Cl.o Tryz.func170 Tryz.ntmps170 ag1 ?_
 refine .aj ?_
 refine .bx hs fun b1 w hs=>?_
 refine .z zg (.nil (.aj (.z (zfa jd) (.y hs (zld ae) ?_))))
 refine .o (.call Tryz.call165 rfl (iy hs) ?_);rintro _ w ⟨rfl,hs⟩
 refine .z zm ?_
 refine .bif (t':=6) rfl (fun hb6=>?_) (fun hb6=>?_)
 ·refine .gT rfl rfl ?_
  refine .z (zfa kj) ?_
  refine .gT rfl rfl ?_
  refine .y hs (zld ae) ?_
  refine .gT rfl rfl ?_
  refine .o (.call dK rfl (bF hs) ?_);rintro _ w ⟨rfl,hs⟩
  refine .z zpT (.z zm ?_)
  refine .bif (t':=11) rfl (fun hb11=>?_) (fun hb11=>?_)
  ·refine .gT rfl rfl ?_
   refine .z (zfa jc) ?_
   refine .gT rfl rfl ?_
   refine .y hs (zld ae) ?_
   refine .gT rfl rfl ?_
   refine .z (zfa gY) ?_
   refine .gT rfl rfl ?_
   refine .y hs (zld ae) ?_
   refine .gT rfl rfl ?_
   refine .o (.call dK rfl (bF hs) ?_);rintro _ w ⟨rfl,hs⟩
   refine .z zpT (.z zm ?_)
   refine .bif (t':=18) rfl (fun hb18=>?_) (fun hb18=>?_)
   ·refine .gT rfl rfl ?_
    refine .z (zfa gY) ?_
    refine .gT rfl rfl ?_
    refine .y hs (zld ae) ?_
    refine .gT rfl rfl ?_
    refine .o (.call dK rfl (bF hs) ?_);rintro _ w ⟨rfl,hs⟩
    refine .z zpT (.z zm ?_)
    refine .bif (t':=23) rfl (fun hb23=>?_) (fun hb23=>?_)
    ·refine .gT rfl rfl ?_
     refine .z (zfa gX) ?_
     refine .gT rfl rfl ?_
     refine .y hs (zld ae) ?_
     refine .gT rfl rfl ?_
     refine .z (zfa gW) ?_
     refine .gT rfl rfl ?_
     refine .y hs (zld ae) ?_
     refine .gT rfl rfl ?_
     refine .o (.call dK rfl (bF hs) ?_);rintro _ w ⟨rfl,hs⟩
     refine .z zpT (.z zm ?_)
     refine .bif (t':=30) rfl (fun hb30=>?_) (fun hb30=>?_)
     ·refine .gT rfl rfl ?_
      refine .z (zfa gW) ?_
      refine .gT rfl rfl ?_
      refine .y hs (zld ae) ?_
      refine .gT rfl rfl ?_
      refine .o (.call dK rfl (bF hs) ?_);rintro _ w ⟨rfl,hs⟩
      refine .z zpT (.z zg (.nil ?_))
      refine .ret (Fin.bE tD rfl ?_)
      first
      |exact ⟨false,rfl,⟨fun h=>(by cases h),fun h=>(by obtain ⟨g1,g2,g3,g4,g5,g6⟩:=h;simp_all;omega)⟩,hs.out⟩
      |exact ⟨false,rfl,⟨fun h=>(by cases h),fun h=>(by obtain ⟨g1,g2,g3,g4,g5,g6⟩:=h;simp_all;done)⟩,hs.out⟩
      |exact ⟨_,rfl,⟨fun h=>⟨by simp_all,by simp_all,by simp_all,by simp_all,by simp_all,(by simpa using h:_∧_).2⟩,fun h=>by have:=h.lo;have:=h.hi;simp;omega⟩,hs.out⟩
     ·refine .gFs 3 27 true rfl rfl rfl ?_
      refine .z zpF (.z zg (.nil ?_))
      refine .ret (Fin.bE tD rfl ?_)
      first
      |exact ⟨false,rfl,⟨fun h=>(by cases h),fun h=>(by obtain ⟨g1,g2,g3,g4,g5,g6⟩:=h;simp_all;omega)⟩,hs.out⟩
      |exact ⟨false,rfl,⟨fun h=>(by cases h),fun h=>(by obtain ⟨g1,g2,g3,g4,g5,g6⟩:=h;simp_all;done)⟩,hs.out⟩
      |exact ⟨_,rfl,⟨fun h=>⟨by simp_all,by simp_all,by simp_all,by simp_all,by simp_all,(by simpa using h:_∧_).2⟩,fun h=>by have:=h.lo;have:=h.hi;simp;omega⟩,hs.out⟩
    ·refine .gFs 5 20 true rfl rfl rfl ?_
     refine .z zpF (.z zm ?_)
     refine .gFs 3 27 true rfl rfl rfl ?_
     refine .z zpF (.z zg (.nil ?_))
     refine .ret (Fin.bE tD rfl ?_)
     first
     |exact ⟨false,rfl,⟨fun h=>(by cases h),fun h=>(by obtain ⟨g1,g2,g3,g4,g5,g6⟩:=h;simp_all;omega)⟩,hs.out⟩
     |exact ⟨false,rfl,⟨fun h=>(by cases h),fun h=>(by obtain ⟨g1,g2,g3,g4,g5,g6⟩:=h;simp_all;done)⟩,hs.out⟩
     |exact ⟨_,rfl,⟨fun h=>⟨by simp_all,by simp_all,by simp_all,by simp_all,by simp_all,(by simpa using h:_∧_).2⟩,fun h=>by have:=h.lo;have:=h.hi;simp;omega⟩,hs.out⟩
   ·refine .gFs 3 15 true rfl rfl rfl ?_
    refine .z zpF (.z zm ?_)
    refine .gFs 5 20 true rfl rfl rfl ?_
    refine .z zpF (.z zm ?_)
    refine .gFs 3 27 true rfl rfl rfl ?_
    refine .z zpF (.z zg (.nil ?_))
    refine .ret (Fin.bE tD rfl ?_)
    first
    |exact ⟨false,rfl,⟨fun h=>(by cases h),fun h=>(by obtain ⟨g1,g2,g3,g4,g5,g6⟩:=h;simp_all;omega)⟩,hs.out⟩
    |exact ⟨false,rfl,⟨fun h=>(by cases h),fun h=>(by obtain ⟨g1,g2,g3,g4,g5,g6⟩:=h;simp_all;done)⟩,hs.out⟩
    |exact ⟨_,rfl,⟨fun h=>⟨by simp_all,by simp_all,by simp_all,by simp_all,by simp_all,(by simpa using h:_∧_).2⟩,fun h=>by have:=h.lo;have:=h.hi;simp;omega⟩,hs.out⟩
  ·refine .gFs 5 8 true rfl rfl rfl ?_
   refine .z zpF (.z zm ?_)
   refine .gFs 3 15 true rfl rfl rfl ?_
   refine .z zpF (.z zm ?_)
   refine .gFs 5 20 true rfl rfl rfl ?_
   refine .z zpF (.z zm ?_)
   refine .gFs 3 27 true rfl rfl rfl ?_
   refine .z zpF (.z zg (.nil ?_))
   refine .ret (Fin.bE tD rfl ?_)
   first
   |exact ⟨false,rfl,⟨fun h=>(by cases h),fun h=>(by obtain ⟨g1,g2,g3,g4,g5,g6⟩:=h;simp_all;omega)⟩,hs.out⟩
   |exact ⟨false,rfl,⟨fun h=>(by cases h),fun h=>(by obtain ⟨g1,g2,g3,g4,g5,g6⟩:=h;simp_all;done)⟩,hs.out⟩
   |exact ⟨_,rfl,⟨fun h=>⟨by simp_all,by simp_all,by simp_all,by simp_all,by simp_all,(by simpa using h:_∧_).2⟩,fun h=>by have:=h.lo;have:=h.hi;simp;omega⟩,hs.out⟩
 ·refine .gFs 3 3 true rfl rfl rfl ?_
  refine .z zpF (.z zm ?_)
  refine .gFs 5 8 true rfl rfl rfl ?_
  refine .z zpF (.z zm ?_)
  refine .gFs 3 15 true rfl rfl rfl ?_
  refine .z zpF (.z zm ?_)
  refine .gFs 5 20 true rfl rfl rfl ?_
  refine .z zpF (.z zm ?_)
  refine .gFs 3 27 true rfl rfl rfl ?_
  refine .z zpF (.z zg (.nil ?_))
  refine .ret (Fin.bE tD rfl ?_)
  first
  |exact ⟨false,rfl,⟨fun h=>(by cases h),fun h=>(by obtain ⟨g1,g2,g3,g4,g5,g6⟩:=h;simp_all;omega)⟩,hs.out⟩
  |exact ⟨false,rfl,⟨fun h=>(by cases h),fun h=>(by obtain ⟨g1,g2,g3,g4,g5,g6⟩:=h;simp_all;done)⟩,hs.out⟩
  |exact ⟨_,rfl,⟨fun h=>⟨by simp_all,by simp_all,by simp_all,by simp_all,by simp_all,(by simpa using h:_∧_).2⟩,fun h=>by have:=h.lo;have:=h.hi;simp;omega⟩,hs.out⟩
theorem l9{s:Spc}{vst vwa:Value}(hs:St H w σ)(h1:RI H vst s.st)(h2:RI H vwa s.wa)(hb:s.st.length≤1000∧s.wa.length≤1000):
  Cl Tryz.prog 196 [.agg #[I s.id,I s.src,vst,vwa,I s.al,I s.up]] w fun v w'=>v=I (s.many:Int)∧St H w' σ:=by
 obtain ⟨ast,cst,rfl⟩:=RI.shape h1
 obtain ⟨awa,cwa,rfl⟩:=RI.shape h2
 have hm:=kz (a:=(s.st.length:Int)) (b:=(s.wa.length:Int)) (A:=1000) (B:=1000) ak ak
 refine Cl.o Tryz.func196 Tryz.ntmps196 ag1 ?_
 refine .aj ?_
 refine .bx hs fun b1 w hs=>?_
 refine .z zg (.nil (.aj (.z (zfa bP) (.y hs (zld an) (.z (dp af) (.z (zfa a8) (.y hs (zld an) (.z (dp af) (.z lz ?_)))))))))
 refine .z zg (.nil ?_)
 refine .ret (Fin.bE Tryz.results196 rfl ?_)
 exact ⟨by unfold Spc.many;rw [Int.natCast_mul],hs.out⟩
theorem oK{s:Spc}{vst vwa:Value}{a b:Int}(hs:St H w σ)(h2:RI H vwa s.wa)(hb:s.wa.length≤1000)(ha: -1000≤a∧a≤1000)(hb': -1000≤b∧b≤1000):
  Cl Tryz.prog 247 [.agg #[I s.id,I s.src,vst,vwa,I s.al,I s.up],I a,I b] w fun v w'=>v=I (1+a*s.wa.length+b)∧St H w' σ:=by
 obtain ⟨awa,cwa,rfl⟩:=RI.shape h2
 have hm:=kz (a:=a) (b:=(s.wa.length:Int)) (A:=1000) (B:=1000) ak ak
 refine Cl.o Tryz.func247 Tryz.ntmps247 ag3 ?_
 refine .aj ?_
 refine .bx hs fun b3 w hs=>?_
 refine .z zg (.nil (.aj (.z zm (.z (zfa a8) (.y hs (zld an) (.z (dp af) (.z lz (.z cP (.z zm ?_)))))))))
 refine .z cP (.z zg (.nil ?_))
 refine .ret (Fin.bE Tryz.results247 rfl ?_)
 exact ⟨rfl,hs.out⟩
theorem ji{r:Rdg}(hs:St H w σ):
  Cl Tryz.prog 241 [.agg #[I r.src,I r.st,I r.wa,I r.val,I r.tol,I r.tape,I r.day]] w fun v w'=>v= .agg #[I r.tape,I r.day]∧St H w' σ:=by
 refine Cl.o Tryz.func241 Tryz.ntmps241 ag1 ?_
 refine .aj ?_
 refine .bx hs fun b1 w hs=>?_
 refine .o (.alloc hs kO rfl fun b2 w hs=>?_)
 refine .nil (.aj (.z (zfa eE) (.y hs (zld ae) (.z (zfa eD) (.y hs (zld ae) (.z (zbd [_,_] iG) ?_))))))
 refine .o (.aP (vs:=[_,_]) hs rfl rfl bL fun w hs=>?_)
 refine .nil ?_
 refine .ret ?_
 exact Fin.iZ [] [] hs fun w hs=>⟨_,results1 Tryz.results241 (dJ (vs:=[_,_]) hs rfl ed bL),rfl,hs.out⟩
theorem ma{a b:Int}(hs:St H w σ)(ha:0≤a∧a≤100000)(hb:0≤b∧b≤100000):
  Cl Tryz.prog 243 [I a,I b] w fun v w'=>v=I (kh a b)∧St H w' σ:=by
 have hm:=kz (a:=a) (b:=b) (A:=100000) (B:=100000) ak ak
 have h0:=Int.mul_nonneg ha.1 hb.1
 have hq0:0≤(a*b+999).tdiv 1000:=Int.tdiv_nonneg ak ak
 have hq1:(a*b+999).tdiv 1000≤a*b+999:=by rw [Int.tdiv_eq_ediv_of_nonneg ak];omega
 refine Cl.o Tryz.func243 Tryz.ntmps243 ag2 ?_
 refine .aj (.z zg (.nil (.aj (.z zm (.z zm (.z lz (.z cP ?_)))))))
 refine .q hs (wx rfl rfl ak ak) ?_
 refine .z Bk (.z zg (.nil ?_))
 refine .ret (Fin.bE Tryz.results243 rfl ?_)
 exact ⟨rfl,hs⟩
def wQ(s:Spc):List (List Value):=(List.range s.many).map fun p=>[Value.agg #[I ((p/s.wa.length:Nat):Int),I ((p%s.wa.length:Nat):Int),I ((p+1:Nat):Int)]]
theorem ez(s:Spc):(wQ s).length=s.many:=by simp [wQ]
theorem mE{s:Spc}{p:Nat}(h:p<(wQ s).length):(wQ s)[p]=[Value.agg #[I ((p/s.wa.length:Nat):Int),I ((p%s.wa.length:Nat):Int),I ((p+1:Nat):Int)]]:=by simp [wQ]
theorem qD{H:bV}{b:Nat}{s:Spc}{vst vwa:Value}(hb:Row H b [I s.id,I s.src,vst,vwa,I s.al,I s.up])(h1:RI H vst s.st)(h2:RI H vwa s.wa)(hbd:s.st.length≤1000∧s.wa.length≤1000):
  Iter Tryz.prog 188 [.pointer (some ⟨b,0,none⟩)] H (wQ s):=by
 intro ly II Ix hmI _ hy H0 σb0 σf w hle hI0 hs
 obtain ⟨ast,cst,rfl⟩:=RI.shape h1
 obtain ⟨awa,cwa,rfl⟩:=RI.shape h2
 have g2:cellAt H0 b 2=some (.slice ast s.st.length cst):=cellAt.mono (hb.at 2) hle
 have g3:cellAt H0 b 3=some (.slice awa s.wa.length cwa):=cellAt.mono (hb.at 3) hle
 have hm:s.many≤1000000:=Nat.mul_le_mul hbd.1 hbd.2
 refine Cl.o Tryz.func188 Tryz.ntmps188 ag2 ?_
 refine .aj (.z zg (.nil (.aj (.z (zfa bP) (.y hs (zld an) (.z (dp af) (.z zm (.nil ?_))))))))
 refine .for (N:=s.st.length) (J:=fun i fr w=>fr=[(3,I ((i*s.wa.length:Nat):Int)),(0,.func (.yield ly) #[] #[]),(1,.pointer (some ⟨b,0,none⟩))]∧∃H1 σb,HLe H H1∧HLe H0 H1∧II (i*s.wa.length) H1 σb∧St H1 w (σb++σf)) ak ?_ ?_ ?_
 ·exact .mk ⟨by rw [Nat.zero_mul],H0,σb0,hle,HLe.refl _,by rw [Nat.zero_mul];exact hI0,hs⟩
 ·rintro i fr w hi ⟨rfl,H1,σb,hle1,hle0,hI,hs⟩
  have h23:=cellAt.mono g3 hle0
  refine .block (.aj (.z zm (.z zg (.nil (.aj (.z (zfa a8) (.y hs (zld an) (.z (dp af) (.z zm ?_)))))))))
  refine .nil ?_
  refine .for (N:=s.wa.length) (J:=fun k fr w=>fr=[(3,I ((i*s.wa.length+k:Nat):Int)),(4,I (i:Int)),(9,I (i:Int)),(8,I (s.st.length:Int)),(0,.func (.yield ly) #[] #[]),(1,.pointer (some ⟨b,0,none⟩))]∧∃H3 σb,HLe H1 H3∧II (i*s.wa.length+k) H3 σb∧St H3 w (σb++σf)) ak ?_ ?_ ?_
  ·exact .mk ⟨rfl,H1,σb,HLe.refl _,hI,hs⟩
  ·rintro k fr w hk ⟨rfl,H3,σb3,hle3,hI3,hs⟩
   obtain ⟨d1,d2⟩:=Gq (nw:=s.wa.length) (i:=i) (k:=k) hk
   have hlt:=JE hi hk
   refine .block (.aj (.z zm (.z zg (.nil (.aj (.z zm (.z cP (.z zg (.nil ?_)))))))))
   refine .aj (.z zm (.z zm (.z zm (.z zm (.z (zbd [_,_,_] rk) ?_)))))
   have hk':i*s.wa.length+k<(wQ s).length:=by rw [ez];exact hlt
   have hyd:=hy (i*s.wa.length+k) hk' H3 σb3 σf w (hle1.trans hle3) hI3 hs
   rw [mE hk',d1,d2,show ((i*s.wa.length+k+1:Nat):Int)=((i*s.wa.length+k:Nat):Int)+1 by omega] at hyd
   refine .o (.yield rfl rfl hyd ?_);rintro v25 w ⟨H5,σ5,g1,hs,g3'⟩
   obtain ⟨bb,rfl,gT,gF⟩:=nv g3'
   refine .z fW (.nil ?_)
   refine (.cond rfl (fun hc26=>?_) (fun hc26=>?_))
   ·refine .ret (rB (rT (rB (rB (rT (rB (Fin.Hn Tryz.results188 ?_)))))))
    exact ⟨H5,σ5,hle0.trans (hle3.trans g1),hs,.inr (gF (by simpa using hc26))⟩
   ·refine .skip ?_
    refine nB (nT ?_)
    exact .mk ⟨rfl,H5,σ5,hle3.trans g1,gT (by simpa using hc26),hs⟩
  ·rintro fr w ⟨rfl,H3,σb3,hle3,hI3,hs⟩
   have e:i*s.wa.length+s.wa.length=(i+1)*s.wa.length:=by rw [Nat.add_mul,Nat.one_mul]
   rw [e] at hI3 ⊢
   refine nB (nT ?_)
   exact .mk ⟨rfl,H3,σb3,hle1.trans hle3,hle0.trans hle3,hI3,hs⟩
 ·rintro fr w ⟨rfl,H1,σb,hle1,hle0,hI,hs⟩
  exact Fin.zh Tryz.results188 ⟨H1,σb,hle0,hs,.inl (by rw [ez];exact hI)⟩
theorem fC{s:Spc}{vst vwa:Value}(hs:St H w σ)(h1:RI H vst s.st)(h2:RI H vwa s.wa)(hbd:s.st.length≤1000∧s.wa.length≤1000):
  Cl Tryz.prog 131 [.agg #[I s.id,I s.src,vst,vwa,I s.al,I s.up]] w fun u w'=>∃H1 b,HLe H H1∧u= .func (.func 188) #[] #[.pointer (some ⟨b,0,none⟩)]∧Iter Tryz.prog 188 [.pointer (some ⟨b,0,none⟩)] H1 (wQ s)∧St H1 w' σ:=by
 obtain ⟨ast,cst,rfl⟩:=RI.shape h1
 obtain ⟨awa,cwa,rfl⟩:=RI.shape h2
 refine Cl.o Tryz.func131 Tryz.ntmps131 ag1 ?_
 refine .aj ?_
 refine .bx hs fun b1 w hs=>?_
 refine .z zg (.nil (.aj ?_))
 refine .q hs (dz (f:=[]) (c:=[_]) rfl rfl) ?_
 refine .z zg (.nil ?_)
 refine .ret (Fin.bE Tryz.results131 rfl ?_)
 obtain ⟨H1,g1,g2,hs⟩:=hs.cV .here
 exact ⟨H1,b1,g1,rfl,qD g2 (h1.mono g1) (h2.mono g1) hbd,hs⟩
set_option maxRecDepth 100000 in
theorem tK:Tryz.prog.stoodInHeld 162=false:=by kernel_rfl
set_option maxRecDepth 100000 in
theorem tL:Tryz.prog.eqGuardType Tryz.prog.depth 162=false:=by kernel_rfl
theorem pI{v:Value}{en:Ent}{xs:List TD}{g:Nat}{cap:List Value}(q:TD→Bool)(hs:St H w (en::σ))(hO:cI 2 v (tdc xs).flatten en)(hl:xs.length≤1000000)(hc:∀args w,(callFunc g args).run Tryz.prog w= .ok (.enter g args) w)
  (hp:∀w (t:TD),St H w (en::σ)→Cl Tryz.prog g ([.agg #[I t.tape,I t.day]]++cap) w fun u w'=>u= .bool (q t)∧St H w' (en::σ)):
  Cl Tryz.prog 276 [v,.func (.func g) #[] cap.toArray] w fun u w'=>∃i:Int,u=I i∧(0≤i↔∃x∈xs,q x=true)∧St H w' (en::σ):=by
 obtain ⟨a,c,rfl⟩:=hO.iU (pE xs) ak
 rw [eL] at hO ⊢
 refine Cl.o Tryz.func276 Tryz.ntmps276 ag2 ?_
 refine .aj (.z zg (.nil (.seq (.aj (.z zm (.z (dp bB) (.z zm (.nil ?_))))))))
 refine .for (N:=xs.length) (J:=fun k fr w=>fr=[(1,.func (.func g) #[] cap.toArray),(0,.slice a xs.length c)]∧(∀j<k,∀y,xs[j]? =some y→¬q y=true)∧St H w (en::σ)) ak ?_ ?_ ?_
 ·exact .mk ⟨rfl,fun j hj=>by omega,hs⟩
 ·rintro k fr w hk ⟨rfl,hno,hs⟩
  obtain ⟨x,hx⟩:=nth hk
  obtain ⟨b,c',sp,hv,rfl,_⟩:=hO.Gf (pE xs) ak (by rw [eL];omega)
  rw [eL] at hv
  cases hv
  refine .block (.aj (.z zm (.z zg (.nil (.aj (.z zm (.z zm (.z zm (.z (lZ bB bL) ?_)))))))))
  refine .q hs (kV (vs:=x.c) rfl ed bL .here (yK (pE xs) (Cn hx) sp)) ?_
  refine .o (.oS (first:=[]) (cap:=cap) rfl rfl hc (hp _ x hs) ?_);rintro _ w ⟨rfl,hs⟩
  refine .nil ?_
  refine (.cond rfl (fun hc16=>?_) (fun hc16=>?_))
  ·refine .aj (.z zm (.z zg (.nil ?_)))
   refine .ret (rB (rT (rB (rT (Fin.bE Tryz.results276 rfl ?_)))))
   exact ⟨_,rfl,⟨fun _=>⟨x,List.mem_of_getElem? hx,hc16⟩,fun _=>by omega⟩,hs⟩
  ·refine .skip ?_
   refine nB (nT ?_)
   exact .mk ⟨rfl,fm hno hx (by simpa using hc16),hs⟩
 ·rintro fr w ⟨rfl,hno,hs⟩
  refine nT ?_
  refine .aj (.z zg (.nil ?_))
  refine .ret (Fin.bE Tryz.results276 rfl ?_)
  exact ⟨_,rfl,⟨fun h=>by omega,fun ⟨x,h1,h2⟩=>by
   obtain ⟨j,hj⟩:=List.getElem?_of_mem h1
   exact (hno j (List.getElem?_eq_some_iff.1 hj).1 x hj h2).elim⟩,hs⟩
theorem nf{v:Value}{en:Ent}{xs:List TD}{g:Nat}{cap:List Value}(q:TD→Bool)(hs:St H w (en::σ))(hO:cI 2 v (tdc xs).flatten en)(hl:xs.length≤1000000)(hc:∀args w,(callFunc g args).run Tryz.prog w= .ok (.enter g args) w)
  (hp:∀w (t:TD),St H w (en::σ)→Cl Tryz.prog g ([.agg #[I t.tape,I t.day]]++cap) w fun u w'=>u= .bool (q t)∧St H w' (en::σ)):
  Cl Tryz.prog 239 [v,.func (.func g) #[] cap.toArray] w fun u w'=>∃b:Bool,u= .bool b∧(b=true↔∃x∈xs,q x=true)∧St H w' (en::σ):=by
 refine Cl.o Tryz.func239 Tryz.ntmps239 ag2 ?_
 refine .aj (.z zg (.nil (.aj (.z zm (.z zm ?_)))))
 refine .o (.call Tryz.call276 rfl (pI q hs hO hl hc hp) ?_);rintro _ w ⟨i,rfl,hi,hs⟩
 refine .z uc (.z zg (.nil ?_))
 refine .ret (Fin.bE Tryz.results239 rfl ?_)
 exact ⟨_,rfl,by simp only [decide_eq_true_eq];exact hi,hs⟩
theorem uw{v:Value}{xs:List TD}{t:TD}(hs:St H w σ)(hr:RTd H v xs)(hl:xs.length≤1000000):
  Cl Tryz.prog 246 [v,.agg #[I t.tape,I t.day]] w fun u w'=>u=I (jW xs t)∧St H w' σ:=by
 obtain ⟨a,c,rfl⟩:=RTd.shape hr
 refine Cl.o Tryz.func246 Tryz.ntmps246 ag2 ?_
 refine .aj ?_
 refine .bx hs fun b3 w hs=>?_
 refine .z zg (.nil (.seq (.aj (.z zm (.z (dp bB) (.z zm (.nil ?_)))))))
 refine .for (N:=xs.length) (J:=fun k fr w=>fr=[(0,.slice a xs.length c),(3,.pointer (some ⟨b3,0,none⟩))]∧(∀j<k,∀y,xs[j]? =some y→¬y=t)∧St H w (.blk b3 [I t.tape,I t.day]::σ)) ak ?_ ?_ ?_
 ·exact .mk ⟨rfl,fun j hj=>by omega,hs⟩
 ·rintro k fr w hk ⟨rfl,hno,hs⟩
  obtain ⟨x,hx⟩:=nth hk
  refine .block (.aj (.z zm (.z zg (.nil ?_))))
  refine .seq (.draw mix rfl hs fun w hs=>?_)
  refine .ys 0 rfl hs [_,_] ed bL ?_;refine .z 1 rfl zm ?_;refine .z 2 rfl zm ?_
  refine .ixX (enc:=TD.c) (i:=3) hs rfl aq .none hr rfl rfl bB bL hx de ?_;intro b14 o14 hc14
  refine .r (i:=4) hs rfl aq .none (bY (vs:=x.c) rfl ed bL hc14) ?_
  refine .z 5 rfl (yI tK tL iN (fun f hf=>by
   simp only [List.mem_cons,List.not_mem_nil,or_false] at hf
   rcases hf with rfl|rfl<;>exact ⟨by decide,bA,ae⟩) rfl rfl) ?_
  refine .D hs ?_
  refine (.cond rfl (fun hc16=>?_) (fun hc16=>?_))
  ·refine .aj (.z zm (.z zg (.nil ?_)))
   refine .ret (rB (rT (rB (rT (Fin.bE Tryz.results246 rfl ?_)))))
   have e:x=t:=El.1 (by have:=of_decide_eq_true hc16;exact ⟨this.1.symm,this.2.symm⟩)
   subst e
   exact ⟨by rw [qn hx fun j hj h=>hno j hj _ h rfl],hs.tail⟩
  ·refine .skip ?_
   refine nB (nT ?_)
   exact .mk ⟨rfl,fm hno hx (fun e=>by subst e;simp at hc16),hs⟩
 ·rintro fr w ⟨rfl,hno,hs⟩
  refine nT ?_
  refine .aj (.z zg (.nil ?_))
  refine .ret (Fin.bE Tryz.results246 rfl ?_)
  exact ⟨by rw [w8 hno],hs.tail⟩
theorem oL{t:TD}{r:Rdg}{b:Nat}(hs:St H w σ)(hb:Row H b r.c):
  Cl Tryz.prog 240 [.agg #[I t.tape,I t.day],.pointer (some ⟨b,0,none⟩)] w fun u w'=>u= .bool (decide (t=r.td))∧St H w' σ:=by
 have hb0:cg H b 0 r.c:=hb.cells 0 r.c
 refine Cl.o Tryz.func240 Tryz.ntmps240 ag2 ?_
 refine .aj ?_
 refine .bx hs fun b2 w hs=>?_
 refine .z zg (.nil ?_)
 refine .seq (.draw mix rfl hs fun w hs=>?_)
 refine .ys 0 rfl hs [_,_] ed bL ?_;refine .ys 1 rfl hs [_,_,_,_,_,_,_] eG aF ?_
 refine .E 2 hs ?_
 refine .call Tryz.call241 rfl (ji hs) ?_;rintro _ w ⟨rfl,hs⟩
 refine .go ?_
 refine .z 3 rfl (yI tK tL iN (fun f hf=>by
  simp only [List.mem_cons,List.not_mem_nil,or_false] at hf
  rcases hf with rfl|rfl<;>exact ⟨by decide,bA,ae⟩) rfl rfl) ?_
 refine .z 4 rfl zg ?_;refine .D hs ?_
 refine .ret (Fin.bE Tryz.results240 rfl ?_)
 exact ⟨by congr 1;rw [decide_eq_decide];exact El (t:=t) (u:=r.td),hs.tail⟩
set_option maxHeartbeats 1000000 in
theorem sa{s:Srv}{vst vwa vr vc:Value}(hs:St H w σ)(hr:RRd H vr s.rs)(hl:s.rs.length≤1000000):
  Cl Tryz.prog 189 [.agg #[I s.sp.id,I s.sp.src,vst,vwa,I s.sp.al,I s.sp.up,vr,vc]] w fun u w'=>∃H1 en,HLe H H1∧cI 2 u (tdc s.bO).flatten en∧St H1 w' (en::σ):=by
 obtain ⟨ar,cr,rfl⟩:=RRd.shape hr
 refine Cl.o Tryz.func189 Tryz.ntmps189 ag1 ?_
 refine .aj ?_
 refine .bx hs fun b1 w hs=>?_
 refine .z zg (.nil (.aj (.z zg (.nil (.seq (.aj (.z (zfa aQ) (.y hs (zld bJ) (.z (dp au) ?_)))))))))
 refine .z zm (.nil ?_)
 refine .for (N:=s.rs.length) (J:=fun k fr w=>∃vo en H1,fr=[(7,.slice ar s.rs.length cr),(3,vo)]∧HLe H H1∧cI 2 vo (tdc (a6 (s.rs.take k))).flatten en∧St H1 w (en::σ)) ak ?_ ?_ ?_
 ·exact .mk ⟨_,.nul,H,rfl,HLe.refl _,.nil 2 none,hs.tail.nul⟩
 ·rintro k fr w hk ⟨vo,en,H1,rfl,hle1,hO,hs⟩
  obtain ⟨r,hx⟩:=nth hk
  have htk:=jt hx
  have htl:=kT s.rs k ak
  obtain ⟨ao,co,rfl⟩:=hO.iU (pE _) ak
  rw [eL] at hO ⊢
  refine .block (.aj ?_)
  refine .ixX (enc:=Rdg.c) hs (hr.mono hle1) rfl rfl au aF hx de ?_;intro b11 o11 hc11
  refine .q hs (bY (vs:=(Rdg.c r)) rfl eG aF hc11) ?_
  refine .o (.alloc hs eQ rfl fun b5 w hs=>?_)
  refine .o (.aP (vs:=r.c) hs rfl rfl aF fun w hs=>?_)
  obtain ⟨H2,hle2,r5,hs⟩:=hs.cV (b:=b5) (c:=r.c) .here
  have c5:cg H2 b5 0 r.c:=r5.cells 0 r.c
  refine .nil (.aj (.z zm ?_))
  refine .q hs (dz (f:=[]) (c:=[_]) rfl rfl) ?_
  refine .o (.call Tryz.call239 rfl (nf (g:=240) (cap:=[.pointer (some ⟨b5,0,none⟩)]) (fun t=>decide (t=r.td)) hs hO ak Tryz.call240 (fun w t hs=>oL hs r5)) ?_);rintro _ w ⟨b15,rfl,hb15,hs⟩
  refine .z fW (.nil ?_)
  refine (.cond rfl (fun hc16=>?_) (fun hc16=>?_))
  ·refine .region (.z zm ?_)
   refine .q hs (bY (vs:=r.c) rfl eG aF c5) ?_
   refine .o (.call Tryz.call241 rfl (ji (r:=r) hs) ?_);rintro _ w ⟨rfl,hs⟩
   refine .o (.buildSlice (cells:=[_,_]) hs iT rfl rfl fun b20 w hs=>?_)
   refine .o (.append (ys:=r.td.c) hs eS rfl rfl hO (.own .here rfl rfl) (by simp [TD.c,Value.oneCell']) (fun l h=>by rw [bT _ (pE _),eL] at h;omega) ?_);intro v21 en21 w hO2 hs
   refine .z zg (.nil ?_)
   refine nB (nT ?_)
   have hn:r.td∉a6 (s.rs.take k):=fun hm=>by
    rw [hb15.2 ⟨_,hm,cu⟩] at hc16;cases hc16
   rw [←w7,show a6 (s.rs.take k)++[r.td]=a6 (s.rs.take (k+1)) by rw [htk];unfold oW;rw [if_neg hn]] at hO2
   exact .mk ⟨_,_,H2,rfl,hle1.trans hle2,hO2,hs.sb⟩
  ·refine .skip ?_
   refine nB (nT ?_)
   have hm:r.td∈a6 (s.rs.take k):=by
    obtain ⟨x,h1,h2⟩:=hb15.1 (by simpa using hc16)
    rw [←of_decide_eq_true h2];exact h1
   exact .mk ⟨_,_,H2,rfl,hle1.trans hle2,by rw [htk];unfold oW;rw [if_pos hm];exact hO,hs⟩
 ·rintro fr w ⟨vo,en,H1,rfl,hle1,hO,hs⟩
  rw [List.take_length] at hO
  refine nT ?_
  refine .aj (.z zm (.z zg (.nil ?_)))
  refine .ret (Fin.bE Tryz.results189 rfl ?_)
  exact ⟨H1,en,hle1,hO,hs⟩
theorem qA{s:Srv}{vst vwa vr vc:Value}(hs:St H w σ)(hr:RRd H vr s.rs)(hl:s.rs.length≤1000000):
  Cl Tryz.prog 189 [.agg #[I s.sp.id,I s.sp.src,vst,vwa,I s.sp.al,I s.sp.up,vr,vc]] w fun u w'=>∃H1,HLe H H1∧RTd H1 u s.bO∧St H1 w' σ:=by
 refine (sa hs hr hl).mono ?_
 rintro u w' ⟨H1,en,hle1,hO,hs⟩
 have htl:=dL s.rs
 have htl':s.bO.length≤1000000:=by unfold Srv.bO;omega
 obtain ⟨H2,hle2,hR,hs⟩:=cI.cV (m:=2) hO (pE _) ak (by rw [eL];omega) hs .here
 exact ⟨H2,hle1.trans hle2,hR,hs⟩
theorem hZ{x0 x1 x2 x3 x4 x5 x6 x7 x8 vl:Value}{en:Ent}{bm:Nat}{ls:List Lim}{a b hi lo by_:Int}(hs:St H w (.blk bm [x0,x1,x2,x3,x4,x5,x6,x7,x8,vl]::en::σ))(hO:cI 4 vl (gZ ls) en)(hl:ls.length≤100000):
  Cl Tryz.prog 242 [.pointer (some ⟨bm,0,none⟩),I a,I b,I hi,I lo,I by_] w fun _ w'=>∃vl' en',cI 4 vl' (gZ (ls++two a b hi lo by_)) en'∧St H w' (.blk bm [x0,x1,x2,x3,x4,x5,x6,x7,x8,vl']::en'::σ):=by
 obtain ⟨al,ll,cl,rfl,h⟩:=hO.shape
 refine Cl.of Tryz.func242 rfl Tryz.ntmps242 cu (ea (k:=0) rfl (ea (k:=1) rfl (ea (k:=2) rfl (ea (k:=3) rfl (ea (k:=4) rfl (ea (k:=5) rfl (xS))))))) ?_
 refine .region (.z zm (.z zm (.z znc (.z (zfa jy) (.y hs (zld dj) (.z zm (.z zm (.z zm (.z zm ?_)))))))))
 refine .z (zbd [_,_,_,_] eP) (.z zm (.z zm (.z zm (.z zm (.z (zbd [_,_,_,_] eP) ?_)))))
 refine .o (.buildSlice (cells:=gZ (two a b hi lo by_)) hs fL rfl aq fun b27 w hs=>?_)
 refine .o (.append (ys:=gZ (two a b hi lo by_)) hs cM rfl rfl hO (.own .here rfl rfl) (ld _) (fun l h=>by rw [e7] at h;omega) ?_);intro v28 en28 w hO2 hs
 rw [←iI] at hO2
 obtain ⟨a28,l28,c28,rfl,h28⟩:=hO2.shape
 refine .z znc (.z (zfa jy) ?_)
 refine .o (.store hs rfl rfl o5 fun w hs=>?_)
 refine .nil ?_
 exact Fin.zh Tryz.results242 ⟨_,_,hO2,hs.sb⟩
theorem kY{s:Spc}{vst vwa x6 x7 x8 vl:Value}{bm:Nat}{j:Int}(hs:St H w σ)(hm:Mem σ (.blk bm [I s.id,I s.src,vst,vwa,I s.al,I s.up,x6,x7,x8,vl]))(h1:RI H vst s.st)(h2:RI H vwa s.wa)(hb:s.st.length≤1000∧s.wa.length≤1000)(hj: -1≤j∧j≤1000):
  Cl Tryz.prog 244 [.pointer (some ⟨bm,0,none⟩),I j] w fun u w'=>u=I ((s.many:Int)+1+j)∧St H w' σ:=by
 have hmm:s.many≤1000000:=Nat.mul_le_mul hb.1 hb.2
 refine Cl.o Tryz.func244 Tryz.ntmps244 ag2 ?_
 refine .aj (.z zg (.nil (.aj (.z zm (.z znc (.z (zfa dG) (.z (zfa bh) ?_)))))))
 refine .q hs (kV (vs:=[I s.id,I s.src,vst,vwa,I s.al,I s.up]) rfl aV aH hm) ?_
 refine .o (.call Tryz.call196 rfl (l9 (s:=s) hs h1 h2 hb) ?_);rintro _ w ⟨rfl,hs⟩
 refine .z cP (.z zm (.z cP (.z zg (.nil ?_))))
 refine .ret (Fin.bE Tryz.results244 rfl ?_)
 exact ⟨rfl,hs⟩
theorem fG{s:Spc}(h:eI s):s.st.length≤1000∧s.wa.length≤1000∧0<s.wa.length∧s.many≤63:=by
 have h1:=h.st.many;have h2:=h.wa.many;have h3:=h.wa.two
 have:s.many≤9*7:=Nat.mul_le_mul h1 h2
 omega
theorem pX{s:Srv}{ts:List TD}{vst vwa vr vc vt vl:Value}{en:Ent}{bm:Nat}{ls:List Lim}(hs:St H w (.blk bm [I s.sp.id,I s.sp.src,vst,vwa,I s.sp.al,I s.sp.up,vr,vc,vt,vl]::en::σ))(hk:MkK H s ts vst vwa vr vc vt)(hO:cI 4 vl (gZ ls) en)(hl:ls.length≤10000)(hok:eI s.sp):
  Cl Tryz.prog 190 [.pointer (some ⟨bm,0,none⟩)] w fun _ w'=>∃H1 vl' en',HLe H H1∧cI 4 vl' (gZ (ls++eH (q6 s.sp) s.sp.wa.length s.sp.st.length)) en'∧St H1 w' (.blk bm [I s.sp.id,I s.sp.src,vst,vwa,I s.sp.al,I s.sp.up,vr,vc,vt,vl']::en'::σ):=by
 have hsm:=fG hok
 refine Cl.o Tryz.func190 Tryz.ntmps190 ag1 ?_
 refine .aj ?_
 refine .bx hs fun b1 w hs=>?_
 refine .nil (.aj (.y hs (zld rC) (.z znc (.z (zfa dG) (.z (zfa bh) (.y hs (zls [_,_,_,_,_,_] aV aH) ?_))))))
 refine .o (.call B1 rfl (fC (s:=s.sp) hs hk.st hk.wa ⟨ak,ak⟩) ?_);rintro _ w ⟨H1,ba,hle1,rfl,hit,hs⟩
 refine .nil (.block ?_)
 refine .rangeFunc (gf:=188) (cap:=[.pointer (some ⟨ba,0,none⟩)]) (xs:=wQ s.sp) (σb:=[.blk bm [I s.sp.id,I s.sp.src,vst,vwa,I s.sp.al,I s.sp.up,vr,vc,vt,vl],en,.blk b1 [.pointer (some ⟨bm,0,none⟩)]]) (σf:=σ) (hs.sb) trivial rfl hit B0 (fun x hx=>by
   simp only [wQ,List.mem_map] at hx
   obtain ⟨j,_,rfl⟩:=hx;rfl) rfl
  (I:=fun p H' σb=>∃vl en,σb=[.blk bm [I s.sp.id,I s.sp.src,vst,vwa,I s.sp.al,I s.sp.up,vr,vc,vt,vl],en,.blk b1 [.pointer (some ⟨bm,0,none⟩)]]∧cI 4 vl (gZ (ls++qJ (q6 s.sp) s.sp.wa.length p)) en) (Ix:=fun _ _ _=>False)
  (fun j _ _ σ g1 g2=>g2) (fun _ _ _ _ _ h=>h) ⟨vl,en,rfl,by rw [oz,List.append_nil];exact hO⟩ ?_ ?_ (fun D c H' σb w _ h _=>h.elim)
 ·rintro ly p hp H2 σb2 σf2 w hle2 ⟨vl,en,rfl,hO⟩ hs ⟨rr,hrr⟩
  have hpm:p<s.sp.many:=by rw [ez] at hp;exact hp
  have hsucc:=oA (q6 s.sp) (p:=p) hsm.2.2.1
  have hpl:=j5 (mz s.sp) hsm.2.2.1 p
  have hin:p/s.sp.wa.length<s.sp.st.length:=Nat.div_lt_of_lt_mul (by rw [Nat.mul_comm];exact hpm)
  have hkm:=Nat.mod_lt p hsm.2.2.1
  have hdm:=Nat.div_add_mod p s.sp.wa.length
  rw [Nat.mul_comm] at hdm
  have hu:(s.sp.u (p/s.sp.wa.length) (p%s.sp.wa.length):Int)=(p:Int)+1:=by unfold Spc.u;omega
  rw [mE hp]
  obtain ⟨al,ll,cl,rfl,hll⟩:=hO.shape
  generalize p/s.sp.wa.length=i at*
  generalize p%s.sp.wa.length=k at*
  have hk2:=hk.mono (hle1.trans hle2)
  refine .region ?_
  refine .o (.alloc hs kN rfl fun b2 w hs=>?_)
  refine .o (.aP (vs:=[_,_,_]) hs rfl rfl oZ fun w hs=>?_)
  refine .nil ?_
  refine nT ?_
  refine ⟨H2,[.blk b2 [I (i:Int),I (k:Int),I ((p+1:Nat):Int)],.blk bm [I s.sp.id,I s.sp.src,vst,vwa,I s.sp.al,I s.sp.up,vr,vc,vt,.slice al ll cl],en,.blk b1 [.pointer (some ⟨bm,0,none⟩)]],HLe.refl _,hs,?_⟩;rintro w σf4 - hs
  refine .block ?_
  refine .draw mix rfl hs fun w hs=>?_
  refine .y 0 rfl hs rC ?_;refine .z 1 rfl (zfa eN) ?_;refine .y 2 rfl hs ae ?_;refine .y 3 rfl hs rC ?_;refine .z 4 rfl znc ?_;refine .z 5 rfl (zfa dG) ?_;refine .z 6 rfl (zfa bh) ?_;refine .z 7 rfl (zfa dM) ?_;refine .y 8 rfl hs ae ?_
  refine .E 9 hs ?_
  refine .call BY rfl (hZ (ls:=ls++qJ (q6 s.sp) s.sp.wa.length p) (hs.sb:St H2 w (.blk bm _::en:: .blk b1 _::σf4)) hO (by rw [List.length_append];omega)) ?_;rintro _ w ⟨vl3,en3,hO3,hs⟩
  rw [show two 0 ((p+1:Nat):Int) 20000 0 s.sp.src=q6 s.sp i k by unfold q6;rw [hu];rfl,List.append_assoc,←hsucc] at hO3
  refine .go ?_
  refine .D hs ?_
  refine nB ?_
  exact ⟨H2,_,HLe.refl _,hs,_,_,rfl,hO3⟩
 ·rintro D H2 σb2 w hle2 ⟨vl,en,rfl,hO⟩ hs
  rw [ez,show s.sp.many=s.sp.st.length*s.sp.wa.length from rfl,qI _ hsm.2.2.1] at hO
  refine nB ?_
  exact Fin.IV [D] [] hs fun w hs=>⟨_,results0 Tryz.results190,H2,vl,en,hle1.trans hle2,hO,(hs.sb:St H2 w (.blk bm _::en::σ))⟩
theorem tl{s:Srv}{ts:List TD}{vst vwa vr vc vt vl:Value}{en:Ent}{bm:Nat}{ls:List Lim}(hs:St H w (.blk bm [I s.sp.id,I s.sp.src,vst,vwa,I s.sp.al,I s.sp.up,vr,vc,vt,vl]::en::σ))(hk:MkK H s ts vst vwa vr vc vt)(hO:cI 4 vl (gZ ls) en)(hl:ls.length≤10000)(hok:eI s.sp):
  Cl Tryz.prog 191 [.pointer (some ⟨bm,0,none⟩)] w fun _ w'=>∃H1 vl' en',HLe H H1∧cI 4 vl' (gZ (ls++eH (alL s.sp) s.sp.wa.length s.sp.st.length)) en'∧St H1 w' (.blk bm [I s.sp.id,I s.sp.src,vst,vwa,I s.sp.al,I s.sp.up,vr,vc,vt,vl']::en'::σ):=by
 have hsm:=fG hok
 obtain ⟨ast,cst,rfl⟩:=RI.shape hk.st
 obtain ⟨awa,cwa,rfl⟩:=RI.shape hk.wa
 refine Cl.o Tryz.func191 Tryz.ntmps191 ag1 ?_
 refine .aj ?_
 refine .bx hs fun b1 w hs=>?_
 refine .nil (.aj (.y hs (zld rC) (.z znc (.z (zfa dG) (.z (zfa bh) (.y hs (zls [_,_,_,_,_,_] aV aH) ?_))))))
 refine .o (.alloc hs jI rfl fun b2 w hs=>?_)
 refine .o (.aP (vs:=[_,_,_,_,_,_]) hs rfl rfl aH fun w hs=>?_)
 refine .nil (.aj (.y hs (zls [_,_,_,_,_,_] aV aH) ?_))
 refine .o (.call B1 rfl (fC (s:=s.sp) hs hk.st hk.wa ⟨ak,ak⟩) ?_);rintro _ w ⟨H1,ba,hle1,rfl,hit,hs⟩
 refine .nil (.block ?_)
 refine .rangeFunc (gf:=188) (cap:=[.pointer (some ⟨ba,0,none⟩)]) (xs:=wQ s.sp) (σb:=[.blk bm [I s.sp.id,I s.sp.src,.slice ast s.sp.st.length cst,.slice awa s.sp.wa.length cwa,I s.sp.al,I s.sp.up,vr,vc,vt,vl],en,.blk b1 [.pointer (some ⟨bm,0,none⟩)],.blk b2 [I s.sp.id,I s.sp.src,.slice ast s.sp.st.length cst,.slice awa s.sp.wa.length cwa,I s.sp.al,I s.sp.up]]) (σf:=σ) (hs.sb) trivial rfl hit B0 (fun x hx=>by
   simp only [wQ,List.mem_map] at hx
   obtain ⟨j,_,rfl⟩:=hx;rfl) rfl
  (I:=fun p H' σb=>∃vl en,σb=[.blk bm [I s.sp.id,I s.sp.src,.slice ast s.sp.st.length cst,.slice awa s.sp.wa.length cwa,I s.sp.al,I s.sp.up,vr,vc,vt,vl],en,.blk b1 [.pointer (some ⟨bm,0,none⟩)],.blk b2 [I s.sp.id,I s.sp.src,.slice ast s.sp.st.length cst,.slice awa s.sp.wa.length cwa,I s.sp.al,I s.sp.up]]∧cI 4 vl (gZ (ls++qJ (alL s.sp) s.sp.wa.length p)) en) (Ix:=fun _ _ _=>False)
  (fun j _ _ σ g1 g2=>g2) (fun _ _ _ _ _ h=>h) ⟨vl,en,rfl,by rw [oz,List.append_nil];exact hO⟩ ?_ ?_ (fun D c H' σb w _ h _=>h.elim)
 ·rintro ly p hp H2 σb2 σf2 w hle2 ⟨vl,en,rfl,hO⟩ hs ⟨rr,hrr⟩
  have hpm:p<s.sp.many:=by rw [ez] at hp;exact hp
  have hsucc:=oA (alL s.sp) (p:=p) hsm.2.2.1
  have hpl:=j5 (qa s.sp) hsm.2.2.1 p
  have hin:p/s.sp.wa.length<s.sp.st.length:=Nat.div_lt_of_lt_mul (by rw [Nat.mul_comm];exact hpm)
  have hkm:=Nat.mod_lt p hsm.2.2.1
  have hdm:=Nat.div_add_mod p s.sp.wa.length
  rw [Nat.mul_comm] at hdm
  have hu:(s.sp.u (p/s.sp.wa.length) (p%s.sp.wa.length):Int)=(p:Int)+1:=by unfold Spc.u;omega
  rw [mE hp]
  obtain ⟨al,ll,cl,rfl,hll⟩:=hO.shape
  generalize p/s.sp.wa.length=i at*
  generalize p%s.sp.wa.length=k at*
  have hk2:=hk.mono (hle1.trans hle2)
  refine .region ?_
  refine .o (.alloc hs kN rfl fun b3 w hs=>?_)
  refine .o (.aP (vs:=[_,_,_]) hs rfl rfl oZ fun w hs=>?_)
  refine .nil ?_
  refine nT ?_
  refine ⟨H2,[.blk b3 [I (i:Int),I (k:Int),I ((p+1:Nat):Int)],.blk bm [I s.sp.id,I s.sp.src,.slice ast s.sp.st.length cst,.slice awa s.sp.wa.length cwa,I s.sp.al,I s.sp.up,vr,vc,vt,.slice al ll cl],en,.blk b1 [.pointer (some ⟨bm,0,none⟩)],.blk b2 [I s.sp.id,I s.sp.src,.slice ast s.sp.st.length cst,.slice awa s.sp.wa.length cwa,I s.sp.al,I s.sp.up]],HLe.refl _,hs,?_⟩;rintro w σf4 - hs
  refine .block (.aj (.z (zfa dA) (.y hs (zld ae) (.z cP (.z (zfa bP) (.y hs (zld an) (.z (dp af) (.z iK (.nil ?_)))))))))
  refine (.bH rfl (fun hc19=>?_) (fun hc19=>?_))
  ·refine .seq (.draw mix rfl hs fun w hs=>?_)
   refine .z 0 rfl (zfa dY) ?_;refine .z 1 rfl (zfa jC) ?_;refine .y 2 rfl hs ae ?_;refine .z 3 rfl (zfa bP) ?_;refine .y 4 rfl hs an ?_;refine .z 5 rfl (zfa dA) ?_;refine .y 6 rfl hs ae ?_;refine .z 7 rfl cP ?_
   have hris:=hok.st.rise i ak
   have hq0:=hok.st.bd (i:=i) ak
   have hq1:=hok.st.bd (i:=i+1) ak
   have hal:=hok.al
   refine .ixX (enc:=fun x=>[I x]) (i:=8) hs rfl aq .none hk2.st rfl rfl af ai (bU (l:=s.sp.st) (i:=(i+1)) ak) de ?_;intro b28 o28 hc28;replace hc28:=cg.one hc28
   refine .r (i:=9) hs rfl aq .none (aW rfl ae hc28) ?_
   refine .z 10 rfl (zfa bP) ?_;refine .y 11 rfl hs an ?_;refine .z 12 rfl (zfa dA) ?_;refine .y 13 rfl hs ae ?_
   refine .ixX (enc:=fun x=>[I x]) (i:=14) hs rfl aq .none hk2.st rfl rfl af ai (bU (l:=s.sp.st) (i:=i) ak) de ?_;intro b34 o34 hc34;replace hc34:=cg.one hc34
   refine .r (i:=15) hs rfl aq .none (aW rfl ae hc34) ?_
   refine .z 16 rfl gM ?_
   refine .E 17 hs ?_
   refine .call Tryz.call243 rfl (ma hs ak ak) ?_;rintro _ w ⟨rfl,hs⟩
   refine .go ?_
   refine .z 18 rfl zg ?_;refine .D hs ?_
   refine .region (.y hs (zld rC) (.z (zfa eN) (.y hs (zld ae) (.z (zfa eN) (.y hs (zld ae) (.z (zfa a8) (.y hs (zld an) (.z (dp af) (.z cP ?_)))))))))
   refine .z zm (.z zm (.z (zfa dM) (.y hs (zld ae) ?_)))
   refine .o (.call BY rfl (hZ (ls:=ls++qJ (alL s.sp) s.sp.wa.length p) (hs.sb:St H2 w (.blk bm _::en:: .blk b1 _:: .blk b2 _::σf4)) hO (by rw [List.length_append];omega)) ?_);rintro _ w ⟨vl3,en3,hO3,hs⟩
   have hu2:(s.sp.u (i+1) k:Int)=((p+1:Nat):Int)+(s.sp.wa.length:Int):=by unfold Spc.u at hu ⊢;rw [Nat.add_mul];omega
   rw [show two ((p+1:Nat):Int) (((p+1:Nat):Int)+(s.sp.wa.length:Int)) (kh s.sp.al (gi s.sp.st (i+1) - gi s.sp.st i)) (kh s.sp.al (gi s.sp.st (i+1) - gi s.sp.st i)) s.sp.src=alL s.sp i k by unfold alL;rw [if_pos ak,hu,hu2];rfl,List.append_assoc,←hsucc] at hO3
   refine .nil ?_
   refine nB ?_
   exact ⟨H2,_,HLe.refl _,hs,_,_,rfl,hO3⟩
  ·refine .skip ?_
   refine nB ?_
   rw [show alL s.sp i k=[] by unfold alL;rw [if_neg ak],List.append_nil] at hsucc
   exact ⟨H2,_,HLe.refl _,(hs.sb:St H2 w (.blk bm _::en:: .blk b1 _:: .blk b2 _::σf4)),_,_,rfl,by rw [hsucc];exact hO⟩
 ·rintro D H2 σb2 w hle2 ⟨vl,en,rfl,hO⟩ hs
  rw [ez,show s.sp.many=s.sp.st.length*s.sp.wa.length from rfl,qI _ hsm.2.2.1] at hO
  refine nB ?_
  exact Fin.IV [D] [] hs fun w hs=>⟨_,results0 Tryz.results191,H2,vl,en,hle1.trans hle2,hO,(hs.sb:St H2 w (.blk bm _::en::σ))⟩
theorem xr{s:Srv}{ts:List TD}{vst vwa vr vc vt vl:Value}{en:Ent}{bm:Nat}{ls:List Lim}(hs:St H w (.blk bm [I s.sp.id,I s.sp.src,vst,vwa,I s.sp.al,I s.sp.up,vr,vc,vt,vl]::en::σ))(hk:MkK H s ts vst vwa vr vc vt)(hO:cI 4 vl (gZ ls) en)(hl:ls.length≤10000)(hok:eI s.sp):
  Cl Tryz.prog 192 [.pointer (some ⟨bm,0,none⟩)] w fun _ w'=>∃H1 vl' en',HLe H H1∧cI 4 vl' (gZ (ls++eH (upL s.sp) s.sp.wa.length s.sp.st.length)) en'∧St H1 w' (.blk bm [I s.sp.id,I s.sp.src,vst,vwa,I s.sp.al,I s.sp.up,vr,vc,vt,vl']::en'::σ):=by
 have hsm:=fG hok
 obtain ⟨ast,cst,rfl⟩:=RI.shape hk.st
 obtain ⟨awa,cwa,rfl⟩:=RI.shape hk.wa
 refine Cl.o Tryz.func192 Tryz.ntmps192 ag1 ?_
 refine .aj ?_
 refine .bx hs fun b1 w hs=>?_
 refine .nil (.aj (.y hs (zld rC) (.z znc (.z (zfa dG) (.z (zfa bh) (.y hs (zls [_,_,_,_,_,_] aV aH) ?_))))))
 refine .o (.alloc hs jI rfl fun b2 w hs=>?_)
 refine .o (.aP (vs:=[_,_,_,_,_,_]) hs rfl rfl aH fun w hs=>?_)
 refine .nil (.aj (.y hs (zls [_,_,_,_,_,_] aV aH) ?_))
 refine .o (.call B1 rfl (fC (s:=s.sp) hs hk.st hk.wa ⟨ak,ak⟩) ?_);rintro _ w ⟨H1,ba,hle1,rfl,hit,hs⟩
 refine .nil (.block ?_)
 refine .rangeFunc (gf:=188) (cap:=[.pointer (some ⟨ba,0,none⟩)]) (xs:=wQ s.sp) (σb:=[.blk bm [I s.sp.id,I s.sp.src,.slice ast s.sp.st.length cst,.slice awa s.sp.wa.length cwa,I s.sp.al,I s.sp.up,vr,vc,vt,vl],en,.blk b1 [.pointer (some ⟨bm,0,none⟩)],.blk b2 [I s.sp.id,I s.sp.src,.slice ast s.sp.st.length cst,.slice awa s.sp.wa.length cwa,I s.sp.al,I s.sp.up]]) (σf:=σ) (hs.sb) trivial rfl hit B0 (fun x hx=>by
   simp only [wQ,List.mem_map] at hx
   obtain ⟨j,_,rfl⟩:=hx;rfl) rfl
  (I:=fun p H' σb=>∃vl en,σb=[.blk bm [I s.sp.id,I s.sp.src,.slice ast s.sp.st.length cst,.slice awa s.sp.wa.length cwa,I s.sp.al,I s.sp.up,vr,vc,vt,vl],en,.blk b1 [.pointer (some ⟨bm,0,none⟩)],.blk b2 [I s.sp.id,I s.sp.src,.slice ast s.sp.st.length cst,.slice awa s.sp.wa.length cwa,I s.sp.al,I s.sp.up]]∧cI 4 vl (gZ (ls++qJ (upL s.sp) s.sp.wa.length p)) en) (Ix:=fun _ _ _=>False)
  (fun j _ _ σ g1 g2=>g2) (fun _ _ _ _ _ h=>h) ⟨vl,en,rfl,by rw [oz,List.append_nil];exact hO⟩ ?_ ?_ (fun D c H' σb w _ h _=>h.elim)
 ·rintro ly p hp H2 σb2 σf2 w hle2 ⟨vl,en,rfl,hO⟩ hs ⟨rr,hrr⟩
  have hpm:p<s.sp.many:=by rw [ez] at hp;exact hp
  have hsucc:=oA (upL s.sp) (p:=p) hsm.2.2.1
  have hpl:=j5 (pD s.sp) hsm.2.2.1 p
  have hin:p/s.sp.wa.length<s.sp.st.length:=Nat.div_lt_of_lt_mul (by rw [Nat.mul_comm];exact hpm)
  have hkm:=Nat.mod_lt p hsm.2.2.1
  have hdm:=Nat.div_add_mod p s.sp.wa.length
  rw [Nat.mul_comm] at hdm
  have hu:(s.sp.u (p/s.sp.wa.length) (p%s.sp.wa.length):Int)=(p:Int)+1:=by unfold Spc.u;omega
  rw [mE hp]
  obtain ⟨al,ll,cl,rfl,hll⟩:=hO.shape
  generalize p/s.sp.wa.length=i at*
  generalize p%s.sp.wa.length=k at*
  have hk2:=hk.mono (hle1.trans hle2)
  refine .region ?_
  refine .o (.alloc hs kN rfl fun b3 w hs=>?_)
  refine .o (.aP (vs:=[_,_,_]) hs rfl rfl oZ fun w hs=>?_)
  refine .nil ?_
  refine nT ?_
  refine ⟨H2,[.blk b3 [I (i:Int),I (k:Int),I ((p+1:Nat):Int)],.blk bm [I s.sp.id,I s.sp.src,.slice ast s.sp.st.length cst,.slice awa s.sp.wa.length cwa,I s.sp.al,I s.sp.up,vr,vc,vt,.slice al ll cl],en,.blk b1 [.pointer (some ⟨bm,0,none⟩)],.blk b2 [I s.sp.id,I s.sp.src,.slice ast s.sp.st.length cst,.slice awa s.sp.wa.length cwa,I s.sp.al,I s.sp.up]],HLe.refl _,hs,?_⟩;rintro w σf4 - hs
  refine .block (.aj (.z (zfa dc) (.y hs (zld ae) (.z cP (.z (zfa a8) (.y hs (zld an) (.z (dp af) (.z iK (.nil ?_)))))))))
  refine (.bH rfl (fun hc19=>?_) (fun hc19=>?_))
  ·refine .seq (.draw mix rfl hs fun w hs=>?_)
   refine .z 0 rfl (zfa dY) ?_;refine .z 1 rfl (zfa jB) ?_;refine .y 2 rfl hs ae ?_;refine .z 3 rfl (zfa a8) ?_;refine .y 4 rfl hs an ?_;refine .z 5 rfl (zfa dc) ?_;refine .y 6 rfl hs ae ?_;refine .z 7 rfl cP ?_
   have hris:=hok.wa.rise k ak
   have hq0:=hok.wa.bd (i:=k) ak
   have hq1:=hok.wa.bd (i:=k+1) ak
   have hal:=hok.up
   refine .ixX (enc:=fun x=>[I x]) (i:=8) hs rfl aq .none hk2.wa rfl rfl af ai (bU (l:=s.sp.wa) (i:=(k+1)) ak) de ?_;intro b28 o28 hc28;replace hc28:=cg.one hc28
   refine .r (i:=9) hs rfl aq .none (aW rfl ae hc28) ?_
   refine .z 10 rfl (zfa a8) ?_;refine .y 11 rfl hs an ?_;refine .z 12 rfl (zfa dc) ?_;refine .y 13 rfl hs ae ?_
   refine .ixX (enc:=fun x=>[I x]) (i:=14) hs rfl aq .none hk2.wa rfl rfl af ai (bU (l:=s.sp.wa) (i:=k) ak) de ?_;intro b34 o34 hc34;replace hc34:=cg.one hc34
   refine .r (i:=15) hs rfl aq .none (aW rfl ae hc34) ?_
   refine .z 16 rfl gM ?_
   refine .E 17 hs ?_
   refine .call Tryz.call243 rfl (ma hs ak ak) ?_;rintro _ w ⟨rfl,hs⟩
   refine .go ?_
   refine .z 18 rfl zg ?_;refine .D hs ?_
   refine .region (.y hs (zld rC) (.z (zfa eN) (.y hs (zld ae) (.z (zfa eN) (.y hs (zld ae) (.z cP (.z zm (.z zm (.z (zfa dM) ?_)))))))))
   refine .y hs (zld ae) ?_
   refine .o (.call BY rfl (hZ (ls:=ls++qJ (upL s.sp) s.sp.wa.length p) (hs.sb:St H2 w (.blk bm _::en:: .blk b1 _:: .blk b2 _::σf4)) hO (by rw [List.length_append];omega)) ?_);rintro _ w ⟨vl3,en3,hO3,hs⟩
   have hu2:(s.sp.u i (k+1):Int)=((p+1:Nat):Int)+1:=by unfold Spc.u at hu ⊢;omega
   rw [show two ((p+1:Nat):Int) (((p+1:Nat):Int)+1) (kh s.sp.up (gi s.sp.wa (k+1) - gi s.sp.wa k)) (kh s.sp.up (gi s.sp.wa (k+1) - gi s.sp.wa k)) s.sp.src=upL s.sp i k by unfold upL;rw [if_pos ak,hu,hu2];rfl,List.append_assoc,←hsucc] at hO3
   refine .nil ?_
   refine nB ?_
   exact ⟨H2,_,HLe.refl _,hs,_,_,rfl,hO3⟩
  ·refine .skip ?_
   refine nB ?_
   rw [show upL s.sp i k=[] by unfold upL;rw [if_neg ak],List.append_nil] at hsucc
   exact ⟨H2,_,HLe.refl _,(hs.sb:St H2 w (.blk bm _::en:: .blk b1 _:: .blk b2 _::σf4)),_,_,rfl,by rw [hsucc];exact hO⟩
 ·rintro D H2 σb2 w hle2 ⟨vl,en,rfl,hO⟩ hs
  rw [ez,show s.sp.many=s.sp.st.length*s.sp.wa.length from rfl,qI _ hsm.2.2.1] at hO
  refine nB ?_
  exact Fin.IV [D] [] hs fun w hs=>⟨_,results0 Tryz.results192,H2,vl,en,hle1.trans hle2,hO,(hs.sb:St H2 w (.blk bm _::en::σ))⟩
theorem si{s:Srv}{ts:List TD}{vst vwa vr vc vt vl:Value}{en:Ent}{bm:Nat}{ls:List Lim}(hs:St H w (.blk bm [I s.sp.id,I s.sp.src,vst,vwa,I s.sp.al,I s.sp.up,vr,vc,vt,vl]::en::σ))(hk:MkK H s ts vst vwa vr vc vt)(hO:cI 4 vl (gZ ls) en)(hl:ls.length≤10000)(hok:eI s.sp)(htl:ts.length≤100):
  Cl Tryz.prog 193 [.pointer (some ⟨bm,0,none⟩)] w fun _ w'=>∃H1 vl' en',HLe H H1∧cI 4 vl' (gZ (ls++wM s.sp ts.length)) en'∧St H1 w' (.blk bm [I s.sp.id,I s.sp.src,vst,vwa,I s.sp.al,I s.sp.up,vr,vc,vt,vl']::en'::σ):=by
 have hsm:=fG hok
 obtain ⟨at_,ct,rfl⟩:=RTd.shape hk.ts
 refine Cl.o Tryz.func193 Tryz.ntmps193 ag1 ?_
 refine .aj (.z zm (.z znc (.z (zfa fI) (.y hs (zld HA) (.z (dp bB) (.z zm (.nil ?_)))))))
 refine .for (N:=ts.length) (J:=fun j fr w=>fr=[(0,.pointer (some ⟨bm,0,none⟩))]∧∃vl en,cI 4 vl (gZ (ls++wM s.sp j)) en∧St H w (.blk bm [I s.sp.id,I s.sp.src,vst,vwa,I s.sp.al,I s.sp.up,vr,vc,.slice at_ ts.length ct,vl]::en::σ)) ak ?_ ?_ ?_
 ·exact .mk ⟨rfl,vl,en,by show cI 4 vl (gZ (ls++[])) en;rw [List.append_nil];exact hO,hs⟩
 ·rintro j fr w hj ⟨rfl,vl,en,hO,hs⟩
  have hel:=gP s.sp j
  obtain ⟨al,ll,cl,rfl,hll⟩:=hO.shape
  refine .block (.aj (.z zm (.z zg (.nil ?_))))
  refine .draw mix rfl hs fun w hs=>?_
  refine .z 0 rfl zm ?_;refine .z 1 rfl zm ?_;refine .z 2 rfl zm ?_;refine .z 4 rfl zm ?_;refine .z 5 rfl znc ?_;refine .z 6 rfl (zfa dG) ?_;refine .z 7 rfl (zfa bh) ?_;refine .z 8 rfl (zfa dM) ?_;refine .y 9 rfl hs ae ?_
  refine .E 3 hs ?_
  refine .call Tryz.call244 rfl (kY (s:=s.sp) hs .here hk.st hk.wa ⟨ak,ak⟩ ⟨ak,ak⟩) ?_;rintro _ w ⟨rfl,hs⟩
  refine .go ?_
  refine .E 10 hs ?_
  refine .call BY rfl (hZ (ls:=ls++wM s.sp j) hs hO (by rw [List.length_append];omega)) ?_;rintro _ w ⟨vl3,en3,hO3,hs⟩
  rw [show (s.sp.many:Int)+1+(j:Int)=((s.sp.many+1+j:Nat):Int) by omega,List.append_assoc] at hO3
  refine .go ?_
  refine .D hs ?_
  refine nB (nT ?_)
  exact .mk ⟨rfl,vl3,en3,hO3,hs⟩
 ·rintro fr w ⟨rfl,vl,en,hO,hs⟩
  exact Fin.zh Tryz.results193 ⟨H,vl,en,HLe.refl _,hO,hs⟩
set_option maxHeartbeats 1000000 in
theorem pW{s:Srv}{ts:List TD}{vst vwa vr vc vt vl:Value}{en:Ent}{bm:Nat}{ls:List Lim}(hs:St H w (.blk bm [I s.sp.id,I s.sp.src,vst,vwa,I s.sp.al,I s.sp.up,vr,vc,vt,vl]::en::σ))(hk:MkK H s ts vst vwa vr vc vt)(hO:cI 4 vl (gZ ls) en)(hl:ls.length≤10000)(hok:eI s.sp)(htl:ts.length≤100)(hcl:s.cs.length≤20)(hc:∀c∈s.cs,sB c){j0:Nat}(hj0:j0≤ts.length):
  Cl Tryz.prog 245 [.pointer (some ⟨bm,0,none⟩),I (j0:Int)] w fun _ w'=>∃H1 vl' en',HLe H H1∧cI 4 vl' (gZ (ls++qZ s.sp ts s.cs j0 s.cs.length)) en'∧St H1 w' (.blk bm [I s.sp.id,I s.sp.src,vst,vwa,I s.sp.al,I s.sp.up,vr,vc,vt,vl']::en'::σ):=by
 have hsm:=fG hok
 obtain ⟨at_,ct,rfl⟩:=RTd.shape hk.ts
 obtain ⟨ac,cc,rfl⟩:=RCm.shape hk.cs
 refine Cl.o Tryz.func245 Tryz.ntmps245 ag2 ?_
 refine .aj (.z zm (.z znc (.z (zfa dG) (.z (zfa cD) (.y hs (zld e8) (.z (dp bw) (.z zm (.nil ?_))))))))
 refine .for (N:=s.cs.length) (J:=fun i fr w=>fr=[(12,.slice ac s.cs.length cc),(0,.pointer (some ⟨bm,0,none⟩)),(1,I (j0:Int))]∧∃vl en,cI 4 vl (gZ (ls++qZ s.sp ts s.cs j0 i)) en∧St H w (.blk bm [I s.sp.id,I s.sp.src,vst,vwa,I s.sp.al,I s.sp.up,vr,.slice ac s.cs.length cc,.slice at_ ts.length ct,vl]::en::σ)) ak ?_ ?_ ?_
 ·exact .mk ⟨rfl,vl,en,by show cI 4 vl (gZ (ls++[])) en;rw [List.append_nil];exact hO,hs⟩
 ·rintro i fr w hi ⟨rfl,vl,en,hO,hs⟩
  obtain ⟨c,hx⟩:=nth hi
  obtain ⟨g1,g2,g3,g4,g5,g6⟩:=hc c (List.mem_of_getElem? hx)
  have hcl1:=jn s.sp ts s.cs j0 i
  have hcl2:i*(2*(ts.length - j0))≤20*(2*100):=Nat.mul_le_mul ak ak
  refine .block (.aj ?_)
  refine .ixX (enc:=Cmp.c) hs hk.cs rfl rfl bw cE hx de ?_;intro b16 o16 hc16
  refine .q hs (bY (vs:=(Cmp.c c)) rfl Tryz.isAgg153 cE hc16) ?_
  refine .o (.alloc hs yf rfl fun b5 w hs=>?_)
  refine .o (.aP (vs:=c.c) hs rfl rfl cE fun w hs=>?_)
  replace hs:St H w (.blk bm [I s.sp.id,I s.sp.src,vst,vwa,I s.sp.al,I s.sp.up,vr,.slice ac s.cs.length cc,.slice at_ ts.length ct,vl]::en:: .blk b5 [I c.src,I c.tape,I c.fr,I c.to,I c.lo,I c.hi]::σ):=hs.sb
  refine .nil (.aj (.z zm (.z zg (.nil (.block ?_)))))
  refine .loop (fun j:Nat=>⟨62,[],[(6,I ((j0+j:Nat):Int)),(5,.pointer (some ⟨b5,0,none⟩)),(14,I (i:Int)),(13,I (s.cs.length:Int)),(12,.slice ac s.cs.length cc),(0,.pointer (some ⟨bm,0,none⟩)),(1,I (j0:Int))]⟩)
   (fun j w=>j0+j≤ts.length∧∃vl en,cI 4 vl (gZ (ls++qZ s.sp ts s.cs j0 i++ka s.sp ts c j0 j)) en∧St H w (.blk bm [I s.sp.id,I s.sp.src,vst,vwa,I s.sp.al,I s.sp.up,vr,.slice ac s.cs.length cc,.slice at_ ts.length ct,vl]::en:: .blk b5 [I c.src,I c.tape,I c.fr,I c.to,I c.lo,I c.hi]::σ)) (fun j=>ts.length - (j0+j)) 0 bj
   ⟨ak,vl,en,by show cI 4 vl (gZ (_++[])) en;rw [List.append_nil];exact hO,hs⟩ ?_
  clear hO hs
  rintro j w ⟨hj,vl,en,hO,hs⟩
  have hl1:=lJ s.sp ts c j0 j
  obtain ⟨al,ll,cl,rfl,hll⟩:=hO.shape
  refine .seq (.aj (.z zm (.z zm (.z znc (.z (zfa fI) (.y hs (zld HA) (.z (dp bB) (.z iK (.nil ?_)))))))))
  refine (.bH rfl (fun hc25=>?_) (fun hc25=>?_))
  ·refine .skip ?_
   refine nT ?_
   refine .seq (.block (.aj (.z zm (.z znc (.z (zfa fI) (.y hs (zld HA) (.z zm ?_)))))))
   obtain ⟨t,ht⟩:=nth (l:=ts) (k:=j0+j) ak
   have ht0:=FY ht
   refine .ixX (enc:=TD.c) hs hk.ts rfl rfl bB bL ht de ?_;intro b33 o33 hc33
   refine .q hs (bY (vs:=(TD.c t)) rfl ed bL hc33) ?_
   refine .o (.alloc hs kO rfl fun b7 w hs=>?_)
   refine .o (.aP (vs:=t.c) hs rfl rfl bL fun w hs=>?_)
   change St _ _ (.blk b7 [I t.tape,I t.day]::_) at hs
   refine .nil (.aj (.z (zfa mU) (.y hs (zld ae) (.z (zfa kj) (.y hs (zld ae) (.z gj (.z zm ?_)))))))
   refine .iW (t':=40) rfl (fun hb40=>?_) (fun hb40=>?_)
   ·refine .gT rfl rfl ?_
    refine .z (zfa ki) ?_
    refine .gT rfl rfl ?_
    refine .y hs (zld ae) ?_
    refine .gT rfl rfl ?_
    refine .z (zfa jc) ?_
    refine .gT rfl rfl ?_
    refine .y hs (zld ae) ?_
    refine .gT rfl rfl ?_
    refine .z (zfa gY) ?_
    refine .gT rfl rfl ?_
    refine .y hs (zld ae) ?_
    refine .gT rfl rfl ?_
    refine .o (.call dK rfl (bF hs) ?_);rintro _ w ⟨rfl,hs⟩
    refine .z zpT (.nil ?_)
    refine (.cond rfl (fun hc48=>?_) (fun hc48=>?_))
    ·refine .draw mix rfl hs fun w hs=>?_
     refine .z 0 rfl zm ?_;refine .z 1 rfl zm ?_;refine .z 2 rfl zm ?_;refine .z 4 rfl (zfa gX) ?_;refine .y 5 rfl hs ae ?_;refine .z 6 rfl Ea ?_;refine .z 7 rfl (zfa gW) ?_;refine .y 8 rfl hs ae ?_;refine .z 9 rfl (zfa jd) ?_;refine .y 10 rfl hs ae ?_
     refine .E 3 hs ?_
     refine .call Tryz.call244 rfl (kY (s:=s.sp) hs (.there .here) hk.st hk.wa ⟨ak,ak⟩ ⟨ak,ak⟩) ?_;rintro _ w ⟨rfl,hs⟩
     refine .go ?_
     refine .E 11 hs ?_
     refine .call BY rfl (hZ (ls:=ls++qZ s.sp ts s.cs j0 i++ka s.sp ts c j0 j) (hs.tail:St H w (.blk bm _::en:: .blk b5 _::σ)) hO (by rw [List.length_append,List.length_append];omega)) ?_;rintro _ w ⟨vl3,en3,hO3,hs⟩
     refine .go ?_
     refine .D hs ?_
     refine nB (nT ?_)
     refine .region (.z zm (.z cP (.z zg (.nil ?_))))
     refine nT ?_
     have e:ka s.sp ts c j0 (j+1)=ka s.sp ts c j0 j++two 0 ((s.sp.many:Int)+1+((j0+j:Nat):Int)) (-c.lo) c.hi c.src:=by
      show _++kS c (td0 ts (j0+j)) _=_
      rw [ht0];unfold kS;rw [if_pos (by simp at hc48;omega)]
      rw [show ((s.sp.many+1+(j0+j):Nat):Int)=(s.sp.many:Int)+1+((j0+j:Nat):Int) by omega]
     rw [List.append_assoc _ (ka _ _ _ _ _),←e] at hO3
     exact ⟨j+1,.dD rfl (by simp;omega) bj,⟨ak,vl3,en3,hO3,hs⟩,ak⟩
    ·refine .skip ?_
     refine nB (nT ?_)
     refine .region (.z zm (.z cP (.z zg (.nil ?_))))
     refine nT ?_
     have e:ka s.sp ts c j0 (j+1)=ka s.sp ts c j0 j:=by
      show _++kS c (td0 ts (j0+j)) _=_
      rw [ht0];unfold kS;rw [if_neg (by simp at hc48;omega),List.append_nil]
     exact ⟨j+1,.dD rfl (by simp;omega) bj,⟨ak,_,en,by rw [e];exact hO,hs.tail⟩,ak⟩
   ·refine .gFs 7 5 true rfl rfl rfl ?_
    refine .z zpF (.nil ?_)
    refine (.cF ?_)
    refine .skip ?_
    refine nB (nT ?_)
    refine .region (.z zm (.z cP (.z zg (.nil ?_))))
    refine nT ?_
    have e:ka s.sp ts c j0 (j+1)=ka s.sp ts c j0 j:=by
     show _++kS c (td0 ts (j0+j)) _=_
     rw [ht0];unfold kS;rw [if_neg ak,List.append_nil]
    exact ⟨j+1,.dD rfl (by simp;omega) bj,⟨ak,_,en,by rw [e];exact hO,hs.tail⟩,ak⟩
  ·refine .exit ?_
   refine xT (xT (xB (nB (nT ?_))))
   obtain rfl:j=ts.length - j0:=by omega
   rw [List.append_assoc,show qZ s.sp ts s.cs j0 i++ka s.sp ts c j0 (ts.length - j0)=qZ s.sp ts s.cs j0 (i+1) by rw [←DD hx];rfl] at hO
   exact .mk ⟨rfl,_,en,hO,hs.sb⟩
 ·rintro fr w ⟨rfl,vl,en,hO,hs⟩
  exact Fin.zh Tryz.results245 ⟨H,vl,en,HLe.refl _,hO,hs⟩
theorem nm{s:Srv}{ts:List TD}{vst vwa vr vc vt vl:Value}{en:Ent}{bm:Nat}{ls:List Lim}(hs:St H w (.blk bm [I s.sp.id,I s.sp.src,vst,vwa,I s.sp.al,I s.sp.up,vr,vc,vt,vl]::en::σ))(hk:MkK H s ts vst vwa vr vc vt)(hO:cI 4 vl (gZ ls) en)(hl:ls.length≤10000)(hok:eI s.sp)(htl:ts.length≤100)(hcl:s.cs.length≤20)(hc:∀c∈s.cs,sB c):
  Cl Tryz.prog 194 [.pointer (some ⟨bm,0,none⟩)] w fun _ w'=>∃H1 vl' en',HLe H H1∧cI 4 vl' (gZ (ls++qZ s.sp ts s.cs 0 s.cs.length)) en'∧St H1 w' (.blk bm [I s.sp.id,I s.sp.src,vst,vwa,I s.sp.al,I s.sp.up,vr,vc,vt,vl']::en'::σ):=by
 refine Cl.o Tryz.func194 Tryz.ntmps194 ag1 ?_
 refine .region (.z zm ?_)
 refine .o (.call Tryz.call245 rfl (pW (s:=s) (ts:=ts) (j0:=0) hs hk hO hl hok htl hcl hc ak) ?_);rintro _ w hs
 refine .nil ?_
 exact Fin.zh Tryz.results194 hs
set_option maxHeartbeats 1000000 in
theorem pV{s:Srv}{ts:List TD}{vst vwa vr vc vt vl:Value}{en:Ent}{bm:Nat}{ls:List Lim}(hs:St H w (.blk bm [I s.sp.id,I s.sp.src,vst,vwa,I s.sp.al,I s.sp.up,vr,vc,vt,vl]::en::σ))(hk:MkK H s ts vst vwa vr vc vt)(hO:cI 4 vl (gZ ls) en)(hl:ls.length≤10000)(hok:eI s.sp)(htl:ts.length≤100)(hrl:s.rs.length≤60)(hr:∀r∈s.rs,jE s.sp r)(hmem:∀r∈s.rs,r.td∈ts):
  Cl Tryz.prog 195 [.pointer (some ⟨bm,0,none⟩)] w fun _ w'=>∃H1 vl' en',HLe H H1∧cI 4 vl' (gZ (ls++uG s.sp ts s.rs s.rs.length)) en'∧St H1 w' (.blk bm [I s.sp.id,I s.sp.src,vst,vwa,I s.sp.al,I s.sp.up,vr,vc,vt,vl']::en'::σ):=by
 have hsm:=fG hok
 obtain ⟨at_,ct,rfl⟩:=RTd.shape hk.ts
 obtain ⟨ar,cr,rfl⟩:=RRd.shape hk.rs
 refine Cl.o Tryz.func195 Tryz.ntmps195 ag1 ?_
 refine .aj (.z zm (.z znc (.z (zfa dG) (.z (zfa aQ) (.y hs (zld bJ) (.z (dp au) (.z zm (.nil ?_))))))))
 refine .for (N:=s.rs.length) (J:=fun i fr w=>fr=[(9,.slice ar s.rs.length cr),(0,.pointer (some ⟨bm,0,none⟩))]∧∃vl en,cI 4 vl (gZ (ls++uG s.sp ts s.rs i)) en∧St H w (.blk bm [I s.sp.id,I s.sp.src,vst,vwa,I s.sp.al,I s.sp.up,.slice ar s.rs.length cr,vc,.slice at_ ts.length ct,vl]::en::σ)) ak ?_ ?_ ?_
 ·exact .mk ⟨rfl,vl,en,by show cI 4 vl (gZ (ls++[])) en;rw [List.append_nil];exact hO,hs⟩
 ·rintro i fr w hi ⟨rfl,vl,en,hO,hs⟩
  obtain ⟨r,hx⟩:=nth hi
  obtain ⟨g1,g2,g3,g4,g5,g6,g7⟩:=hr r (List.mem_of_getElem? hx)
  obtain ⟨k,k1,k2,k3⟩:=gq (hmem r (List.mem_of_getElem? hx))
  have hrl1:=gN s.sp ts s.rs i
  obtain ⟨al,ll,cl,rfl,hll⟩:=hO.shape
  refine .block (.aj ?_)
  refine .ixX (enc:=Rdg.c) hs hk.rs rfl rfl au aF hx de ?_;intro b13 o13 hc13
  refine .q hs (bY (vs:=(Rdg.c r)) rfl eG aF hc13) ?_
  refine .o (.alloc hs eQ rfl fun b3 w hs=>?_)
  refine .o (.aP (vs:=r.c) hs rfl rfl aF fun w hs=>?_)
  change St _ _ (.blk b3 [I r.src,I r.st,I r.wa,I r.val,I r.tol,I r.tape,I r.day]::_) at hs
  refine .nil ?_
  refine .seq (.draw mix rfl hs fun w hs=>?_)
  refine .z 0 rfl zm ?_;refine .z 1 rfl znc ?_;refine .z 2 rfl (zfa fI) ?_;refine .y 3 rfl hs HA ?_;refine .ys 4 rfl hs [_,_,_,_,_,_,_] eG aF ?_
  refine .E 5 hs ?_
  refine .call Tryz.call241 rfl (ji hs) ?_;rintro _ w ⟨rfl,hs⟩
  refine .go ?_
  refine .E 6 hs ?_
  refine .call Tryz.call246 rfl (uw (t:=r.td) hs hk.ts ak) ?_;rintro _ w ⟨rfl,hs⟩
  refine .go ?_
  refine .z 7 rfl zg ?_;refine .D hs ?_
  refine .draw mix rfl hs fun w hs=>?_
  refine .z 0 rfl zm ?_;refine .z 1 rfl zm ?_;refine .z 2 rfl zm ?_;refine .z 4 rfl zm ?_;refine .z 5 rfl znc ?_;refine .z 6 rfl (zfa dG) ?_;refine .z 7 rfl (zfa bh) ?_;refine .ys 8 rfl hs [_,_,_,_,_,_] aV aH ?_;refine .z 9 rfl (zfa fE) ?_;refine .y 10 rfl hs ae ?_
  refine .z 11 rfl (zfa fD) ?_;refine .y 12 rfl hs ae ?_;refine .z 14 rfl (zfa dn) ?_;refine .y 15 rfl hs ae ?_;refine .z 16 rfl (zfa da) ?_;refine .y 17 rfl hs ae ?_;refine .z 18 rfl cP ?_;refine .z 19 rfl (zfa da) ?_;refine .y 20 rfl hs ae ?_;refine .z 21 rfl (zfa dn) ?_
  refine .y 22 rfl hs ae ?_;refine .z 23 rfl gM ?_;refine .z 24 rfl (zfa eF) ?_;refine .y 25 rfl hs ae ?_
  refine .E 3 hs ?_
  refine .call Tryz.call244 rfl (kY (s:=s.sp) hs (.there .here) hk.st hk.wa ⟨ak,ak⟩ ⟨ak,ak⟩) ?_;rintro _ w ⟨rfl,hs⟩
  refine .go ?_
  refine .E 13 hs ?_
  refine .call Tryz.call247 rfl (oK (s:=s.sp) hs hk.wa ak ⟨ak,ak⟩ ⟨ak,ak⟩) ?_;rintro _ w ⟨rfl,hs⟩
  refine .go ?_
  refine .E 26 hs ?_
  refine .call BY rfl (hZ (ls:=ls++uG s.sp ts s.rs i) (hs.sb:St H w (.blk bm _::en:: .blk b3 _::σ)) hO (by rw [List.length_append];omega)) ?_;rintro _ w ⟨vl3,en3,hO3,hs⟩
  refine .go ?_
  refine .D hs ?_
  refine nB (nT ?_)
  rw [List.append_assoc,show uG s.sp ts s.rs i++two ((s.sp.many:Int)+1+jW ts r.td) (1+r.st*s.sp.wa.length+r.wa) (r.val+r.tol) (r.tol - r.val) r.src=uG s.sp ts s.rs (i+1) by rw [←CC hx];rfl] at hO3
  exact .mk ⟨rfl,vl3,en3,hO3,hs.sb⟩
 ·rintro fr w ⟨rfl,vl,en,hO,hs⟩
  exact Fin.zh Tryz.results195 ⟨H,vl,en,HLe.refl _,hO,hs⟩
def fnK:Nat→Nat
 |0=>190
 |1=>191
 |2=>192
 |3=>193
 |4=>194
 |_=>195
theorem Fq{k:Nat}(hk:k<6):∀args w,(callFunc (fnK k) args).run Tryz.prog w= .ok (.enter (fnK k) args) w:=by
 have h:k=0∨k=1∨k=2∨k=3∨k=4∨k=5:=by omega
 rcases h with rfl|rfl|rfl|rfl|rfl|rfl
 ·exact Tryz.call190
 ·exact Tryz.call191
 ·exact Tryz.call192
 ·exact Tryz.call193
 ·exact Tryz.call194
 ·exact Tryz.call195
theorem CT{s:Srv}{vst vwa vr vc vt vl:Value}{en:Ent}{bm k:Nat}(hs:St H w (.blk bm [I s.sp.id,I s.sp.src,vst,vwa,I s.sp.al,I s.sp.up,vr,vc,vt,vl]::en::σ))(hk:MkK H s s.bO vst vwa vr vc vt)(hO:cI 4 vl (gZ (s.parts k)) en)(he:s.early)(hk6:k<6):
  Cl Tryz.prog (fnK k) [.pointer (some ⟨bm,0,none⟩)] w fun _ w'=>∃H1 vl' en',HLe H H1∧cI 4 vl' (gZ (s.parts (k+1))) en'∧St H1 w' (.blk bm [I s.sp.id,I s.sp.src,vst,vwa,I s.sp.al,I s.sp.up,vr,vc,vt,vl']::en'::σ):=by
 have hl:=lE he k ak
 obtain ⟨hok,h1,h2,h3,h4⟩:=he
 have htl:s.bO.length≤100:=by have:=dL s.rs;unfold Srv.bO;omega
 have h:k=0∨k=1∨k=2∨k=3∨k=4∨k=5:=by omega
 rcases h with rfl|rfl|rfl|rfl|rfl|rfl
 ·exact pX hs hk hO (Nat.le_trans hl dO) hok
 ·exact tl hs hk hO (Nat.le_trans hl dO) hok
 ·exact xr hs hk hO (Nat.le_trans hl dO) hok
 ·exact si hs hk hO (Nat.le_trans hl dO) hok htl
 ·exact nm hs hk hO (Nat.le_trans hl dO) hok htl h2 h4
 ·exact pV hs hk hO (Nat.le_trans hl dO) hok htl h1 h3 fun r hr=>eY.2 ⟨r,hr,rfl⟩
def fnV(b:Nat)(k:Nat):Value:= .func (.func (fnK k)) #[.pointer (some ⟨b,0,none⟩)] #[]
theorem GN(b:Nat){k:Nat}(hk:k<6):[fnV b 0,fnV b 1,fnV b 2,fnV b 3,fnV b 4,fnV b 5][k]? =some (fnV b k):=by
 have h:k=0∨k=1∨k=2∨k=3∨k=4∨k=5:=by omega
 rcases h with rfl|rfl|rfl|rfl|rfl|rfl<;>rfl
set_option maxHeartbeats 1000000 in
theorem qB{s:Srv}{vst vwa vr vc:Value}(hs:St H w σ)(h1:RI H vst s.sp.st)(h2:RI H vwa s.sp.wa)(h3:RRd H vr s.rs)(h4:RCm H vc s.cs)(he:s.early):
  Cl Tryz.prog 133 [.agg #[I s.sp.id,I s.sp.src,vst,vwa,I s.sp.al,I s.sp.up,vr,vc]] w fun u w'=>∃H1 vl en,HLe H H1∧u= .agg #[I s.sys.many,vl]∧cI 4 vl (gZ s.cH) en∧St H1 w' (en::σ):=by
 have hsm:=fG he.1
 have htl:s.bO.length≤60:=by have:=dL s.rs;have:=he.2.1;unfold Srv.bO;omega
 refine Cl.o Tryz.func133 Tryz.ntmps133 ag1 ?_
 refine .aj ?_
 refine .bx hs fun b1 w hs=>?_
 refine .o (.alloc hs eg rfl fun b2 w hs=>?_)
 refine .nil ?_
 refine .seq (.draw mix rfl hs fun w hs=>?_)
 refine .ys 0 rfl hs [_,_,_,_,_,_,_,_] aZ aD ?_;refine .ys 1 rfl hs [_,_,_,_,_,_,_,_] aZ aD ?_
 refine .E 2 hs ?_
 refine .call Tryz.call189 rfl (qA hs h3 (by have:=he.2.1;omega)) ?_;rintro v8 w ⟨H1,hle1,hT,hs⟩
 obtain ⟨at_,ct,rfl⟩:=RTd.shape hT
 have hk0:MkK H1 s s.bO vst vwa vr vc (.slice at_ s.bO.length ct):=⟨h1.mono hle1,h2.mono hle1,h3.mono hle1,h4.mono hle1,hT⟩
 refine .go ?_
 refine .z 3 rfl (zbd (vs:=[(0,.agg #[I s.sp.id,I s.sp.src,vst,vwa,I s.sp.al,I s.sp.up,vr,vc]),(1,.slice at_ s.bO.length ct)]) [I s.sp.id,I s.sp.src,vst,vwa,I s.sp.al,I s.sp.up,vr,vc,.slice at_ s.bO.length ct,.slice none 0 0] sy rfl aq) ?_
 refine .E 4 hs ?_
 refine .box hs rfl rfl ?_;intro b10 w hs
 refine .go ?_
 refine .z 5 rfl zg ?_;refine .D hs ?_
 refine .seq (.aj (.z zm ?_))
 refine .q hs (dz (f:=[_]) (c:=[]) rfl rfl) ?_
 refine .z zm ?_
 refine .q hs (dz (f:=[_]) (c:=[]) rfl rfl) ?_
 refine .z zm ?_
 refine .q hs (dz (f:=[_]) (c:=[]) rfl rfl) ?_
 refine .z zm ?_
 refine .q hs (dz (f:=[_]) (c:=[]) rfl rfl) ?_
 refine .z zm ?_
 refine .q hs (dz (f:=[_]) (c:=[]) rfl rfl) ?_
 refine .z zm ?_
 refine .q hs (dz (f:=[_]) (c:=[]) rfl rfl) ?_
 refine .o (.buildSlice (cells:=[fnV b10 0,fnV b10 1,fnV b10 2,fnV b10 3,fnV b10 4,fnV b10 5]) hs xP rfl aq fun b23 w hs=>?_)
 refine .z (dp Tryz.runUnderlying247) ?_
 refine .z zm (.nil ?_)
 refine .for (N:=6) (J:=fun k fr w=>fr=[(23,.slice (some ⟨b23,0,none⟩) 6 6),(3,.pointer (some ⟨b10,0,none⟩)),(2,.pointer (some ⟨b2,0,none⟩)),(1,.pointer (some ⟨b1,0,none⟩))]∧∃H2 vl en,HLe H1 H2∧cI 4 vl (gZ (s.parts k)) en∧St H2 w (.blk b10 [I s.sp.id,I s.sp.src,vst,vwa,I s.sp.al,I s.sp.up,vr,vc,.slice at_ s.bO.length ct,vl]::en:: .blk b23 [fnV b10 0,fnV b10 1,fnV b10 2,fnV b10 3,fnV b10 4,fnV b10 5]:: .blk b2 [I 0,.slice none 0 0]:: .blk b1 [I s.sp.id,I s.sp.src,vst,vwa,I s.sp.al,I s.sp.up,vr,vc]::σ)) ak ?_ ?_ ?_
 ·exact .mk ⟨rfl,H1,.slice none 0 0,.nul,HLe.refl _,.nil 4 none,hs.nul.sb⟩
 ·rintro k fr w hk ⟨rfl,H2,vl,en,hle2,hO,hs⟩
  refine .block (.aj ?_)
  refine .z (zix Tryz.runUnderlying247 Tryz.sizeOf1) ?_
  refine .q hs (iw rfl Tryz.isAgg1 (hv:=GN b10 hk)) ?_
  refine .z zg (.nil (.region (.z zm ?_)))
  refine .o (.oS (first:=[.pointer (some ⟨b10,0,none⟩)]) (cap:=[]) rfl rfl (Fq hk) (CT hs (hk0.mono hle2) hO he hk) ?_);rintro _ w ⟨H3,vl3,en3,hle3,hO3,hs⟩
  refine .nil ?_
  refine nB (nT ?_)
  exact .mk ⟨rfl,H3,vl3,en3,hle2.trans hle3,hO3,hs⟩
 ·rintro fr w ⟨rfl,H2,vl,en,hle2,hO,hs⟩
  rw [s.xl] at hO
  obtain ⟨al,ll,cl,rfl,hll⟩:=hO.shape
  refine nT ?_
  refine .seq (.draw mix rfl hs fun w hs=>?_)
  refine .z 0 rfl (zfa bh) ?_;refine .ys 1 rfl hs [_,_,_,_,_,_] aV aH ?_;refine .z 3 rfl zm ?_;refine .z 4 rfl znc ?_;refine .z 5 rfl (zfa fI) ?_;refine .y 6 rfl hs HA ?_;refine .z 7 rfl (dp bB) ?_;refine .z 9 rfl zm ?_;refine .z 10 rfl znc ?_;refine .z 11 rfl (zfa jy) ?_
  refine .y 12 rfl hs dj ?_
  refine .E 2 hs ?_
  refine .call Tryz.call196 rfl (l9 (s:=s.sp) hs (h1.mono (hle1.trans hle2)) (h2.mono (hle1.trans hle2)) ⟨ak,ak⟩) ?_;rintro _ w ⟨rfl,hs⟩
  refine .go ?_
  refine .z 8 rfl cP ?_;refine .z 13 rfl (zbd [_,_] lW) ?_
  refine .E 14 hs ?_
  refine .aP (vs:=[_,_]) hs rfl rfl aN ?_;intro w hs
  refine .go ?_
  refine .D hs ?_
  refine .ret ?_
  replace hs:St H2 w (.blk b2 [I ((s.sp.many:Int)+(s.bO.length:Int)),.slice al ll cl]::en::σ):=hs.sb
  exact Fin.iZ [] [] hs fun w hs=>⟨_,results1 Tryz.results133 (dJ (vs:=[_,_]) hs rfl bG aN),H2,_,en,hle1.trans hle2,by show _=Value.agg #[I ((s.sp.many+s.bO.length:Nat):Int),_];rw [Int.natCast_add],hO,hs.tail⟩
theorem fo{s:Srv}{vst vwa vr vc:Value}(hs:St H w σ)(h1:RI H vst s.sp.st)(h2:RI H vwa s.sp.wa)(h3:RRd H vr s.rs)(h4:RCm H vc s.cs)(he:s.early):
  Cl Tryz.prog 133 [.agg #[I s.sp.id,I s.sp.src,vst,vwa,I s.sp.al,I s.sp.up,vr,vc]] w fun u w'=>∃H1,HLe H H1∧RSy H1 u s.sys∧St H1 w' σ:=by
 refine (qB hs h1 h2 h3 h4 he).mono ?_
 rintro u w' ⟨H1,vl,en,hle,rfl,hO,hs⟩
 have hl:=lE he 6 ak
 rw [s.xl] at hl
 obtain ⟨H2,hle2,hR,hs⟩:=cI.cV (m:=4) (cs:=s.cH.map Lim.c) hO (fun c hc=>by simp only [List.mem_map] at hc;obtain ⟨x,_,rfl⟩:=hc;rfl) ak (by rw [List.length_map];omega) hs .here
 exact ⟨H2,hle.trans hle2,⟨vl,rfl,hR⟩,hs⟩
set_option maxHeartbeats 1000000 in
theorem fH{s:Srv}{vst vwa vr vc:Value}(hs:St H w σ)(h1:RI H vst s.sp.st)(h2:RI H vwa s.sp.wa)(h3:RRd H vr s.rs)(h4:RCm H vc s.cs):
  Cl Tryz.prog 117 [.agg #[I s.sp.id,I s.sp.src,vst,vwa,I s.sp.al,I s.sp.up,vr,vc]] w fun u w'=>∃H1 e,HLe H H1∧u=I e∧wT s e∧St H1 w' σ:=by
 obtain ⟨ast,cst,rfl⟩:=RI.shape h1
 obtain ⟨awa,cwa,rfl⟩:=RI.shape h2
 obtain ⟨ar,cr,rfl⟩:=RRd.shape h3
 obtain ⟨ac,cc,rfl⟩:=RCm.shape h4
 refine Cl.o Tryz.func117 Tryz.ntmps117 ag1 ?_
 refine .aj ?_
 refine .bx hs fun b1 w hs=>?_
 refine .z zg (.nil (.seq (.aj (.z (zfa bh) (.y hs (zls [_,_,_,_,_,_] aV aH) ?_)))))
 refine .o (.call Tryz.call111 rfl (fa (s:=s.sp) hs h1 h2) ?_);rintro _ w ⟨H1,e,hle1,rfl,he,hs⟩
 refine .z zg (.nil (.aj (.z zm (.z gS (.nil ?_)))))
 refine (.ek rfl (fun hc13=>?_) (fun hc13=>?_))
 ·refine .aj (.z zm (.z zg (.nil ?_)))
  refine .ret (rT (Fin.bE ku rfl ?_))
  have hq:¬eI s.sp∧e=30:=he.resolve_left fun h=>hc13 h.2
  exact ⟨H1,_,hle1,rfl,by rw [hq.2];exact .space hq.1,hs.out⟩
 ·refine .skip ?_
  refine nT ?_
  refine .seq (.aj (.z (zfa aQ) ?_))
  have hok:eI s.sp:=(he.resolve_right fun h=>by omega).1
  refine .y hs (zld bJ) (.z (dp au) (.z mI (.z zm ?_)))
  refine .iW (t':=19) rfl (fun hb19=>?_) (fun hb19=>?_)
  ·refine .gFs 4 4 false rfl rfl rfl ?_
   refine .z zpT (.nil ?_)
   refine (.cT ?_)
   refine .aj (.z zg (.nil ?_))
   refine .ret (rT (Fin.bE ku rfl ?_))
   exact ⟨H1,_,hle1,rfl,.long hok ak,hs.out⟩
  ·refine .gT rfl rfl ?_
   refine .z (zfa cD) ?_
   refine .gT rfl rfl ?_
   refine .y hs (zld e8) ?_
   refine .gT rfl rfl ?_
   refine .z (dp bw) ?_
   refine .gT rfl rfl ?_
   refine .z mI (.z zpF (.nil ?_))
   refine (.bH rfl (fun hc24=>?_) (fun hc24=>?_))
   ·refine .aj (.z zg (.nil ?_))
    refine .ret (rT (Fin.bE ku rfl ?_))
    exact ⟨H1,_,hle1,rfl,.long hok ak,hs.out⟩
   ·refine .skip ?_
    refine nT ?_
    refine .seq (.aj (.z (zfa aQ) (.y hs (zld bJ) (.z (dp au) (.z zm (.nil ?_))))))
    refine .for (N:=s.rs.length) (J:=fun k fr w=>fr=[(26,.slice ar s.rs.length cr),(1,.pointer (some ⟨b1,0,none⟩))]∧(∀j<k,∀y,s.rs[j]? =some y→jE s.sp y)∧St H1 w (.blk b1 [I s.sp.id,I s.sp.src,.slice ast s.sp.st.length cst,.slice awa s.sp.wa.length cwa,I s.sp.al,I s.sp.up,.slice ar s.rs.length cr,.slice ac s.cs.length cc]::σ)) ak ?_ ?_ ?_
    ·exact .mk ⟨rfl,fun j hj=>by omega,hs⟩
    ·rintro k fr w hk ⟨rfl,hno,hs⟩
     obtain ⟨r,hx⟩:=nth hk
     refine .block (.aj ?_)
     refine .ixX (enc:=Rdg.c) hs (h3.mono hle1) rfl rfl au aF hx de ?_;intro b30 o30 hc30
     refine .q hs (bY (vs:=(Rdg.c r)) rfl eG aF hc30) ?_
     refine .o (.alloc hs eQ rfl fun b5 w hs=>?_)
     refine .o (.aP (vs:=r.c) hs rfl rfl aF fun w hs=>?_)
     change St _ _ (.blk b5 [I r.src,I r.st,I r.wa,I r.val,I r.tol,I r.tape,I r.day]::_) at hs
     refine .nil (.aj (.z (zfa bh) (.y hs (zls [_,_,_,_,_,_] aV aH) (.y hs (zls [_,_,_,_,_,_,_] eG aF) ?_))))
     refine .o (.call Tryz.call120 rfl (nh (s:=s.sp) (r:=r) hs (h1.mono hle1) (h2.mono hle1)) ?_);rintro _ w ⟨b35,rfl,hb35,hs⟩
     refine .z fW (.nil ?_)
     refine (.cond rfl (fun hc36=>?_) (fun hc36=>?_))
     ·refine .aj (.z zg (.nil ?_))
      refine .ret (rB (rT (rB (rT (Fin.bE ku rfl ?_)))))
      exact ⟨H1,_,hle1,rfl,.rdg hok ak (fun h=>by rw [hb35.2 (h r (List.mem_of_getElem? hx))] at hc36;cases hc36),hs.out⟩
     ·refine .skip ?_
      refine nB (nT ?_)
      exact .mk ⟨rfl,fm hno hx (hb35.1 (by simpa using hc36)),hs.tail⟩
    ·rintro fr w ⟨rfl,hno,hs⟩
     have hrs:∀r∈s.rs,jE s.sp r:=fun r hr=>by
      obtain ⟨j,hj⟩:=List.getElem?_of_mem hr
      exact hno j (List.getElem?_eq_some_iff.1 hj).1 r hj
     clear hno
     refine nT ?_
     refine .seq (.aj (.z (zfa cD) (.y hs (zld e8) (.z (dp bw) (.z zm (.nil ?_))))))
     refine .for (N:=s.cs.length) (J:=fun k fr w=>fr=[(39,.slice ac s.cs.length cc),(1,.pointer (some ⟨b1,0,none⟩))]∧(∀j<k,∀y,s.cs[j]? =some y→sB y)∧St H1 w (.blk b1 [I s.sp.id,I s.sp.src,.slice ast s.sp.st.length cst,.slice awa s.sp.wa.length cwa,I s.sp.al,I s.sp.up,.slice ar s.rs.length cr,.slice ac s.cs.length cc]::σ)) ak ?_ ?_ ?_
     ·exact .mk ⟨rfl,fun j hj=>by omega,hs⟩
     ·rintro k fr w hk ⟨rfl,hno,hs⟩
      obtain ⟨c,hx⟩:=nth hk
      refine .block (.aj ?_)
      refine .ixX (enc:=Cmp.c) hs (h4.mono hle1) rfl rfl bw cE hx de ?_;intro b43 o43 hc43
      refine .q hs (bY (vs:=(Cmp.c c)) rfl Tryz.isAgg153 cE hc43) ?_
      refine .o (.alloc hs yf rfl fun b7 w hs=>?_)
      refine .o (.aP (vs:=c.c) hs rfl rfl cE fun w hs=>?_)
      change St _ _ (.blk b7 [I c.src,I c.tape,I c.fr,I c.to,I c.lo,I c.hi]::_) at hs
      refine .nil (.aj (.y hs (zls [_,_,_,_,_,_] Tryz.isAgg153 cE) ?_))
      refine .o (.call Tryz.call170 rfl (ni (c:=c) hs) ?_);rintro _ w ⟨b46,rfl,hb46,hs⟩
      refine .z fW (.nil ?_)
      refine (.cond rfl (fun hc47=>?_) (fun hc47=>?_))
      ·refine .aj (.z zg (.nil ?_))
       refine .ret (rB (rT (rB (rT (Fin.bE ku rfl ?_)))))
       exact ⟨H1,_,hle1,rfl,.cmp hok ak hrs (fun h=>by rw [hb46.2 (h c (List.mem_of_getElem? hx))] at hc47;cases hc47),hs.out⟩
      ·refine .skip ?_
       refine nB (nT ?_)
       exact .mk ⟨rfl,fm hno hx (hb46.1 (by simpa using hc47)),hs.tail⟩
     ·rintro fr w ⟨rfl,hno,hs⟩
      have hcs:∀c∈s.cs,sB c:=fun c hc=>by
       obtain ⟨j,hj⟩:=List.getElem?_of_mem hc
       exact hno j (List.getElem?_eq_some_iff.1 hj).1 c hj
      have hea:s.early:=⟨hok,ak,ak,hrs,hcs⟩
      have hsm:=fG hok
      have htl:s.bO.length≤60:=by have:=dL s.rs;have:=hea.2.1;unfold Srv.bO;omega
      have hll:=lE hea 6 ak
      rw [s.xl] at hll
      have hsm2:s.sys.many=((s.sp.many+s.bO.length:Nat):Int):=rfl
      refine nT ?_
      refine .seq (.aj (.y hs (zls [_,_,_,_,_,_,_,_] aZ aD) ?_))
      refine .o (.call JC rfl (fo (s:=s) hs (h1.mono hle1) (h2.mono hle1) (h3.mono hle1) (h4.mono hle1) hea) ?_);rintro _ w ⟨H2,hle2,⟨ul,rfl,hL⟩,hs⟩
      obtain ⟨al,cl,rfl⟩:=RL.shape hL
      have hsl:s.sys.cH.length=s.cH.length:=rfl
      refine .o (.alloc hs eg rfl fun b8 w hs=>?_)
      refine .o (.aP (vs:=[_,_]) hs rfl rfl aN fun w hs=>?_)
      refine .nil (.aj (.z (zfa cA) (.y hs (zld ae) (.z mI (.z zm ?_)))))
      refine .iW (t':=54) rfl (fun hb54=>?_) (fun hb54=>?_)
      ·refine .gFs 4 3 false rfl rfl rfl ?_
       refine .z zpT (.nil ?_)
       refine (.cT ?_)
       refine .aj (.z zg (.nil ?_))
       refine .ret (rT (Fin.bE ku rfl ?_))
       exact ⟨H2,_,hle1.trans hle2,rfl,.big hea ak,hs.out⟩
      ·refine .gT rfl rfl ?_
       refine .z (zfa cf) ?_
       refine .gT rfl rfl ?_
       refine .y hs (zld dj) ?_
       refine .gT rfl rfl ?_
       refine .z (dp aU) ?_
       refine .gT rfl rfl ?_
       refine .z mI (.z zpF (.nil ?_))
       refine (.bH rfl (fun hc59=>?_) (fun hc59=>?_))
       ·refine .aj (.z zg (.nil ?_))
        refine .ret (rT (Fin.bE ku rfl ?_))
        exact ⟨H2,_,hle1.trans hle2,rfl,.big hea ak,hs.out⟩
       ·refine .skip ?_
        refine nT ?_
        refine .aj (.z zg (.nil ?_))
        refine .ret (Fin.bE ku rfl ?_)
        exact ⟨H2,_,hle1.trans hle2,rfl,.ok hea ⟨ak,ak⟩,hs.out⟩
theorem ep{a0 a1 a2:Int}(hs:St H w σ):Cl Tryz.prog 167 [I a0,I a1,I a2] w fun v w'=>v= .bool (decide (a1≤a0∧a0≤a2))∧St H w' σ:=by
 refine Cl.o Tryz.func167 Tryz.ntmps167 ag3 ?_
 refine .aj (.z zg (.nil (.aj (.z zm (.z zm (.z uc (.z zm ?_)))))))
 refine .iW (t':=10) rfl (fun hb10=>?_) (fun hb10=>?_)
 ·refine .gT rfl rfl ?_
  refine .z zm ?_
  refine .gT rfl rfl ?_
  refine .z zm ?_
  refine .gT rfl rfl ?_
  refine .z oF (.z zpT (.z zg (.nil ?_)))
  refine .ret (Fin.bE Tryz.results167 rfl ?_)
  exact ⟨by simp [*],hs.out⟩
 ·refine .gFs 3 3 true rfl rfl rfl ?_
  refine .z zpF (.z zg (.nil ?_))
  refine .ret (Fin.bE Tryz.results167 rfl ?_)
  exact ⟨by simp [*],hs.out⟩
theorem HK{s:Spc}(h1:fU 9 100000 s.st)(h2:fU 9 100000 s.wa)(h3:s.wa.length≤7)(h4:gi s.wa (s.wa.length - 1)≤15000)(h5:1≤s.id∧s.id≤99999)(h6:1≤s.src∧s.src≤99999)(h7:0≤s.al∧s.al≤100000)(h8:0≤s.up∧s.up≤100000):eI s:=
 ⟨h1,⟨h2.two,h3,h2.low,h4,h2.rise⟩,h5,h6,h7,h8⟩
theorem Cq{s:Spc}(h:eI s):fU 9 100000 s.wa:=⟨h.wa.two,by have:=h.wa.many;omega,h.wa.low,by have:=h.wa.high;omega,h.wa.rise⟩
theorem jY{s:Spc}{vst vwa:Value}(hs:St H w σ)(h1:RI H vst s.st)(h2:RI H vwa s.wa):
  Cl Tryz.prog 113 [.agg #[I s.id,I s.src,vst,vwa,I s.al,I s.up]] w fun v w'=>∃e,v=I e∧((eI s∧e=0)∨(¬eI s∧e=30))∧St H w' σ:=by
 obtain ⟨ast,cst,rfl⟩:=RI.shape h1
 obtain ⟨awa,cwa,rfl⟩:=RI.shape h2
 have l2:=(RI.len h2).2.2
 refine Cl.o Tryz.func113 Tryz.ntmps113 ag1 ?_
 refine .aj ?_
 refine .bx hs fun b1 w hs=>?_
 refine .z zg (.nil (.seq (.aj (.z (zfa lU) (.y hs (zld ae) ?_)))))
 refine .o (.call jq rfl (ep hs) ?_);rintro _ w ⟨rfl,hs⟩
 refine .z fW (.z zm ?_)
 refine .bif (t':=7) rfl (fun hb7=>?_) (fun hb7=>?_)
 ·refine .gFs 4 4 false rfl rfl rfl ?_
  refine .z zpT (.z zm ?_)
  refine .gFs 5 10 false rfl rfl rfl ?_
  refine .z zpT (.z zm ?_)
  refine .gFs 5 17 false rfl rfl rfl ?_
  refine .z zpT (.nil ?_)
  refine (.cT ?_)
  refine .aj (.z zg (.nil ?_))
  refine .ret (rT (Fin.bE jg rfl ?_))
  exact ⟨_,rfl,.inr ⟨fun h=>by have:=h.id;simp_all,rfl⟩,hs.out⟩
 ·refine .gT rfl rfl ?_
  refine .z (zfa dM) ?_
  refine .gT rfl rfl ?_
  refine .y hs (zld ae) ?_
  refine .gT rfl rfl ?_
  refine .o (.call jq rfl (ep hs) ?_);rintro _ w ⟨rfl,hs⟩
  refine .gT rfl rfl ?_
  refine .z fW (.z zpF (.z zm ?_))
  refine .bif (t':=13) rfl (fun hb13=>?_) (fun hb13=>?_)
  ·refine .gFs 5 10 false rfl rfl rfl ?_
   refine .z zpT (.z zm ?_)
   refine .gFs 5 17 false rfl rfl rfl ?_
   refine .z zpT (.nil ?_)
   refine (.cT ?_)
   refine .aj (.z zg (.nil ?_))
   refine .ret (rT (Fin.bE jg rfl ?_))
   exact ⟨_,rfl,.inr ⟨fun h=>by have:=h.src;simp_all,rfl⟩,hs.out⟩
  ·refine .gT rfl rfl ?_
   refine .z (zfa dY) ?_
   refine .gT rfl rfl ?_
   refine .z (zfa jC) ?_
   refine .gT rfl rfl ?_
   refine .y hs (zld ae) ?_
   refine .gT rfl rfl ?_
   refine .o (.call jq rfl (ep hs) ?_);rintro _ w ⟨rfl,hs⟩
   refine .gT rfl rfl ?_
   refine .z fW (.z zpF (.z zm ?_))
   refine .bif (t':=20) rfl (fun hb20=>?_) (fun hb20=>?_)
   ·refine .gFs 5 17 false rfl rfl rfl ?_
    refine .z zpT (.nil ?_)
    refine (.cT ?_)
    refine .aj (.z zg (.nil ?_))
    refine .ret (rT (Fin.bE jg rfl ?_))
    exact ⟨_,rfl,.inr ⟨fun h=>by have:=h.al;simp_all,rfl⟩,hs.out⟩
   ·refine .gT rfl rfl ?_
    refine .z (zfa dY) ?_
    refine .gT rfl rfl ?_
    refine .z (zfa jB) ?_
    refine .gT rfl rfl ?_
    refine .y hs (zld ae) ?_
    refine .gT rfl rfl ?_
    refine .o (.call jq rfl (ep hs) ?_);rintro _ w ⟨rfl,hs⟩
    refine .gT rfl rfl ?_
    refine .z fW (.z zpF (.nil ?_))
    refine (.cond rfl (fun hc26=>?_) (fun hc26=>?_))
    ·refine .aj (.z zg (.nil ?_))
     refine .ret (rT (Fin.bE jg rfl ?_))
     exact ⟨_,rfl,.inr ⟨fun h=>by have:=h.up;simp_all,rfl⟩,hs.out⟩
    ·refine .skip ?_
     refine nT ?_
     refine .seq (.aj (.z (zfa bP) (.y hs (zld an) ?_)))
     refine .o (.call Tryz.call168 rfl (jM hs h1) ?_);rintro _ w ⟨e1,rfl,he1,hs⟩
     refine .z gS (.z zm ?_)
     refine .B3 (t':=31) rfl (fun hb31=>?_) (fun hb31=>?_)
     ·refine .gFs 4 4 false rfl rfl rfl ?_
      refine .z zpT (.z zm ?_)
      refine .gFs 4 10 false rfl rfl rfl ?_
      refine .z zpT (.z zm ?_)
      refine .gFs 9 16 false rfl rfl rfl ?_
      refine .z zpT (.nil ?_)
      refine (.cT ?_)
      refine .aj (.z zg (.nil ?_))
      refine .ret (rT (Fin.bE jg rfl ?_))
      exact ⟨_,rfl,.inr ⟨fun h=>hb31 (he1.elim (fun g=>g.2) fun g=>(g.1 h.st).elim),rfl⟩,hs.out⟩
     ·refine .gT rfl rfl ?_
      refine .z (zfa a8) ?_
      refine .gT rfl rfl ?_
      refine .y hs (zld an) ?_
      refine .gT rfl rfl ?_
      refine .o (.call Tryz.call168 rfl (jM hs h2) ?_);rintro _ w ⟨e2,rfl,he2,hs⟩
      refine .gT rfl rfl ?_
      refine .z gS (.z zpF (.z zm ?_))
      refine .B3 (t':=37) rfl (fun hb37=>?_) (fun hb37=>?_)
      ·refine .gFs 4 10 false rfl rfl rfl ?_
       refine .z zpT (.z zm ?_)
       refine .gFs 9 16 false rfl rfl rfl ?_
       refine .z zpT (.nil ?_)
       refine (.cT ?_)
       refine .aj (.z zg (.nil ?_))
       refine .ret (rT (Fin.bE jg rfl ?_))
       exact ⟨_,rfl,.inr ⟨fun h=>hb37 (he2.elim (fun g=>g.2) fun g=>(g.1 (Cq h)).elim),rfl⟩,hs.out⟩
      ·refine .gT rfl rfl ?_
       refine .z (zfa a8) ?_
       refine .gT rfl rfl ?_
       have hw:fU 9 100000 s.wa:=he2.elim (fun g=>g.1) fun g=>(g.2 ak).elim
       have hw2:=hw.two
       refine .y hs (zld an) ?_
       refine .gT rfl rfl ?_
       refine .z (dp af) ?_
       refine .gT rfl rfl ?_
       refine .z mI (.z zpF (.z zm ?_))
       refine .iW (t':=43) rfl (fun hb43=>?_) (fun hb43=>?_)
       ·refine .gFs 9 16 false rfl rfl rfl ?_
        refine .z zpT (.nil ?_)
        refine (.cT ?_)
        refine .aj (.z zg (.nil ?_))
        refine .ret (rT (Fin.bE jg rfl ?_))
        exact ⟨_,rfl,.inr ⟨fun h=>by have:=h.wa.many;omega,rfl⟩,hs.out⟩
       ·refine .gT rfl rfl ?_
        refine .z (zfa a8) ?_
        refine .gT rfl rfl ?_
        refine .y hs (zld an) ?_
        refine .gT rfl rfl ?_
        refine .z (zfa a8) ?_
        refine .gT rfl rfl ?_
        refine .y hs (zld an) ?_
        refine .gT rfl rfl ?_
        refine .z (dp af) ?_
        refine .gT rfl rfl ?_
        refine .z gM ?_
        refine .gT rfl rfl ?_
        refine .ixY hs h2 rfl rfl af ai (bU (l:=s.wa) (i:=(s.wa.length-1)) ak) de ?_;intro b50 o50 hc50
        refine .gT rfl rfl ?_
        refine .q hs (aW rfl ae hc50) ?_
        refine .gT rfl rfl ?_
        refine .z mI (.z zpF (.nil ?_))
        refine (.bH rfl (fun hc53=>?_) (fun hc53=>?_))
        ·refine .aj (.z zg (.nil ?_))
         refine .ret (rT (Fin.bE jg rfl ?_))
         exact ⟨_,rfl,.inr ⟨fun h=>by have:=h.wa.high;omega,rfl⟩,hs.out⟩
        ·refine .skip ?_
         refine nT ?_
         refine .aj (.z zg (.nil ?_))
         refine .ret (Fin.bE jg rfl ?_)
         exact ⟨_,rfl,.inl ⟨HK (he1.elim (fun g=>g.1) fun g=>(g.2 ak).elim) hw ak ak (by simp_all) (by simp_all) (by simp_all) (by simp_all),rfl⟩,hs.out⟩
theorem mj{s:Spc}{r:Rdg}{vst vwa:Value}(hs:St H w σ)(h1:RI H vst s.st)(h2:RI H vwa s.wa):
  Cl Tryz.prog 150 [.agg #[I s.id,I s.src,vst,vwa,I s.al,I s.up],.agg #[I r.src,I r.st,I r.wa,I r.val,I r.tol,I r.tape,I r.day]] w fun v w'=>∃b:Bool,v= .bool b∧(b=true↔jE s r)∧St H w' σ:=by
 obtain ⟨ast,cst,rfl⟩:=RI.shape h1
 obtain ⟨awa,cwa,rfl⟩:=RI.shape h2
 have l1:=(RI.len h1).2.2
 have l2:=(RI.len h2).2.2
 refine Cl.o Tryz.func150 Tryz.ntmps150 ag2 ?_
 refine .aj ?_
 refine .bx hs fun b2 w hs=>?_
 refine .bx hs fun b3 w hs=>?_
 refine .z zg (.nil (.aj (.z (zfa eF) (.y hs (zld ae) ?_))))
 refine .o (.call jq rfl (ep hs) ?_);rintro _ w ⟨rfl,hs⟩
 refine .z zm ?_
 refine .bif (t':=8) rfl (fun hb8=>?_) (fun hb8=>?_)
 ·refine .gT rfl rfl ?_
  refine .z (zfa fE) ?_
  refine .gT rfl rfl ?_
  refine .y hs (zld ae) ?_
  refine .gT rfl rfl ?_
  refine .z (zfa bP) ?_
  refine .gT rfl rfl ?_
  refine .y hs (zld an) ?_
  refine .gT rfl rfl ?_
  refine .z (dp af) ?_
  refine .gT rfl rfl ?_
  refine .z gM ?_
  refine .gT rfl rfl ?_
  refine .o (.call jq rfl (ep hs) ?_);rintro _ w ⟨rfl,hs⟩
  refine .z zpT (.z zm ?_)
  refine .bif (t':=17) rfl (fun hb17=>?_) (fun hb17=>?_)
  ·refine .gT rfl rfl ?_
   refine .z (zfa fD) ?_
   refine .gT rfl rfl ?_
   refine .y hs (zld ae) ?_
   refine .gT rfl rfl ?_
   refine .z (zfa a8) ?_
   refine .gT rfl rfl ?_
   refine .y hs (zld an) ?_
   refine .gT rfl rfl ?_
   refine .z (dp af) ?_
   refine .gT rfl rfl ?_
   refine .z gM ?_
   refine .gT rfl rfl ?_
   refine .o (.call jq rfl (ep hs) ?_);rintro _ w ⟨rfl,hs⟩
   refine .z zpT (.z zm ?_)
   refine .bif (t':=26) rfl (fun hb26=>?_) (fun hb26=>?_)
   ·refine .gT rfl rfl ?_
    refine .z (zfa da) ?_
    refine .gT rfl rfl ?_
    refine .y hs (zld ae) ?_
    refine .gT rfl rfl ?_
    refine .o (.call jq rfl (ep hs) ?_);rintro _ w ⟨rfl,hs⟩
    refine .z zpT (.z zm ?_)
    refine .bif (t':=31) rfl (fun hb31=>?_) (fun hb31=>?_)
    ·refine .gT rfl rfl ?_
     refine .z (zfa dn) ?_
     refine .gT rfl rfl ?_
     refine .y hs (zld ae) ?_
     refine .gT rfl rfl ?_
     refine .z (zfa da) ?_
     refine .gT rfl rfl ?_
     refine .y hs (zld ae) ?_
     refine .gT rfl rfl ?_
     have ht:0≤r.tol∧r.tol≤1000:=by simp_all
     refine .z gM ?_
     refine .gT rfl rfl ?_
     refine .o (.call jq rfl (ep hs) ?_);rintro _ w ⟨rfl,hs⟩
     refine .z zpT (.z zm ?_)
     refine .bif (t':=39) rfl (fun hb39=>?_) (fun hb39=>?_)
     ·refine .gT rfl rfl ?_
      refine .z (zfa eE) ?_
      refine .gT rfl rfl ?_
      refine .y hs (zld ae) ?_
      refine .gT rfl rfl ?_
      refine .o (.call jq rfl (ep hs) ?_);rintro _ w ⟨rfl,hs⟩
      refine .z zpT (.z zm ?_)
      refine .bif (t':=44) rfl (fun hb44=>?_) (fun hb44=>?_)
      ·refine .gT rfl rfl ?_
       refine .z (zfa eD) ?_
       refine .gT rfl rfl ?_
       refine .y hs (zld ae) ?_
       refine .gT rfl rfl ?_
       refine .o (.call jq rfl (ep hs) ?_);rintro _ w ⟨rfl,hs⟩
       refine .z zpT (.z zg (.nil ?_))
       refine .ret (Fin.bE mY rfl ?_)
       first
       |exact ⟨false,rfl,⟨fun h=>(by cases h),fun h=>(by obtain ⟨g1,g2,g3,g4,g5,g6,g7⟩:=h;simp_all;done)⟩,hs.out⟩
       |exact ⟨_,rfl,⟨fun h=>⟨by simp_all,by simp_all,by simp_all,by simp_all,by simp_all,by simp_all,by simpa using h⟩,fun h=>by simpa using h.day⟩,hs.out⟩
      ·refine .gFs 3 39 true rfl rfl rfl ?_
       refine .z zpF (.z zg (.nil ?_))
       refine .ret (Fin.bE mY rfl ?_)
       first
       |exact ⟨false,rfl,⟨fun h=>(by cases h),fun h=>(by obtain ⟨g1,g2,g3,g4,g5,g6,g7⟩:=h;simp_all;done)⟩,hs.out⟩
       |exact ⟨_,rfl,⟨fun h=>⟨by simp_all,by simp_all,by simp_all,by simp_all,by simp_all,by simp_all,by simpa using h⟩,fun h=>by simpa using h.day⟩,hs.out⟩
     ·refine .gFs 3 34 true rfl rfl rfl ?_
      refine .z zpF (.z zm ?_)
      refine .gFs 3 39 true rfl rfl rfl ?_
      refine .z zpF (.z zg (.nil ?_))
      refine .ret (Fin.bE mY rfl ?_)
      first
      |exact ⟨false,rfl,⟨fun h=>(by cases h),fun h=>(by obtain ⟨g1,g2,g3,g4,g5,g6,g7⟩:=h;simp_all;done)⟩,hs.out⟩
      |exact ⟨_,rfl,⟨fun h=>⟨by simp_all,by simp_all,by simp_all,by simp_all,by simp_all,by simp_all,by simpa using h⟩,fun h=>by simpa using h.day⟩,hs.out⟩
    ·refine .gFs 6 26 true rfl rfl rfl ?_
     refine .z zpF (.z zm ?_)
     refine .gFs 3 34 true rfl rfl rfl ?_
     refine .z zpF (.z zm ?_)
     refine .gFs 3 39 true rfl rfl rfl ?_
     refine .z zpF (.z zg (.nil ?_))
     refine .ret (Fin.bE mY rfl ?_)
     first
     |exact ⟨false,rfl,⟨fun h=>(by cases h),fun h=>(by obtain ⟨g1,g2,g3,g4,g5,g6,g7⟩:=h;simp_all;done)⟩,hs.out⟩
     |exact ⟨_,rfl,⟨fun h=>⟨by simp_all,by simp_all,by simp_all,by simp_all,by simp_all,by simp_all,by simpa using h⟩,fun h=>by simpa using h.day⟩,hs.out⟩
   ·refine .gFs 3 21 true rfl rfl rfl ?_
    refine .z zpF (.z zm ?_)
    refine .gFs 6 26 true rfl rfl rfl ?_
    refine .z zpF (.z zm ?_)
    refine .gFs 3 34 true rfl rfl rfl ?_
    refine .z zpF (.z zm ?_)
    refine .gFs 3 39 true rfl rfl rfl ?_
    refine .z zpF (.z zg (.nil ?_))
    refine .ret (Fin.bE mY rfl ?_)
    first
    |exact ⟨false,rfl,⟨fun h=>(by cases h),fun h=>(by obtain ⟨g1,g2,g3,g4,g5,g6,g7⟩:=h;simp_all;done)⟩,hs.out⟩
    |exact ⟨_,rfl,⟨fun h=>⟨by simp_all,by simp_all,by simp_all,by simp_all,by simp_all,by simp_all,by simpa using h⟩,fun h=>by simpa using h.day⟩,hs.out⟩
  ·refine .gFs 7 12 true rfl rfl rfl ?_
   refine .z zpF (.z zm ?_)
   refine .gFs 3 21 true rfl rfl rfl ?_
   refine .z zpF (.z zm ?_)
   refine .gFs 6 26 true rfl rfl rfl ?_
   refine .z zpF (.z zm ?_)
   refine .gFs 3 34 true rfl rfl rfl ?_
   refine .z zpF (.z zm ?_)
   refine .gFs 3 39 true rfl rfl rfl ?_
   refine .z zpF (.z zg (.nil ?_))
   refine .ret (Fin.bE mY rfl ?_)
   first
   |exact ⟨false,rfl,⟨fun h=>(by cases h),fun h=>(by obtain ⟨g1,g2,g3,g4,g5,g6,g7⟩:=h;simp_all;done)⟩,hs.out⟩
   |exact ⟨_,rfl,⟨fun h=>⟨by simp_all,by simp_all,by simp_all,by simp_all,by simp_all,by simp_all,by simpa using h⟩,fun h=>by simpa using h.day⟩,hs.out⟩
 ·refine .gFs 7 3 true rfl rfl rfl ?_
  refine .z zpF (.z zm ?_)
  refine .gFs 7 12 true rfl rfl rfl ?_
  refine .z zpF (.z zm ?_)
  refine .gFs 3 21 true rfl rfl rfl ?_
  refine .z zpF (.z zm ?_)
  refine .gFs 6 26 true rfl rfl rfl ?_
  refine .z zpF (.z zm ?_)
  refine .gFs 3 34 true rfl rfl rfl ?_
  refine .z zpF (.z zm ?_)
  refine .gFs 3 39 true rfl rfl rfl ?_
  refine .z zpF (.z zg (.nil ?_))
  refine .ret (Fin.bE mY rfl ?_)
  first
  |exact ⟨false,rfl,⟨fun h=>(by cases h),fun h=>(by obtain ⟨g1,g2,g3,g4,g5,g6,g7⟩:=h;simp_all;done)⟩,hs.out⟩
  |exact ⟨_,rfl,⟨fun h=>⟨by simp_all,by simp_all,by simp_all,by simp_all,by simp_all,by simp_all,by simpa using h⟩,fun h=>by simpa using h.day⟩,hs.out⟩
theorem ic{s:Spc}{vst vwa:Value}(hs:St H w σ)(h1:RI H vst s.st)(h2:RI H vwa s.wa)(hb:s.st.length≤1000∧s.wa.length≤1000):
  Cl Tryz.prog 94 [.agg #[I s.id,I s.src,vst,vwa,I s.al,I s.up]] w fun v w'=>v=I (s.many:Int)∧St H w' σ:=by
 obtain ⟨ast,cst,rfl⟩:=RI.shape h1
 obtain ⟨awa,cwa,rfl⟩:=RI.shape h2
 have hm:=kz (a:=(s.st.length:Int)) (b:=(s.wa.length:Int)) (A:=1000) (B:=1000) ak ak
 refine Cl.o Tryz.func94 Tryz.ntmps94 ag1 ?_
 refine .aj ?_
 refine .bx hs fun b1 w hs=>?_
 refine .z zg (.nil (.aj (.z (zfa bP) (.y hs (zld an) (.z (dp af) (.z (zfa a8) (.y hs (zld an) (.z (dp af) (.z lz ?_)))))))))
 refine .z zg (.nil ?_)
 refine .ret (Fin.bE Tryz.results94 rfl ?_)
 exact ⟨by unfold Spc.many;rw [Int.natCast_mul],hs.out⟩
theorem eM{s:Spc}{vst vwa:Value}{a b:Int}(hs:St H w σ)(h2:RI H vwa s.wa)(hb:s.wa.length≤1000)(ha: -1000≤a∧a≤1000)(hb': -1000≤b∧b≤1000):
  Cl Tryz.prog 93 [.agg #[I s.id,I s.src,vst,vwa,I s.al,I s.up],I a,I b] w fun v w'=>v=I (1+a*s.wa.length+b)∧St H w' σ:=by
 obtain ⟨awa,cwa,rfl⟩:=RI.shape h2
 have hm:=kz (a:=a) (b:=(s.wa.length:Int)) (A:=1000) (B:=1000) ak ak
 refine Cl.o Tryz.func93 Tryz.ntmps93 ag3 ?_
 refine .aj ?_
 refine .bx hs fun b3 w hs=>?_
 refine .z zg (.nil (.aj (.z zm (.z (zfa a8) (.y hs (zld an) (.z (dp af) (.z lz (.z cP (.z zm ?_)))))))))
 refine .z cP (.z zg (.nil ?_))
 refine .ret (Fin.bE Tryz.results93 rfl ?_)
 exact ⟨rfl,hs.out⟩
theorem l8{a b:Int}(hs:St H w σ)(ha:0≤a∧a≤100000)(hb:0≤b∧b≤100000):
  Cl Tryz.prog 211 [I a,I b] w fun v w'=>v=I (kh a b)∧St H w' σ:=by
 have hm:=kz (a:=a) (b:=b) (A:=100000) (B:=100000) ak ak
 have h0:=Int.mul_nonneg ha.1 hb.1
 have hq0:0≤(a*b+999).tdiv 1000:=Int.tdiv_nonneg ak ak
 have hq1:(a*b+999).tdiv 1000≤a*b+999:=by rw [Int.tdiv_eq_ediv_of_nonneg ak];omega
 refine Cl.o Tryz.func211 Tryz.ntmps211 ag2 ?_
 refine .aj (.z zg (.nil (.aj (.z zm (.z zm (.z lz (.z cP ?_)))))))
 refine .q hs (wx rfl rfl ak ak) ?_
 refine .z Bk (.z zg (.nil ?_))
 refine .ret (Fin.bE Tryz.results211 rfl ?_)
 exact ⟨rfl,hs⟩
theorem kU{a b m s:Int}(hs:St H w σ):
  Cl Tryz.prog 210 [I a,I b,I m,I s] w fun v w'=>∃b0,v= .slice (some ⟨b0,0,none⟩) 2 2∧St H w' (.blk b0 (gZ (two a b m m s))::σ):=by
 refine Cl.o Tryz.func210 Tryz.ntmps210 ag4 ?_
 refine .aj (.z zg (.nil (.aj (.z zm (.z zm (.z zm (.z zm (.z (zbd [_,_,_,_] eP) (.z zm ?_)))))))))
 refine .z zm (.z zm (.z zm (.z (zbd [_,_,_,_] eP) ?_)))
 refine .o (.buildSlice (cells:=gZ (two a b m m s)) hs fL rfl aq fun b19 w hs=>?_)
 refine .z zg (.nil ?_)
 refine .ret (Fin.bE Tryz.results210 rfl ?_)
 exact ⟨b19,rfl,hs⟩
theorem uz{c:Cmp}{t:TD}{f:Int}(hs:St H w σ)(hlo: -1000000≤c.lo∧c.lo≤1000000):
  Cl Tryz.prog 212 [.agg #[I c.src,I c.tape,I c.fr,I c.to,I c.lo,I c.hi],.agg #[I t.tape,I t.day],I f] w fun v w'=>∃en,cI 4 v (gZ (kS c t f)) en∧St H w' (en::σ):=by
 refine Cl.o Tryz.func212 Tryz.ntmps212 ag3 ?_
 refine .aj ?_
 refine .bx hs fun b3 w hs=>?_
 refine .bx hs fun b4 w hs=>?_
 refine .z zg (.nil (.seq (.aj (.z (zfa kj) (.y hs (zld ae) (.z (zfa mU) (.y hs (zld ae) (.z gS (.z zm ?_)))))))))
 refine .B3 (t':=12) rfl (fun hb12=>?_) (fun hb12=>?_)
 ·refine .gFs 5 5 false rfl rfl rfl ?_
  refine .z zpT (.z zm ?_)
  refine .gFs 5 12 false rfl rfl rfl ?_
  refine .z zpT (.nil ?_)
  refine (.cT ?_)
  refine .aj (.z zg (.nil ?_))
  refine .ret (rT (Fin.bE Tryz.results212 rfl ?_))
  exact ⟨.nul,by unfold kS;rw [if_neg ak];exact .nil 4 none,hs.tail.tail.nul⟩
 ·refine .gT rfl rfl ?_
  refine .z (zfa ki) ?_
  refine .gT rfl rfl ?_
  refine .y hs (zld ae) ?_
  refine .gT rfl rfl ?_
  refine .z (zfa jc) ?_
  refine .gT rfl rfl ?_
  refine .y hs (zld ae) ?_
  refine .gT rfl rfl ?_
  refine .z iK (.z zpF (.z zm ?_))
  refine .iW (t':=19) rfl (fun hb19=>?_) (fun hb19=>?_)
  ·refine .gFs 5 12 false rfl rfl rfl ?_
   refine .z zpT (.nil ?_)
   refine (.cT ?_)
   refine .aj (.z zg (.nil ?_))
   refine .ret (rT (Fin.bE Tryz.results212 rfl ?_))
   exact ⟨.nul,by unfold kS;rw [if_neg ak];exact .nil 4 none,hs.tail.tail.nul⟩
  ·refine .gT rfl rfl ?_
   refine .z (zfa ki) ?_
   refine .gT rfl rfl ?_
   refine .y hs (zld ae) ?_
   refine .gT rfl rfl ?_
   refine .z (zfa gY) ?_
   refine .gT rfl rfl ?_
   refine .y hs (zld ae) ?_
   refine .gT rfl rfl ?_
   refine .z mI (.z zpF (.nil ?_))
   refine (.bH rfl (fun hc25=>?_) (fun hc25=>?_))
   ·refine .aj (.z zg (.nil ?_))
    refine .ret (rT (Fin.bE Tryz.results212 rfl ?_))
    exact ⟨.nul,by unfold kS;rw [if_neg ak];exact .nil 4 none,hs.tail.tail.nul⟩
   ·refine .skip ?_
    refine nT ?_
    refine .aj (.z zm (.z (zfa gX) (.y hs (zld ae) (.z Ea (.z (zfa jd) (.y hs (zld ae) (.z (zbd [_,_,_,_] eP) (.z zm (.z (zfa gW) ?_)))))))))
    refine .y hs (zld ae) (.z (zfa jd) (.y hs (zld ae) (.z (zbd [_,_,_,_] eP) ?_)))
    refine .o (.buildSlice (cells:=gZ (two 0 f (-c.lo) c.hi c.src)) hs fL rfl aq fun b39 w hs=>?_)
    refine .z zg (.nil ?_)
    refine .ret (Fin.bE Tryz.results212 rfl ?_)
    exact ⟨_,by unfold kS;rw [if_pos ak];exact .full (by simp [two,e7]),hs.sb⟩
theorem kf{v:Value}{xs:List TD}{t:TD}(hs:St H w σ)(hr:RTd H v xs)(hl:xs.length≤1000000):
  Cl Tryz.prog 95 [v,.agg #[I t.tape,I t.day]] w fun u w'=>u=I (jW xs t)∧St H w' σ:=by
 obtain ⟨a,c,rfl⟩:=RTd.shape hr
 refine Cl.o Tryz.func95 Tryz.ntmps95 ag2 ?_
 refine .aj ?_
 refine .bx hs fun b3 w hs=>?_
 refine .z zg (.nil (.seq (.aj (.z zg (.nil (.block ?_))))))
 refine .loop (fun k:Nat=>⟨19,[],[(5,I (k:Int)),(3,.pointer (some ⟨b3,0,none⟩)),(0,.slice a xs.length c)]⟩)
  (fun k w=>k≤xs.length∧(∀j<k,∀y,xs[j]? =some y→¬y=t)∧St H w (.blk b3 [I t.tape,I t.day]::σ)) (fun k=>xs.length - k) 0 (.dD rfl cu bj)
  ⟨Nat.zero_le _,fun j hj=>by omega,hs⟩ ?_
 rintro k w ⟨hk,hno,hs⟩
 refine .seq (.aj (.z zm (.z zm (.z (dp bB) (.z iK (.nil ?_))))))
 refine (.bH rfl (fun hc9=>?_) (fun hc9=>?_))
 ·refine .skip ?_
  refine nT ?_
  refine .seq (.block ?_)
  refine .seq (.draw mix rfl hs fun w hs=>?_)
  refine .z 0 rfl zm ?_;refine .z 1 rfl zm ?_
  obtain ⟨x,hx⟩:=nth (l:=xs) (k:=k) ak
  refine .ixX (enc:=TD.c) (i:=2) hs rfl aq .none hr rfl rfl bB bL hx de ?_;intro b14 o14 hc14
  refine .r (i:=3) hs rfl aq .none (bY (vs:=x.c) rfl ed bL hc14) ?_
  refine .ys 4 rfl hs [_,_] ed bL ?_
  refine .z 5 rfl (yI tK tL iN (fun f hf=>by
   simp only [List.mem_cons,List.not_mem_nil,or_false] at hf
   rcases hf with rfl|rfl<;>exact ⟨by decide,bA,ae⟩) rfl rfl) ?_
  refine .D hs ?_
  refine (.cond rfl (fun hc17=>?_) (fun hc17=>?_))
  ·refine .aj (.z zm (.z zg (.nil ?_)))
   refine .ret (rB (rT (rT (rB (rT (Fin.bE Tryz.results95 rfl ?_))))))
   have e:x=t:=El.1 (of_decide_eq_true hc17)
   subst e
   exact ⟨by rw [qn hx fun j hj h=>hno j hj _ h rfl],hs.tail⟩
  ·refine .skip ?_
   refine nB (nT ?_)
   refine .region (.z zm (.z cP (.z zg (.nil ?_))))
   refine nT ?_
   exact ⟨k+1,.dD rfl cu bj,⟨ak,fm hno hx (fun e=>by subst e;simp at hc17),hs⟩,ak⟩
 ·refine .exit ?_
  refine xT (xT (xB (nT ?_)))
  refine .aj (.z zg (.nil ?_))
  refine .ret (Fin.bE Tryz.results95 rfl ?_)
  obtain rfl:k=xs.length:=by omega
  exact ⟨by rw [w8 hno],hs.tail⟩
theorem nE{v:Value}{en:Ent}{xs:List TD}{t:TD}(hs:St H w (en::σ))(hO:cI 2 v (tdc xs).flatten en)(hl:xs.length≤1000000):
  Cl Tryz.prog 95 [v,.agg #[I t.tape,I t.day]] w fun u w'=>u=I (jW xs t)∧St H w' (en::σ):=by
 obtain ⟨a,c,rfl⟩:=hO.iU (pE xs) ak
 rw [eL] at hO ⊢
 refine Cl.o Tryz.func95 Tryz.ntmps95 ag2 ?_
 refine .aj ?_
 refine .bx hs fun b3 w hs=>?_
 refine .z zg (.nil (.seq (.aj (.z zg (.nil (.block ?_))))))
 refine .loop (fun k:Nat=>⟨19,[],[(5,I (k:Int)),(3,.pointer (some ⟨b3,0,none⟩)),(0,.slice a xs.length c)]⟩)
  (fun k w=>k≤xs.length∧(∀j<k,∀y,xs[j]? =some y→¬y=t)∧St H w (.blk b3 [I t.tape,I t.day]::en::σ)) (fun k=>xs.length - k) 0 (.dD rfl cu bj)
  ⟨Nat.zero_le _,fun j hj=>by omega,hs⟩ ?_
 rintro k w ⟨hk,hno,hs⟩
 refine .seq (.aj (.z zm (.z zm (.z (dp bB) (.z iK (.nil ?_))))))
 refine (.bH rfl (fun hc9=>?_) (fun hc9=>?_))
 ·refine .skip ?_
  refine nT ?_
  refine .seq (.block ?_)
  refine .seq (.draw mix rfl hs fun w hs=>?_)
  refine .z 0 rfl zm ?_;refine .z 1 rfl zm ?_
  obtain ⟨x,hx⟩:=nth (l:=xs) (k:=k) ak
  obtain ⟨b,c',sp,hv,rfl,_⟩:=hO.Gf (pE xs) ak (by rw [eL];omega)
  rw [eL] at hv
  cases hv
  refine .z 2 rfl (lZ bB bL) ?_
  refine .BH (i:=3) (vs:=x.c) hs rfl aq .none rfl ed bL ?_ (hv:=yK (pE xs) (Cn hx) sp)
  refine .ys 4 rfl hs [_,_] ed bL ?_
  refine .z 5 rfl (yI tK tL iN (fun f hf=>by
   simp only [List.mem_cons,List.not_mem_nil,or_false] at hf
   rcases hf with rfl|rfl<;>exact ⟨by decide,bA,ae⟩) rfl rfl) ?_
  refine .D hs ?_
  refine (.cond rfl (fun hc17=>?_) (fun hc17=>?_))
  ·refine .aj (.z zm (.z zg (.nil ?_)))
   refine .ret (rB (rT (rT (rB (rT (Fin.bE Tryz.results95 rfl ?_))))))
   have e:x=t:=El.1 (of_decide_eq_true hc17)
   subst e
   exact ⟨by rw [qn hx fun j hj h=>hno j hj _ h rfl],hs.tail⟩
  ·refine .skip ?_
   refine nB (nT ?_)
   refine .region (.z zm (.z cP (.z zg (.nil ?_))))
   refine nT ?_
   exact ⟨k+1,.dD rfl cu bj,⟨ak,fm hno hx (fun e=>by subst e;simp at hc17),hs⟩,ak⟩
 ·refine .exit ?_
  refine xT (xT (xB (nT ?_)))
  refine .aj (.z zg (.nil ?_))
  refine .ret (Fin.bE Tryz.results95 rfl ?_)
  obtain rfl:k=xs.length:=by omega
  exact ⟨by rw [w8 hno],hs.tail⟩
set_option maxHeartbeats 1000000 in
theorem ja{vr:Value}{rs:List Rdg}(hs:St H w σ)(hr:RRd H vr rs)(hl:rs.length≤1000000):
  Cl Tryz.prog 96 [vr] w fun u w'=>∃H1,HLe H H1∧RTd H1 u (a6 rs)∧St H1 w' σ:=by
 obtain ⟨ar,cr,rfl⟩:=RRd.shape hr
 refine Cl.o Tryz.func96 Tryz.ntmps96 ag1 ?_
 refine .aj (.z zg (.nil (.aj (.z zg (.nil (.seq (.aj (.z zg (.nil ?_)))))))))
 refine .block ?_
 refine .loop (fun p:Nat×Value=>⟨32,[],[(4,I (p.1:Int)),(3,p.2),(0,.slice ar rs.length cr)]⟩)
  (fun p w=>p.1≤rs.length∧∃en,cI 2 p.2 (tdc (a6 (rs.take p.1))).flatten en∧St H w (en::σ)) (fun p=>rs.length - p.1) (0,.slice none 0 0) bj
  ⟨Nat.zero_le _,_,.nil 2 none,hs.nul⟩ ?_
 rintro ⟨k,vo⟩ w ⟨hk,en,hO,hs⟩
 dsimp only at hk hO ⊢
 have htl:=kT rs k ak
 obtain ⟨ao,co,rfl⟩:=hO.iU (pE _) ak
 rw [eL] at hO ⊢
 refine .seq (.aj (.z zm (.z zm (.z (dp au) (.z iK (.nil ?_))))))
 refine (.bH rfl (fun hc9=>?_) (fun hc9=>?_))
 ·refine .skip ?_
  refine nT ?_
  refine .seq (.block ?_)
  refine .seq (.draw mix rfl hs fun w hs=>?_)
  refine .z 0 rfl zm ?_;refine .z 1 rfl zm ?_
  obtain ⟨r,hx⟩:=nth (l:=rs) (k:=k) ak
  have htk:=jt hx
  refine .ixX (enc:=Rdg.c) (i:=2) hs rfl aq .none hr rfl rfl au aF hx de ?_;intro b14 o14 hc14
  have d14:cellAt H b14 (o14+5)=some (I r.tape):=hc14 5 _ rfl
  refine .z 3 rfl (zfa eE) ?_;refine .y 4 rfl hs ae ?_;refine .z 5 rfl zm ?_;refine .z 6 rfl zm ?_
  refine .ixX (enc:=Rdg.c) (i:=7) hs rfl aq .none hr rfl rfl au aF hx de ?_;intro b19 o19 hc19
  have d19:cellAt H b19 (o19+6)=some (I r.day):=hc19 6 _ rfl
  refine .z 8 rfl (zfa eD) ?_;refine .y 9 rfl hs ae ?_;refine .z 10 rfl (zbd [_,_] iG) ?_
  refine .E 11 hs ?_
  refine .alloc hs kO rfl ?_;intro b5 w hs
  refine .go ?_
  refine .E 12 hs ?_
  refine .aP (vs:=[_,_]) hs rfl rfl bL ?_;intro w hs
  refine .go ?_
  refine .D hs ?_
  refine .aj (.z zm (.y hs (zls [_,_] ed bL) ?_))
  refine .o (.call Tryz.call95 rfl (nE (t:=r.td) (hs.sb:St H w (en:: .blk b5 [I r.tape,I r.day]::σ)) hO ak) ?_);rintro _ w ⟨rfl,hs⟩
  have hnn:=sI (l:=a6 (rs.take k)) (t:=r.td)
  refine .z iK (.nil ?_)
  refine (.bH rfl (fun hc26=>?_) (fun hc26=>?_))
  ·refine .region (.z zm (.y hs (zls [_,_] ed bL) ?_))
   refine .o (.buildSlice (cells:=[_,_]) hs iT rfl rfl fun b29 w hs=>?_)
   refine .o (.append (ys:=r.td.c) hs eS rfl rfl hO (.own .here rfl rfl) (by simp [TD.c,Value.oneCell']) (fun l h=>by rw [bT _ (pE _),eL] at h;omega) ?_);intro v30 en30 w hO2 hs
   refine .z zg (.nil ?_)
   refine nB (nT ?_)
   refine .region (.z zm (.z cP (.z zg (.nil ?_))))
   refine nT ?_
   have hn:r.td∉a6 (rs.take k):=fun hm=>by have:=hnn.2 hm;omega
   rw [←w7,show a6 (rs.take k)++[r.td]=a6 (rs.take (k+1)) by rw [htk];unfold oW;rw [if_neg hn]] at hO2
   exact ⟨(k+1,v30),.dD rfl cu bj,⟨by dsimp only;omega,_,hO2,hs.sb⟩,by dsimp only;omega⟩
  ·refine .skip ?_
   refine nB (nT ?_)
   refine .region (.z zm (.z cP (.z zg (.nil ?_))))
   refine nT ?_
   have hm:r.td∈a6 (rs.take k):=hnn.1 ak
   exact ⟨(k+1,_),.dD rfl cu bj,⟨by dsimp only;omega,en,by dsimp only;rw [htk];unfold oW;rw [if_pos hm];exact hO,hs.sb⟩,by dsimp only;omega⟩
 ·refine .exit ?_
  refine xT (xT (xB (nT ?_)))
  refine .aj (.z zm (.z zg (.nil ?_)))
  refine .ret (Fin.bE Tryz.results96 rfl ?_)
  obtain rfl:k=rs.length:=by omega
  rw [List.take_length] at hO
  have htl:=dL rs
  obtain ⟨H2,hle2,hR,hs⟩:=cI.cV (m:=2) (cs:=tdc (a6 rs)) hO (pE _) ak (by rw [eL];omega) hs .here
  rw [List.take_length]
  exact ⟨H2,hle2,hR,hs⟩
theorem Ce(s:Spc)(i k:Nat):1+(i:Int)*(s.wa.length:Int)+(k:Int)=(s.u i k:Int):=by
 unfold Spc.u;rw [Int.natCast_add,Int.natCast_add,Int.natCast_mul];rfl
theorem HF(s:Spc)(i k:Nat):1+((i:Int)+1)*(s.wa.length:Int)+(k:Int)=(s.u (i+1) k:Int):=by
 rw [←Ce];rfl
theorem HE(s:Spc)(i k:Nat):1+(i:Int)*(s.wa.length:Int)+((k:Int)+1)=(s.u i (k+1):Int):=by
 rw [←Ce];rfl
theorem lG{f:Nat→Nat→List Lim}(hf:∀i k,(f i k).length≤2)(i:Nat):∀k,(mc f i k).length≤2*k
 |0=>by simp [mc]
 |k+1=>by have:=lG hf i k;have:=hf i k;simp only [mc,List.length_append];omega
theorem mb{f:Nat→Nat→List Lim}(hf:∀i k,(f i k).length≤2){m n:Nat}(hm:m≤7)(hn:n≤9)(h0:0<m):(eH f m n).length≤126:=by
 have h1:=fg hf (n:=n) h0
 have:n*m≤9*7:=Nat.mul_le_mul hn hm
 omega
theorem G5{s:Spc}(h0:0<s.st.length):eH (alL s) s.wa.length s.st.length=eH (alL s) s.wa.length (s.st.length - 1):=by
 obtain ⟨n,hn⟩:∃n,s.st.length=n+1:=⟨s.st.length - 1,ak⟩
 have key:∀k,mc (alL s) n k=[]:=by
  intro k
  induction k with
  |zero=>rfl
  |succ k ih=>simp only [mc];rw [ih];unfold alL;rw [if_neg ak];rfl
 rw [hn,Nat.add_sub_cancel]
 simp only [eH]
 rw [key,List.append_nil]
theorem Gp{s:Spc}(i:Nat)(h0:0<s.wa.length):mc (upL s) i s.wa.length=mc (upL s) i (s.wa.length - 1):=by
 obtain ⟨n,hn⟩:∃n,s.wa.length=n+1:=⟨s.wa.length - 1,ak⟩
 have e:upL s i n=[]:=by unfold upL;rw [if_neg ak]
 rw [hn,Nat.add_sub_cancel]
 simp only [mc]
 rw [e,List.append_nil]
set_option maxHeartbeats 4000000 in
theorem tc{s:Srv}{vst vwa vr vc:Value}(hs:St H w σ)(h1:RI H vst s.sp.st)(h2:RI H vwa s.sp.wa)(h3:RRd H vr s.rs)(h4:RCm H vc s.cs)(he:s.early):
  Cl Tryz.prog 152 [.agg #[I s.sp.id,I s.sp.src,vst,vwa,I s.sp.al,I s.sp.up,vr,vc]] w fun u w'=>∃H1 en,HLe H H1∧cI 4 u (gZ s.cH) en∧St H1 w' (en::σ):=by
 obtain ⟨ast,cst,rfl⟩:=RI.shape h1
 obtain ⟨awa,cwa,rfl⟩:=RI.shape h2
 obtain ⟨ar,cr,rfl⟩:=RRd.shape h3
 obtain ⟨ac,cc,rfl⟩:=RCm.shape h4
 obtain ⟨hok,hrl,hcl,hrs,hcs⟩:=he
 have hsm:=fG hok
 have hn1:=hok.st.many
 have hn2:=hok.wa.many
 have hn3:=hok.st.two
 have hn4:=hok.wa.two
 have ha:=mb (mz s.sp) (m:=s.sp.wa.length) (n:=s.sp.st.length) ak ak ak
 have hb:=mb (qa s.sp) (m:=s.sp.wa.length) (n:=s.sp.st.length) ak ak ak
 have hc:=mb (pD s.sp) (m:=s.sp.wa.length) (n:=s.sp.st.length) ak ak ak
 have hal:=hok.al
 have hup:=hok.up
 refine Cl.o Tryz.func152 Tryz.ntmps152 ag1 ?_
 refine .aj ?_
 refine .bx hs fun b1 w hs=>?_
 refine .z zg (.nil (.aj (.z (zfa bh) (.y hs (zls [_,_,_,_,_,_] aV aH) ?_))))
 refine .o (.alloc hs jI rfl fun b3 w hs=>?_)
 refine .o (.aP (vs:=[_,_,_,_,_,_]) hs rfl rfl aH fun w hs=>?_)
 refine .nil (.aj (.z zg (.nil (.seq (.aj (.z zg (.nil (.block ?_))))))))
 refine .loop (fun p:Nat×Value=>⟨243,[],[(5,I (p.1:Int)),(4,p.2),(3,.pointer (some ⟨b3,0,none⟩)),(1,.pointer (some ⟨b1,0,none⟩))]⟩)
  (fun p w=>p.1≤s.sp.st.length∧∃en,cI 4 p.2 (gZ (eH (q6 s.sp) s.sp.wa.length p.1)) en∧St H w (en:: .blk b3 [I s.sp.id,I s.sp.src,.slice ast s.sp.st.length cst,.slice awa s.sp.wa.length cwa,I s.sp.al,I s.sp.up]:: .blk b1 [I s.sp.id,I s.sp.src,.slice ast s.sp.st.length cst,.slice awa s.sp.wa.length cwa,I s.sp.al,I s.sp.up,.slice ar s.rs.length cr,.slice ac s.cs.length cc]::σ)) (fun p=>s.sp.st.length - p.1) (0,.slice none 0 0) bj
  ⟨by first|omega|exact Nat.zero_le _,_,.nil 4 none,hs.nul⟩ ?_
 rintro ⟨i,vo⟩ w ⟨hi,en,hO,hs⟩
 dsimp only at hi hO ⊢
 refine .seq (.aj (.z zm (.z (zfa bP) (.y hs (zld an) (.z (dp af) (.z iK (.nil ?_)))))))
 refine (.bH rfl (fun hc27=>?_) (fun hc27=>?_))
 ·refine .skip ?_
  refine nT ?_
  refine .seq (.block (.aj (.z zg (.nil (.block ?_)))))
  refine .loop (fun p:Nat×Value=>⟨243,[],[(6,I (p.1:Int)),(4,p.2),(5,I (i:Int)),(3,.pointer (some ⟨b3,0,none⟩)),(1,.pointer (some ⟨b1,0,none⟩))]⟩)
   (fun p w=>p.1≤s.sp.wa.length∧∃en,cI 4 p.2 (gZ (eH (q6 s.sp) s.sp.wa.length i++mc (q6 s.sp) i p.1)) en∧St H w (en:: .blk b3 [I s.sp.id,I s.sp.src,.slice ast s.sp.st.length cst,.slice awa s.sp.wa.length cwa,I s.sp.al,I s.sp.up]:: .blk b1 [I s.sp.id,I s.sp.src,.slice ast s.sp.st.length cst,.slice awa s.sp.wa.length cwa,I s.sp.al,I s.sp.up,.slice ar s.rs.length cr,.slice ac s.cs.length cc]::σ)) (fun p=>s.sp.wa.length - p.1) (0,vo) bj
   ⟨by first|omega|exact Nat.zero_le _,en,by show cI 4 vo (gZ (_++[])) en;rw [List.append_nil];exact hO,hs⟩ ?_
  clear hO hs
  rintro ⟨k,vo⟩ w ⟨hk,en,hO,hs⟩
  dsimp only at hk hO ⊢
  have hl1:=mb (mz s.sp) (m:=s.sp.wa.length) (n:=i) ak ak ak
  have hl2:=lG (mz s.sp) i k
  refine .seq (.aj (.z zm (.z (zfa a8) (.y hs (zld an) (.z (dp af) (.z iK (.nil ?_)))))))
  refine (.bH rfl (fun hc34=>?_) (fun hc34=>?_))
  ·refine .skip ?_
   refine nT ?_
   refine .seq (.block (.aj (.y hs (zls [_,_,_,_,_,_] aV aH) (.z zm (.z zm ?_)))))
   refine .o (.call yg rfl (eM (s:=s.sp) hs h2 ak ⟨ak,ak⟩ ⟨ak,ak⟩) ?_);rintro _ w ⟨rfl,hs⟩
   rw [Ce]
   refine .z zg (.nil (.region (.z zm (.z zm (.z (zfa dM) (.y hs (zld ae) (.z (zbd [_,_,_,_] eP) (.z zm (.z (zfa dM) ?_)))))))))
   refine .y hs (zld ae) (.z (zbd [_,_,_,_] eP) ?_)
   refine .o (.buildSlice (cells:=gZ (q6 s.sp i k)) hs fL rfl aq fun b50 w hs=>?_)
   refine .o (.append (ys:=gZ (q6 s.sp i k)) hs cM rfl rfl hO (.own .here rfl rfl) (ld _) (fun l h=>by rw [e7,List.length_append] at h;omega) ?_);intro v51 en51 w hO2 hs
   rw [←iI,List.append_assoc] at hO2
   refine .z zg (.nil ?_)
   refine nB (nT ?_)
   refine .region (.z zm (.z cP (.z zg (.nil ?_))))
   refine nT ?_
   exact ⟨(k+1,v51),.dD rfl cu bj,⟨by dsimp only;omega,_,hO2,hs.sb⟩,by dsimp only;omega⟩
  ·refine .exit ?_
   refine xT (xT (xB (nB (nT ?_))))
   refine .region (.z zm (.z cP (.z zg (.nil ?_))))
   refine nT ?_
   obtain rfl:k=s.sp.wa.length:=by omega
   exact ⟨(i+1,_),.dD rfl cu bj,⟨by dsimp only;omega,en,hO,hs⟩,by dsimp only;omega⟩
 ·refine .exit ?_
  refine xT (xT (xB (nT ?_)))
  refine .seq (.aj (.z zg (.nil (.block ?_))))
  refine .loop (fun p:Nat×Value=>⟨243,[],[(8,I (p.1:Int)),(4,p.2),(3,.pointer (some ⟨b3,0,none⟩)),(1,.pointer (some ⟨b1,0,none⟩))]⟩)
   (fun p w=>p.1+1≤s.sp.st.length∧∃en,cI 4 p.2 (gZ (eH (q6 s.sp) s.sp.wa.length s.sp.st.length++eH (alL s.sp) s.sp.wa.length p.1)) en∧St H w (en:: .blk b3 [I s.sp.id,I s.sp.src,.slice ast s.sp.st.length cst,.slice awa s.sp.wa.length cwa,I s.sp.al,I s.sp.up]:: .blk b1 [I s.sp.id,I s.sp.src,.slice ast s.sp.st.length cst,.slice awa s.sp.wa.length cwa,I s.sp.al,I s.sp.up,.slice ar s.rs.length cr,.slice ac s.cs.length cc]::σ)) (fun p=>s.sp.st.length - p.1) (0,vo) bj
   ⟨by first|omega|exact Nat.zero_le _,en,by show cI 4 vo (gZ (_++[])) en;rw [List.append_nil,←show i=s.sp.st.length by omega];exact hO,hs⟩ ?_
  clear hO hs
  rintro ⟨i,vo⟩ w ⟨hi,en,hO,hs⟩
  dsimp only at hi hO ⊢
  refine .seq (.aj (.z zm (.z cP (.z (zfa bP) (.y hs (zld an) (.z (dp af) (.z iK (.nil ?_))))))))
  refine (.bH rfl (fun hc57=>?_) (fun hc57=>?_))
  ·refine .skip ?_
   refine nT ?_
   refine .seq (.block (.aj (.z zg (.nil (.block ?_)))))
   refine .loop (fun p:Nat×Value=>⟨243,[],[(9,I (p.1:Int)),(4,p.2),(8,I (i:Int)),(3,.pointer (some ⟨b3,0,none⟩)),(1,.pointer (some ⟨b1,0,none⟩))]⟩)
    (fun p w=>p.1≤s.sp.wa.length∧∃en,cI 4 p.2 (gZ (eH (q6 s.sp) s.sp.wa.length s.sp.st.length++eH (alL s.sp) s.sp.wa.length i++mc (alL s.sp) i p.1)) en∧St H w (en:: .blk b3 [I s.sp.id,I s.sp.src,.slice ast s.sp.st.length cst,.slice awa s.sp.wa.length cwa,I s.sp.al,I s.sp.up]:: .blk b1 [I s.sp.id,I s.sp.src,.slice ast s.sp.st.length cst,.slice awa s.sp.wa.length cwa,I s.sp.al,I s.sp.up,.slice ar s.rs.length cr,.slice ac s.cs.length cc]::σ)) (fun p=>s.sp.wa.length - p.1) (0,vo) bj
    ⟨by first|omega|exact Nat.zero_le _,en,by show cI 4 vo (gZ (_++[])) en;rw [List.append_nil];exact hO,hs⟩ ?_
   clear hO hs
   rintro ⟨k,vo⟩ w ⟨hk,en,hO,hs⟩
   dsimp only at hk hO ⊢
   have hl1:=mb (qa s.sp) (m:=s.sp.wa.length) (n:=i) ak ak ak
   have hl2:=lG (qa s.sp) i k
   refine .seq (.aj (.z zm (.z (zfa a8) (.y hs (zld an) (.z (dp af) (.z iK (.nil ?_)))))))
   refine (.bH rfl (fun hc64=>?_) (fun hc64=>?_))
   ·refine .skip ?_
    refine nT ?_
    refine .seq (.block ?_)
    refine .draw mix rfl hs fun w hs=>?_
    refine .z 0 rfl zm ?_;refine .ys 1 rfl hs [_,_,_,_,_,_] aV aH ?_;refine .z 2 rfl zm ?_;refine .z 3 rfl zm ?_;refine .ys 5 rfl hs [_,_,_,_,_,_] aV aH ?_;refine .z 6 rfl zm ?_;refine .z 7 rfl cP ?_;refine .z 8 rfl zm ?_;refine .z 10 rfl (zfa dY) ?_;refine .z 11 rfl (zfa jC) ?_
    refine .y 12 rfl hs ae ?_;refine .z 13 rfl (zfa bP) ?_;refine .y 14 rfl hs an ?_;refine .z 15 rfl zm ?_;refine .z 16 rfl cP ?_
    have hris:=hok.st.rise i ak
    have hq0:=hok.st.bd (i:=i) ak
    have hq1:=hok.st.bd (i:=i+1) ak
    refine .ixX (enc:=fun x=>[I x]) (i:=17) hs rfl aq .none h1 rfl rfl af ai (bU (l:=s.sp.st) (i:=(i+1)) ak) de ?_;intro b84 o84 hc84;replace hc84:=cg.one hc84
    refine .r (i:=18) hs rfl aq .none (aW rfl ae hc84) ?_
    refine .z 19 rfl (zfa bP) ?_;refine .y 20 rfl hs an ?_;refine .z 21 rfl zm ?_
    refine .ixX (enc:=fun x=>[I x]) (i:=22) hs rfl aq .none h1 rfl rfl af ai (bU (l:=s.sp.st) (i:=i) ak) de ?_;intro b89 o89 hc89;replace hc89:=cg.one hc89
    refine .r (i:=23) hs rfl aq .none (aW rfl ae hc89) ?_
    refine .z 24 rfl gM ?_;refine .z 26 rfl (zfa dM) ?_;refine .y 27 rfl hs ae ?_
    refine .E 4 hs ?_
    refine .call yg rfl (eM (s:=s.sp) hs h2 ak ⟨ak,ak⟩ ⟨ak,ak⟩) ?_;rintro _ w ⟨rfl,hs⟩
    rw [Ce]
    refine .go ?_
    refine .E 9 hs ?_
    refine .call yg rfl (eM (s:=s.sp) hs h2 ak ⟨ak,ak⟩ ⟨ak,ak⟩) ?_;rintro _ w ⟨rfl,hs⟩
    rw [HF]
    refine .go ?_
    refine .E 25 hs ?_
    refine .call Tryz.call211 rfl (l8 hs ak ak) ?_;rintro _ w ⟨rfl,hs⟩
    refine .go ?_
    refine .E 28 hs ?_
    refine .call Tryz.call210 rfl (kU hs) ?_;rintro _ w ⟨b95,rfl,hs⟩
    rw [show two (s.sp.u i k:Int) _ _ _ _=alL s.sp i k by unfold alL;rw [if_pos ak]] at hs
    refine .go ?_
    refine .E 29 hs ?_
    refine .append (ys:=gZ (alL s.sp i k)) hs cM rfl rfl hO (.own .here cu (by rw [e7];unfold alL;rw [if_pos ak];rfl)) (ld _) (fun l h=>by rw [e7] at h;simp only [List.length_append] at h;omega) ?_;intro v96 en96 w hO2 hs
    rw [←iI,List.append_assoc _ (mc _ _ _)] at hO2
    refine .go ?_
    refine .z 30 rfl zg ?_;refine .D hs ?_
    refine nB (nT ?_)
    refine .region (.z zm (.z cP (.z zg (.nil ?_))))
    refine nT ?_
    exact ⟨(k+1,v96),.dD rfl cu bj,⟨by dsimp only;omega,_,hO2,hs.sb⟩,by dsimp only;omega⟩
   ·refine .exit ?_
    refine xT (xT (xB (nB (nT ?_))))
    refine .region (.z zm (.z cP (.z zg (.nil ?_))))
    refine nT ?_
    obtain rfl:k=s.sp.wa.length:=by omega
    rw [List.append_assoc] at hO
    exact ⟨(i+1,_),.dD rfl cu bj,⟨by dsimp only;omega,en,hO,hs⟩,by dsimp only;omega⟩
  ·refine .exit ?_
   refine xT (xT (xB (nT ?_)))
   refine .seq (.aj (.z zg (.nil (.block ?_))))
   refine .loop (fun p:Nat×Value=>⟨243,[],[(10,I (p.1:Int)),(4,p.2),(3,.pointer (some ⟨b3,0,none⟩)),(1,.pointer (some ⟨b1,0,none⟩))]⟩)
    (fun p w=>p.1≤s.sp.st.length∧∃en,cI 4 p.2 (gZ (eH (q6 s.sp) s.sp.wa.length s.sp.st.length++eH (alL s.sp) s.sp.wa.length s.sp.st.length++eH (upL s.sp) s.sp.wa.length p.1)) en∧St H w (en:: .blk b3 [I s.sp.id,I s.sp.src,.slice ast s.sp.st.length cst,.slice awa s.sp.wa.length cwa,I s.sp.al,I s.sp.up]:: .blk b1 [I s.sp.id,I s.sp.src,.slice ast s.sp.st.length cst,.slice awa s.sp.wa.length cwa,I s.sp.al,I s.sp.up,.slice ar s.rs.length cr,.slice ac s.cs.length cc]::σ)) (fun p=>s.sp.st.length - p.1) (0,vo) bj
    ⟨by first|omega|exact Nat.zero_le _,en,by show cI 4 vo (gZ (_++[])) en;rw [List.append_nil,G5 ak,←show i=s.sp.st.length - 1 by omega];exact hO,hs⟩ ?_
   clear hO hs
   rintro ⟨i,vo⟩ w ⟨hi,en,hO,hs⟩
   dsimp only at hi hO ⊢
   refine .seq (.aj (.z zm (.z (zfa bP) (.y hs (zld an) (.z (dp af) (.z iK (.nil ?_)))))))
   refine (.bH rfl (fun hc101=>?_) (fun hc101=>?_))
   ·refine .skip ?_
    refine nT ?_
    refine .seq (.block (.aj (.z zg (.nil (.block ?_)))))
    refine .loop (fun p:Nat×Value=>⟨243,[],[(11,I (p.1:Int)),(4,p.2),(10,I (i:Int)),(3,.pointer (some ⟨b3,0,none⟩)),(1,.pointer (some ⟨b1,0,none⟩))]⟩)
     (fun p w=>p.1+1≤s.sp.wa.length∧∃en,cI 4 p.2 (gZ (eH (q6 s.sp) s.sp.wa.length s.sp.st.length++eH (alL s.sp) s.sp.wa.length s.sp.st.length++eH (upL s.sp) s.sp.wa.length i++mc (upL s.sp) i p.1)) en∧St H w (en:: .blk b3 [I s.sp.id,I s.sp.src,.slice ast s.sp.st.length cst,.slice awa s.sp.wa.length cwa,I s.sp.al,I s.sp.up]:: .blk b1 [I s.sp.id,I s.sp.src,.slice ast s.sp.st.length cst,.slice awa s.sp.wa.length cwa,I s.sp.al,I s.sp.up,.slice ar s.rs.length cr,.slice ac s.cs.length cc]::σ)) (fun p=>s.sp.wa.length - p.1) (0,vo) bj
     ⟨by first|omega|exact Nat.zero_le _,en,by show cI 4 vo (gZ (_++[])) en;rw [List.append_nil];exact hO,hs⟩ ?_
    clear hO hs
    rintro ⟨k,vo⟩ w ⟨hk,en,hO,hs⟩
    dsimp only at hk hO ⊢
    have hl1:=mb (pD s.sp) (m:=s.sp.wa.length) (n:=i) ak ak ak
    have hl2:=lG (pD s.sp) i k
    refine .seq (.aj (.z zm (.z cP (.z (zfa a8) (.y hs (zld an) (.z (dp af) (.z iK (.nil ?_))))))))
    refine (.bH rfl (fun hc109=>?_) (fun hc109=>?_))
    ·refine .skip ?_
     refine nT ?_
     refine .seq (.block ?_)
     refine .draw mix rfl hs fun w hs=>?_
     refine .z 0 rfl zm ?_;refine .ys 1 rfl hs [_,_,_,_,_,_] aV aH ?_;refine .z 2 rfl zm ?_;refine .z 3 rfl zm ?_;refine .ys 5 rfl hs [_,_,_,_,_,_] aV aH ?_;refine .z 6 rfl zm ?_;refine .z 7 rfl zm ?_;refine .z 8 rfl cP ?_;refine .z 10 rfl (zfa dY) ?_;refine .z 11 rfl (zfa jB) ?_
     refine .y 12 rfl hs ae ?_;refine .z 13 rfl (zfa a8) ?_;refine .y 14 rfl hs an ?_;refine .z 15 rfl zm ?_;refine .z 16 rfl cP ?_
     have hris:=hok.wa.rise k ak
     have hq0:=hok.wa.bd (i:=k) ak
     have hq1:=hok.wa.bd (i:=k+1) ak
     refine .ixX (enc:=fun x=>[I x]) (i:=17) hs rfl aq .none h2 rfl rfl af ai (bU (l:=s.sp.wa) (i:=(k+1)) ak) de ?_;intro b129 o129 hc129;replace hc129:=cg.one hc129
     refine .r (i:=18) hs rfl aq .none (aW rfl ae hc129) ?_
     refine .z 19 rfl (zfa a8) ?_;refine .y 20 rfl hs an ?_;refine .z 21 rfl zm ?_
     refine .ixX (enc:=fun x=>[I x]) (i:=22) hs rfl aq .none h2 rfl rfl af ai (bU (l:=s.sp.wa) (i:=k) ak) de ?_;intro b134 o134 hc134;replace hc134:=cg.one hc134
     refine .r (i:=23) hs rfl aq .none (aW rfl ae hc134) ?_
     refine .z 24 rfl gM ?_;refine .z 26 rfl (zfa dM) ?_;refine .y 27 rfl hs ae ?_
     refine .E 4 hs ?_
     refine .call yg rfl (eM (s:=s.sp) hs h2 ak ⟨ak,ak⟩ ⟨ak,ak⟩) ?_;rintro _ w ⟨rfl,hs⟩
     rw [Ce]
     refine .go ?_
     refine .E 9 hs ?_
     refine .call yg rfl (eM (s:=s.sp) hs h2 ak ⟨ak,ak⟩ ⟨ak,ak⟩) ?_;rintro _ w ⟨rfl,hs⟩
     rw [HE]
     refine .go ?_
     refine .E 25 hs ?_
     refine .call Tryz.call211 rfl (l8 hs ak ak) ?_;rintro _ w ⟨rfl,hs⟩
     refine .go ?_
     refine .E 28 hs ?_
     refine .call Tryz.call210 rfl (kU hs) ?_;rintro _ w ⟨b140,rfl,hs⟩
     rw [show two (s.sp.u i k:Int) _ _ _ _=upL s.sp i k by unfold upL;rw [if_pos ak]] at hs
     refine .go ?_
     refine .E 29 hs ?_
     refine .append (ys:=gZ (upL s.sp i k)) hs cM rfl rfl hO (.own .here cu (by rw [e7];unfold upL;rw [if_pos ak];rfl)) (ld _) (fun l h=>by rw [e7] at h;simp only [List.length_append] at h;omega) ?_;intro v141 en141 w hO2 hs
     rw [←iI,List.append_assoc _ (mc _ _ _)] at hO2
     refine .go ?_
     refine .z 30 rfl zg ?_;refine .D hs ?_
     refine nB (nT ?_)
     refine .region (.z zm (.z cP (.z zg (.nil ?_))))
     refine nT ?_
     exact ⟨(k+1,v141),.dD rfl cu bj,⟨by dsimp only;omega,_,hO2,hs.sb⟩,by dsimp only;omega⟩
    ·refine .exit ?_
     refine xT (xT (xB (nB (nT ?_))))
     refine .region (.z zm (.z cP (.z zg (.nil ?_))))
     refine nT ?_
     obtain rfl:k=s.sp.wa.length - 1:=by omega
     rw [List.append_assoc,←Gp i ak] at hO
     exact ⟨(i+1,_),.dD rfl cu bj,⟨by dsimp only;omega,en,hO,hs⟩,by dsimp only;omega⟩
   ·refine .exit ?_
    refine xT (xT (xB (nT ?_)))
    refine .aj (.z (zfa aQ) (.y hs (zld bJ) ?_))
    obtain rfl:i=s.sp.st.length:=by omega
    refine .o (.call Tryz.call96 rfl (ja hs h3 ak) ?_);rintro v144 w ⟨H1,hle1,hT,hs⟩
    replace hT:RTd H1 v144 s.bO:=hT
    have htl:s.bO.length≤60:=by have:=dL s.rs;unfold Srv.bO;omega
    have hmem:∀r∈s.rs,r.td∈s.bO:=fun r hr=>eY.2 ⟨r,hr,rfl⟩
    have hlims:s.cH=eH (q6 s.sp) s.sp.wa.length s.sp.st.length++eH (alL s.sp) s.sp.wa.length s.sp.st.length++eH (upL s.sp) s.sp.wa.length s.sp.st.length++wM s.sp s.bO.length++qZ s.sp s.bO s.cs 0 s.cs.length++uG s.sp s.bO s.rs s.rs.length:=rfl
    generalize s.bO=ts at*
    obtain ⟨at_,ct,rfl⟩:=RTd.shape hT
    refine .z zg (.nil (.aj (.y hs (zls [_,_,_,_,_,_] aV aH) ?_)))
    refine .o (.call Tryz.call94 rfl (ic (s:=s.sp) hs (h1.mono hle1) (h2.mono hle1) ⟨ak,ak⟩) ?_);rintro _ w ⟨rfl,hs⟩
    refine .z zg (.nil (.seq (.aj (.z zg (.nil (.block ?_))))))
    refine .loop (fun p:Nat×Value=>⟨243,[],[(14,I (p.1:Int)),(4,p.2),(12,.slice at_ ts.length ct),(13,I (s.sp.many:Int)),(3,.pointer (some ⟨b3,0,none⟩)),(1,.pointer (some ⟨b1,0,none⟩))]⟩)
     (fun p w=>p.1≤ts.length∧∃en,cI 4 p.2 (gZ (eH (q6 s.sp) s.sp.wa.length s.sp.st.length++eH (alL s.sp) s.sp.wa.length s.sp.st.length++eH (upL s.sp) s.sp.wa.length s.sp.st.length++wM s.sp p.1)) en∧St H1 w (en:: .blk b3 [I s.sp.id,I s.sp.src,.slice ast s.sp.st.length cst,.slice awa s.sp.wa.length cwa,I s.sp.al,I s.sp.up]:: .blk b1 [I s.sp.id,I s.sp.src,.slice ast s.sp.st.length cst,.slice awa s.sp.wa.length cwa,I s.sp.al,I s.sp.up,.slice ar s.rs.length cr,.slice ac s.cs.length cc]::σ)) (fun p=>ts.length - p.1) (0,vo) bj
     ⟨by first|omega|exact Nat.zero_le _,en,by show cI 4 vo (gZ (_++[])) en;rw [List.append_nil];exact hO,hs⟩ ?_
    clear hO hs
    rintro ⟨j,vo⟩ w ⟨hj,en,hO,hs⟩
    dsimp only at hj hO ⊢
    have hel:=gP s.sp j
    refine .seq (.aj (.z zm (.z zm (.z (dp bB) (.z iK (.nil ?_))))))
    refine (.bH rfl (fun hc150=>?_) (fun hc150=>?_))
    ·refine .skip ?_
     refine nT ?_
     refine .seq (.block (.region (.z zm (.z zm (.z cP (.z zm (.z cP (.z (zfa dM) (.y hs (zld ae) ?_)))))))))
     refine .o (.call Tryz.call210 rfl (kU hs) ?_);rintro _ w ⟨b160,rfl,hs⟩
     refine .o (.append (ys:=gZ (two 0 ((s.sp.many:Int)+1+(j:Int)) 1000 1000 s.sp.src)) hs cM rfl rfl hO (.own .here rfl rfl) (ld _) (fun l h=>by rw [e7] at h;simp only [List.length_append] at h;omega) ?_);intro v161 en161 w hO2 hs
     rw [←iI,List.append_assoc _ (wM _ _),show (s.sp.many:Int)+1+(j:Int)=((s.sp.many+1+j:Nat):Int) by omega] at hO2
     refine .z zg (.nil ?_)
     refine nB (nT ?_)
     refine .region (.z zm (.z cP (.z zg (.nil ?_))))
     refine nT ?_
     exact ⟨(j+1,v161),.dD rfl cu bj,⟨by dsimp only;omega,_,hO2,hs.sb⟩,by dsimp only;omega⟩
    ·refine .exit ?_
     refine xT (xT (xB (nT ?_)))
     refine .seq (.aj (.z zg (.nil (.block ?_))))
     refine .loop (fun p:Nat×Value=>⟨243,[],[(15,I (p.1:Int)),(4,p.2),(12,.slice at_ ts.length ct),(13,I (s.sp.many:Int)),(3,.pointer (some ⟨b3,0,none⟩)),(1,.pointer (some ⟨b1,0,none⟩))]⟩)
      (fun p w=>p.1≤s.cs.length∧∃en,cI 4 p.2 (gZ (eH (q6 s.sp) s.sp.wa.length s.sp.st.length++eH (alL s.sp) s.sp.wa.length s.sp.st.length++eH (upL s.sp) s.sp.wa.length s.sp.st.length++wM s.sp ts.length++qZ s.sp ts s.cs 0 p.1)) en∧St H1 w (en:: .blk b3 [I s.sp.id,I s.sp.src,.slice ast s.sp.st.length cst,.slice awa s.sp.wa.length cwa,I s.sp.al,I s.sp.up]:: .blk b1 [I s.sp.id,I s.sp.src,.slice ast s.sp.st.length cst,.slice awa s.sp.wa.length cwa,I s.sp.al,I s.sp.up,.slice ar s.rs.length cr,.slice ac s.cs.length cc]::σ)) (fun p=>s.cs.length - p.1) (0,vo) bj
      ⟨by first|omega|exact Nat.zero_le _,en,by show cI 4 vo (gZ (_++[])) en;rw [List.append_nil,←show j=ts.length by omega];exact hO,hs⟩ ?_
     clear hO hs
     rintro ⟨i,vo⟩ w ⟨hi,en,hO,hs⟩
     dsimp only at hi hO ⊢
     have hel:=gP s.sp ts.length
     have hcl1:=jn s.sp ts s.cs 0 i
     have hcl2:i*(2*(ts.length - 0))≤20*(2*60):=Nat.mul_le_mul ak ak
     refine .seq (.aj (.z zm (.z (zfa cD) (.y hs (zld e8) (.z (dp bw) (.z iK (.nil ?_)))))))
     refine (.bH rfl (fun hc166=>?_) (fun hc166=>?_))
     ·refine .skip ?_
      refine nT ?_
      refine .seq (.block (.aj (.z zg (.nil (.block ?_)))))
      refine .loop (fun p:Nat×Value=>⟨243,[],[(16,I (p.1:Int)),(4,p.2),(15,I (i:Int)),(12,.slice at_ ts.length ct),(13,I (s.sp.many:Int)),(3,.pointer (some ⟨b3,0,none⟩)),(1,.pointer (some ⟨b1,0,none⟩))]⟩)
       (fun p w=>p.1≤ts.length∧∃en,cI 4 p.2 (gZ (eH (q6 s.sp) s.sp.wa.length s.sp.st.length++eH (alL s.sp) s.sp.wa.length s.sp.st.length++eH (upL s.sp) s.sp.wa.length s.sp.st.length++wM s.sp ts.length++qZ s.sp ts s.cs 0 i++ka s.sp ts (Aq s.cs i) 0 p.1)) en∧St H1 w (en:: .blk b3 [I s.sp.id,I s.sp.src,.slice ast s.sp.st.length cst,.slice awa s.sp.wa.length cwa,I s.sp.al,I s.sp.up]:: .blk b1 [I s.sp.id,I s.sp.src,.slice ast s.sp.st.length cst,.slice awa s.sp.wa.length cwa,I s.sp.al,I s.sp.up,.slice ar s.rs.length cr,.slice ac s.cs.length cc]::σ)) (fun p=>ts.length - p.1) (0,vo) bj
       ⟨by first|omega|exact Nat.zero_le _,en,by show cI 4 vo (gZ (_++[])) en;rw [List.append_nil];exact hO,hs⟩ ?_
      clear hO hs
      rintro ⟨j,vo⟩ w ⟨hj,en,hO,hs⟩
      dsimp only at hj hO ⊢
      have hl1:=lJ s.sp ts (Aq s.cs i) 0 j
      refine .seq (.aj (.z zm (.z zm (.z (dp bB) (.z iK (.nil ?_))))))
      refine (.bH rfl (fun hc172=>?_) (fun hc172=>?_))
      ·refine .skip ?_
       refine nT ?_
       refine .seq (.block ?_)
       refine .draw mix rfl hs fun w hs=>?_
       refine .z 0 rfl zm ?_;refine .z 1 rfl (zfa cD) ?_;refine .y 2 rfl hs e8 ?_;refine .z 3 rfl zm ?_
       obtain ⟨c,hx⟩:=nth (l:=s.cs) (k:=i) ak
       obtain ⟨t,ht⟩:=nth (l:=ts) (k:=j) ak
       obtain ⟨g1,g2,g3,g4,g5,g6⟩:=hcs c (List.mem_of_getElem? hx)
       have ec:=DD hx
       have et:=FY ht
       refine .ixX (enc:=Cmp.c) (i:=4) hs rfl aq .none (h4.mono hle1) rfl rfl bw cE hx de ?_;intro b179 o179 hc179
       refine .r (i:=5) hs rfl aq .none (bY (vs:=c.c) rfl Tryz.isAgg153 cE hc179) ?_
       refine .z 6 rfl zm ?_;refine .z 7 rfl zm ?_
       refine .ixX (enc:=TD.c) (i:=8) hs rfl aq .none hT rfl rfl bB bL ht de ?_;intro b183 o183 hc183
       refine .r (i:=9) hs rfl aq .none (bY (vs:=t.c) rfl ed bL hc183) ?_
       refine .z 10 rfl zm ?_;refine .z 11 rfl cP ?_;refine .z 12 rfl zm ?_;refine .z 13 rfl cP ?_
       refine .E 14 hs ?_
       refine .call Tryz.call212 rfl (uz (c:=c) (t:=t) hs ⟨ak,ak⟩) ?_;rintro v189 w ⟨en189,hO189,hs⟩
       obtain ⟨a189,l189,c189,rfl,h189⟩:=hO189.shape
       refine .go ?_
       refine .E 15 hs ?_
       refine .append (ys:=gZ (kS c t ((s.sp.many:Int)+1+(j:Int)))) hs cM rfl rfl hO (Src.Jj hO189 .here) (ld _) (fun l h=>by rw [e7] at h;simp only [List.length_append] at h;have:=yo c t ((s.sp.many:Int)+1+(j:Int));rw [e7] at h189;omega) ?_;intro v190 en190 w hO2 hs
       rw [←iI,List.append_assoc _ (ka _ _ _ _ _),show ka s.sp ts (Aq s.cs i) 0 j++kS c t ((s.sp.many:Int)+1+(j:Int))=ka s.sp ts (Aq s.cs i) 0 (j+1) by
        show _=_++kS (Aq s.cs i) (td0 ts (0+j)) ((s.sp.many+1+(0+j):Nat):Int)
        rw [Nat.zero_add,ec,et,show ((s.sp.many+1+j:Nat):Int)=(s.sp.many:Int)+1+(j:Int) by omega]] at hO2
       refine .go ?_
       refine .z 16 rfl zg ?_;refine .D hs ?_
       refine nB (nT ?_)
       refine .region (.z zm (.z cP (.z zg (.nil ?_))))
       refine nT ?_
       exact ⟨(j+1,v190),.dD rfl cu bj,⟨by dsimp only;omega,_,hO2,hs.sb⟩,by dsimp only;omega⟩
      ·refine .exit ?_
       refine xT (xT (xB (nB (nT ?_))))
       refine .region (.z zm (.z cP (.z zg (.nil ?_))))
       refine nT ?_
       obtain rfl:j=ts.length:=by omega
       rw [List.append_assoc _ (qZ _ _ _ _ _)] at hO
       exact ⟨(i+1,_),.dD rfl cu bj,⟨by dsimp only;omega,en,hO,hs⟩,by dsimp only;omega⟩
     ·refine .exit ?_
      refine xT (xT (xB (nT ?_)))
      refine .seq (.aj (.z zg (.nil (.block ?_))))
      refine .loop (fun p:Nat×Value=>⟨243,[],[(17,I (p.1:Int)),(4,p.2),(12,.slice at_ ts.length ct),(13,I (s.sp.many:Int)),(3,.pointer (some ⟨b3,0,none⟩)),(1,.pointer (some ⟨b1,0,none⟩))]⟩)
       (fun p w=>p.1≤s.rs.length∧∃en,cI 4 p.2 (gZ (eH (q6 s.sp) s.sp.wa.length s.sp.st.length++eH (alL s.sp) s.sp.wa.length s.sp.st.length++eH (upL s.sp) s.sp.wa.length s.sp.st.length++wM s.sp ts.length++qZ s.sp ts s.cs 0 s.cs.length++uG s.sp ts s.rs p.1)) en∧St H1 w (en:: .blk b3 [I s.sp.id,I s.sp.src,.slice ast s.sp.st.length cst,.slice awa s.sp.wa.length cwa,I s.sp.al,I s.sp.up]:: .blk b1 [I s.sp.id,I s.sp.src,.slice ast s.sp.st.length cst,.slice awa s.sp.wa.length cwa,I s.sp.al,I s.sp.up,.slice ar s.rs.length cr,.slice ac s.cs.length cc]::σ)) (fun p=>s.rs.length - p.1) (0,vo) bj
       ⟨by first|omega|exact Nat.zero_le _,en,by show cI 4 vo (gZ (_++[])) en;rw [List.append_nil,←show i=s.cs.length by omega];exact hO,hs⟩ ?_
      clear hO hs
      rintro ⟨q,vo⟩ w ⟨hq,en,hO,hs⟩
      dsimp only at hq hO ⊢
      have hrl1:=gN s.sp ts s.rs q
      have hcl3:=jn s.sp ts s.cs 0 s.cs.length
      have hcl4:s.cs.length*(2*(ts.length - 0))≤20*(2*60):=Nat.mul_le_mul ak ak
      refine .seq (.aj (.z zm (.z (zfa aQ) (.y hs (zld bJ) (.z (dp au) (.z iK (.nil ?_)))))))
      refine (.bH rfl (fun hc195=>?_) (fun hc195=>?_))
      ·refine .skip ?_
       refine nT ?_
       refine .seq (.block (.aj (.z (zfa aQ) (.y hs (zld bJ) (.z zm ?_)))))
       obtain ⟨r,hx⟩:=nth (l:=s.rs) (k:=q) ak
       obtain ⟨g1,g2,g3,g4,g5,g6,g7⟩:=hrs r (List.mem_of_getElem? hx)
       obtain ⟨m,k1,k2,k3⟩:=gq (hmem r (List.mem_of_getElem? hx))
       refine .ixX (enc:=Rdg.c) hs (h3.mono hle1) rfl rfl au aF hx de ?_;intro b201 o201 hc201
       refine .q hs (bY (vs:=(Rdg.c r)) rfl eG aF hc201) ?_
       refine .o (.alloc hs eQ rfl fun b18 w hs=>?_)
       refine .o (.aP (vs:=r.c) hs rfl rfl aF fun w hs=>?_)
       change St _ _ (.blk b18 [I r.src,I r.st,I r.wa,I r.val,I r.tol,I r.tape,I r.day]::_) at hs
       refine .nil (.aj (.y hs (zls [_,_,_,_,_,_] aV aH) (.z (zfa fE) (.y hs (zld ae) (.z (zfa fD) (.y hs (zld ae) ?_))))))
       refine .o (.call yg rfl (eM (s:=s.sp) hs (h2.mono hle1) ak ⟨ak,ak⟩ ⟨ak,ak⟩) ?_);rintro _ w ⟨rfl,hs⟩
       refine .z zg (.nil (.aj (.z zm (.z cP (.z zm (.z (zfa eE) (.y hs (zld ae) (.z (zfa eD) (.y hs (zld ae) ?_)))))))))
       refine .z (zbd [_,_] iG) ?_
       refine .o (.call Tryz.call95 rfl (kf (t:=r.td) hs hT ak) ?_);rintro _ w ⟨rfl,hs⟩
       refine .z cP (.z zg (.nil (.region (.z zm (.z zm (.z zm (.z (zfa dn) (.y hs (zld ae) (.z (zfa da) ?_)))))))))
       refine .y hs (zld ae) (.z cP (.z (zfa eF) (.y hs (zld ae) (.z (zbd [_,_,_,_] eP) (.z zm (.z zm (.z (zfa da) (.y hs (zld ae) (.z (zfa dn) ?_)))))))))
       refine .y hs (zld ae) (.z gM (.z (zfa eF) (.y hs (zld ae) (.z (zbd [_,_,_,_] eP) ?_))))
       refine .o (.buildSlice (cells:=gZ (r9 s.sp ts r)) hs fL rfl aq fun b240 w hs=>?_)
       refine .o (.append (ys:=gZ (r9 s.sp ts r)) hs cM rfl rfl hO (.own .here rfl rfl) (ld _) (fun l h=>by rw [e7] at h;simp only [List.length_append] at h;omega) ?_);intro v241 en241 w hO2 hs
       rw [←iI,List.append_assoc _ (uG _ _ _ _),show uG s.sp ts s.rs q++r9 s.sp ts r=uG s.sp ts s.rs (q+1) by rw [←CC hx];rfl] at hO2
       refine .z zg (.nil ?_)
       refine nB (nT ?_)
       refine .region (.z zm (.z cP (.z zg (.nil ?_))))
       refine nT ?_
       exact ⟨(q+1,v241),.dD rfl cu bj,⟨by dsimp only;omega,_,hO2,hs.sb⟩,by dsimp only;omega⟩
      ·refine .exit ?_
       refine xT (xT (xB (nT ?_)))
       refine .aj (.z zm (.z zg (.nil ?_)))
       refine .ret (Fin.bE Tryz.results152 rfl ?_)
       obtain rfl:q=s.rs.length:=by omega
       exact ⟨H1,en,hle1,by rw [hlims];exact hO,hs.sb⟩
theorem ta{s:Srv}{vst vwa vr vc:Value}(hs:St H w σ)(h1:RI H vst s.sp.st)(h2:RI H vwa s.sp.wa)(h3:RRd H vr s.rs)(h4:RCm H vc s.cs)(he:s.early):
  Cl Tryz.prog 205 [.agg #[I s.sp.id,I s.sp.src,vst,vwa,I s.sp.al,I s.sp.up,vr,vc]] w fun u w'=>∃H1 vl en,HLe H H1∧u= .agg #[I s.sys.many,vl]∧cI 4 vl (gZ s.cH) en∧St H1 w' (en::σ):=by
 have hsm:=fG he.1
 have hrl:=he.2.1
 have htl:s.bO.length≤60:=by have:=dL s.rs;unfold Srv.bO;omega
 refine Cl.o Tryz.func205 Tryz.ntmps205 ag1 ?_
 refine .aj ?_
 refine .bx hs fun b1 w hs=>?_
 refine .o (.alloc hs eg rfl fun b2 w hs=>?_)
 refine .nil ?_
 refine .seq (.draw mix rfl hs fun w hs=>?_)
 refine .z 0 rfl (zfa bh) ?_;refine .ys 1 rfl hs [_,_,_,_,_,_] aV aH ?_;refine .z 3 rfl (zfa aQ) ?_;refine .y 4 rfl hs bJ ?_;refine .ys 8 rfl hs [_,_,_,_,_,_,_,_] aZ aD ?_
 refine .E 2 hs ?_
 refine .call Tryz.call94 rfl (ic (s:=s.sp) hs h1 h2 ⟨ak,ak⟩) ?_;rintro _ w ⟨rfl,hs⟩
 refine .go ?_
 refine .E 5 hs ?_
 refine .call Tryz.call96 rfl (ja hs h3 ak) ?_;rintro v8 w ⟨H1,hle1,hT,hs⟩
 replace hT:RTd H1 v8 s.bO:=hT
 obtain ⟨at_,ct,rfl⟩:=RTd.shape hT
 refine .go ?_
 refine .z 6 rfl (dp bB) ?_;refine .z 7 rfl cP ?_
 refine .E 9 hs ?_
 refine .call Tryz.call152 rfl (tc (s:=s) hs (h1.mono hle1) (h2.mono hle1) (h3.mono hle1) (h4.mono hle1) he) ?_;rintro v12 w ⟨H2,en,hle2,hO,hs⟩
 obtain ⟨al,ll,cl,rfl,hll⟩:=hO.shape
 refine .go ?_
 refine .z 10 rfl (zbd [_,_] lW) ?_
 refine .E 11 hs ?_
 refine .aP (vs:=[_,_]) hs rfl rfl aN ?_;intro w hs
 refine .go ?_
 refine .D hs ?_
 refine .ret ?_
 replace hs:St H2 w (.blk b2 [I ((s.sp.many:Int)+(s.bO.length:Int)),.slice al ll cl]::en::σ):=hs.sb
 exact Fin.iZ [] [] hs fun w hs=>⟨_,results1 Tryz.results205 (dJ (vs:=[_,_]) hs rfl bG aN),H2,_,en,hle1.trans hle2,by show _=Value.agg #[I ((s.sp.many+s.bO.length:Nat):Int),_];rw [Int.natCast_add],hO,hs.tail⟩
theorem rY{s:Srv}{vst vwa vr vc:Value}(hs:St H w σ)(h1:RI H vst s.sp.st)(h2:RI H vwa s.sp.wa)(h3:RRd H vr s.rs)(h4:RCm H vc s.cs)(he:s.early):
  Cl Tryz.prog 205 [.agg #[I s.sp.id,I s.sp.src,vst,vwa,I s.sp.al,I s.sp.up,vr,vc]] w fun u w'=>∃H1,HLe H H1∧RSy H1 u s.sys∧St H1 w' σ:=by
 refine (ta hs h1 h2 h3 h4 he).mono ?_
 rintro u w' ⟨H1,vl,en,hle,rfl,hO,hs⟩
 have hl:=lE he 6 ak
 rw [s.xl] at hl
 obtain ⟨H2,hle2,hR,hs⟩:=cI.cV (m:=4) (cs:=s.cH.map Lim.c) hO (fun c hc=>by simp only [List.mem_map] at hc;obtain ⟨x,_,rfl⟩:=hc;rfl) ak (by rw [List.length_map];omega) hs .here
 exact ⟨H2,hle.trans hle2,⟨vl,rfl,hR⟩,hs⟩
theorem jN{s:Spc}{q:Wht}{vst vwa:Value}(hs:St H w σ)(h2:RI H vwa s.wa):
  Cl Tryz.prog 230 [.agg #[I q.kind,I q.st,I q.wa,I s.id,I s.src,vst,vwa,I s.al,I s.up]] w fun v w'=>v= .bool (decide (0≤q.wa∧q.wa≤(s.wa.length:Int) - 1))∧St H w' σ:=by
 obtain ⟨awa,cwa,rfl⟩:=RI.shape h2
 have l2:=(RI.len h2).2.2
 refine Cl.o Tryz.func230 Tryz.ntmps230 ag1 ?_
 refine .aj ?_
 refine .bx hs fun b1 w hs=>?_
 refine .z zg (.nil (.aj (.z (zfa cZ) (.z (zfa gO) (.y hs (zld ae) (.z (zfa fk) (.z (zfa a8) (.y hs (zld an) (.z (dp af) ?_)))))))))
 refine .z gM ?_
 refine .o (.call dK rfl (bF hs) ?_);rintro _ w ⟨rfl,hs⟩
 refine .z zg (.nil ?_)
 refine .ret (Fin.bE Tryz.results230 rfl ?_)
 exact ⟨rfl,hs.out⟩
theorem kR{s:Spc}{q:Wht}{vst vwa:Value}(hs:St H w σ)(h1:RI H vst s.st):
  Cl Tryz.prog 235 [.agg #[I q.kind,I q.st,I q.wa,I s.id,I s.src,vst,vwa,I s.al,I s.up]] w fun v w'=>v= .bool (decide (0≤q.st∧q.st≤(s.st.length:Int) - 1))∧St H w' σ:=by
 obtain ⟨ast,cst,rfl⟩:=RI.shape h1
 have l1:=(RI.len h1).2.2
 refine Cl.o Tryz.func235 Tryz.ntmps235 ag1 ?_
 refine .aj ?_
 refine .bx hs fun b1 w hs=>?_
 refine .z zg (.nil (.aj (.z (zfa cZ) (.z (zfa jA) (.y hs (zld ae) (.z (zfa fk) (.z (zfa bP) (.y hs (zld an) (.z (dp af) ?_)))))))))
 refine .z gM ?_
 refine .o (.call dK rfl (bF hs) ?_);rintro _ w ⟨rfl,hs⟩
 refine .z zg (.nil ?_)
 refine .ret (Fin.bE Tryz.results235 rfl ?_)
 exact ⟨rfl,hs.out⟩
theorem rF{s:Spc}{q:Wht}:gQ s q↔(q.kind=1∧q.st=0∧s.isW q∧0<q.wa)∨(q.kind=2∧q.st=0∧s.isW q)∨(q.kind=3∧q.wa=0∧s.isS q)∨(q.kind=4∧s.isS q∧s.isW q):=by
 constructor
 ·intro h
  cases h with
  |litres a b c d=>exact .inl ⟨a,b,c,d⟩
  |plane a b c=>exact .inr (.inl ⟨a,b,c⟩)
  |section_ a b c=>exact .inr (.inr (.inl ⟨a,b,c⟩))
  |offset a b c=>exact .inr (.inr (.inr ⟨a,b,c⟩))
 ·rintro (⟨a,b,c,d⟩|⟨a,b,c⟩|⟨a,b,c⟩|⟨a,b,c⟩)
  ·exact .litres a b c d
  ·exact .plane a b c
  ·exact .section_ a b c
  ·exact .offset a b c
theorem yW{s:Spc}{q:Wht}{vst vwa:Value}(hs:St H w σ)(h2:RI H vwa s.wa)(hk:q.kind=1):
  Cl Tryz.prog 229 [.agg #[I q.kind,I q.st,I q.wa,I s.id,I s.src,vst,vwa,I s.al,I s.up]] w fun v w'=>∃b:Bool,v= .bool b∧(b=true↔gQ s q)∧St H w' σ:=by
 have hi:=rF (s:=s) (q:=q)
 simp only [Spc.isW,Spc.isS] at hi
 refine Cl.o Tryz.func229 Tryz.ntmps229 ag1 ?_
 refine .aj ?_
 refine .bx hs fun b1 w hs=>?_
 refine .z zg (.nil (.aj (.y hs (zls [_,_,_,_,_,_,_,_,_] rD lq) ?_)))
 refine .o (.call Tryz.call230 rfl (jN hs h2) ?_);rintro _ w ⟨rfl,hs⟩
 refine .z zm ?_
 refine .bif (t':=5) rfl (fun hb5=>?_) (fun hb5=>?_)
 ·refine .gT rfl rfl ?_
  refine .z (zfa cZ) ?_
  refine .gT rfl rfl ?_
  refine .z (zfa gO) ?_
  refine .gT rfl rfl ?_
  refine .y hs (zld ae) ?_
  refine .gT rfl rfl ?_
  refine .z mI (.z zpT (.z zm ?_))
  refine .iW (t':=11) rfl (fun hb11=>?_) (fun hb11=>?_)
  ·refine .gT rfl rfl ?_
   refine .z (zfa cZ) ?_
   refine .gT rfl rfl ?_
   refine .z (zfa jA) ?_
   refine .gT rfl rfl ?_
   refine .y hs (zld ae) ?_
   refine .gT rfl rfl ?_
   refine .z gj (.z zpT (.z zg (.nil ?_)))
   refine .ret (Fin.bE Tryz.results229 rfl ?_)
   exact ⟨_,rfl,by rw [hi];simp_all<;>omega,hs.out⟩
  ·refine .gFs 4 8 true rfl rfl rfl ?_
   refine .z zpF (.z zg (.nil ?_))
   refine .ret (Fin.bE Tryz.results229 rfl ?_)
   exact ⟨_,rfl,by rw [hi];simp_all<;>omega,hs.out⟩
 ·refine .gFs 4 2 true rfl rfl rfl ?_
  refine .z zpF (.z zm ?_)
  refine .gFs 4 8 true rfl rfl rfl ?_
  refine .z zpF (.z zg (.nil ?_))
  refine .ret (Fin.bE Tryz.results229 rfl ?_)
  exact ⟨_,rfl,by rw [hi];simp_all<;>omega,hs.out⟩
theorem yV{s:Spc}{q:Wht}{vst vwa:Value}(hs:St H w σ)(h2:RI H vwa s.wa)(hk:q.kind=2):
  Cl Tryz.prog 232 [.agg #[I q.kind,I q.st,I q.wa,I s.id,I s.src,vst,vwa,I s.al,I s.up]] w fun v w'=>∃b:Bool,v= .bool b∧(b=true↔gQ s q)∧St H w' σ:=by
 have hi:=rF (s:=s) (q:=q)
 simp only [Spc.isW,Spc.isS] at hi
 refine Cl.o Tryz.func232 Tryz.ntmps232 ag1 ?_
 refine .aj ?_
 refine .bx hs fun b1 w hs=>?_
 refine .z zg (.nil (.aj (.y hs (zls [_,_,_,_,_,_,_,_,_] rD lq) ?_)))
 refine .o (.call Tryz.call230 rfl (jN hs h2) ?_);rintro _ w ⟨rfl,hs⟩
 refine .z zm ?_
 refine .bif (t':=5) rfl (fun hb5=>?_) (fun hb5=>?_)
 ·refine .gT rfl rfl ?_
  refine .z (zfa cZ) ?_
  refine .gT rfl rfl ?_
  refine .z (zfa jA) ?_
  refine .gT rfl rfl ?_
  refine .y hs (zld ae) ?_
  refine .gT rfl rfl ?_
  refine .z gj (.z zpT (.z zg (.nil ?_)))
  refine .ret (Fin.bE Tryz.results232 rfl ?_)
  exact ⟨_,rfl,by rw [hi];simp_all<;>omega,hs.out⟩
 ·refine .gFs 4 2 true rfl rfl rfl ?_
  refine .z zpF (.z zg (.nil ?_))
  refine .ret (Fin.bE Tryz.results232 rfl ?_)
  exact ⟨_,rfl,by rw [hi];simp_all<;>omega,hs.out⟩
theorem yU{s:Spc}{q:Wht}{vst vwa:Value}(hs:St H w σ)(h1:RI H vst s.st)(hk:q.kind=3):
  Cl Tryz.prog 234 [.agg #[I q.kind,I q.st,I q.wa,I s.id,I s.src,vst,vwa,I s.al,I s.up]] w fun v w'=>∃b:Bool,v= .bool b∧(b=true↔gQ s q)∧St H w' σ:=by
 have hi:=rF (s:=s) (q:=q)
 simp only [Spc.isW,Spc.isS] at hi
 refine Cl.o Tryz.func234 Tryz.ntmps234 ag1 ?_
 refine .aj ?_
 refine .bx hs fun b1 w hs=>?_
 refine .z zg (.nil (.aj (.y hs (zls [_,_,_,_,_,_,_,_,_] rD lq) ?_)))
 refine .o (.call Tryz.call235 rfl (kR hs h1) ?_);rintro _ w ⟨rfl,hs⟩
 refine .z zm ?_
 refine .bif (t':=5) rfl (fun hb5=>?_) (fun hb5=>?_)
 ·refine .gT rfl rfl ?_
  refine .z (zfa cZ) ?_
  refine .gT rfl rfl ?_
  refine .z (zfa gO) ?_
  refine .gT rfl rfl ?_
  refine .y hs (zld ae) ?_
  refine .gT rfl rfl ?_
  refine .z gj (.z zpT (.z zg (.nil ?_)))
  refine .ret (Fin.bE Tryz.results234 rfl ?_)
  exact ⟨_,rfl,by rw [hi];simp_all<;>omega,hs.out⟩
 ·refine .gFs 4 2 true rfl rfl rfl ?_
  refine .z zpF (.z zg (.nil ?_))
  refine .ret (Fin.bE Tryz.results234 rfl ?_)
  exact ⟨_,rfl,by rw [hi];simp_all<;>omega,hs.out⟩
theorem yT{s:Spc}{q:Wht}{vst vwa:Value}(hs:St H w σ)(h1:RI H vst s.st)(h2:RI H vwa s.wa)(hk:q.kind=4):
  Cl Tryz.prog 237 [.agg #[I q.kind,I q.st,I q.wa,I s.id,I s.src,vst,vwa,I s.al,I s.up]] w fun v w'=>∃b:Bool,v= .bool b∧(b=true↔gQ s q)∧St H w' σ:=by
 have hi:=rF (s:=s) (q:=q)
 simp only [Spc.isW,Spc.isS] at hi
 refine Cl.o Tryz.func237 Tryz.ntmps237 ag1 ?_
 refine .aj ?_
 refine .bx hs fun b1 w hs=>?_
 refine .z zg (.nil (.aj (.y hs (zls [_,_,_,_,_,_,_,_,_] rD lq) ?_)))
 refine .o (.call Tryz.call235 rfl (kR hs h1) ?_);rintro _ w ⟨rfl,hs⟩
 refine .z zm ?_
 refine .bif (t':=5) rfl (fun hb5=>?_) (fun hb5=>?_)
 ·refine .gT rfl rfl ?_
  refine .y hs (zls [_,_,_,_,_,_,_,_,_] rD lq) ?_
  refine .gT rfl rfl ?_
  refine .o (.call Tryz.call230 rfl (jN hs h2) ?_);rintro _ w ⟨rfl,hs⟩
  refine .z zpT (.z zg (.nil ?_))
  refine .ret (Fin.bE Tryz.results237 rfl ?_)
  exact ⟨_,rfl,by rw [hi];simp_all<;>omega,hs.out⟩
 ·refine .gFs 2 2 true rfl rfl rfl ?_
  refine .z zpF (.z zg (.nil ?_))
  refine .ret (Fin.bE Tryz.results237 rfl ?_)
  exact ⟨_,rfl,by rw [hi];simp_all<;>omega,hs.out⟩
theorem sX{s:Spc}{q:Wht}{vst vwa:Value}{i k:Nat}{u:Int}(hs:St H w σ)(h1:RI H vst s.st)(h2:RI H vwa s.wa)(hok:eI s)(hq:gQ s q)(hk1:q.kind=1)(hi:i<s.st.length):
  Cl Tryz.prog 231 [.agg #[I q.kind,I q.st,I q.wa,I s.id,I s.src,vst,vwa,I s.al,I s.up],.agg #[I (i:Int),I (k:Int),I u]] w fun v w'=>∃H1,HLe H H1∧v=I (o9 s q i k)∧St H1 w' σ:=by
 obtain ⟨ast,cst,rfl⟩:=RI.shape h1
 obtain ⟨awa,cwa,rfl⟩:=RI.shape h2
 have hn:=hok.wa.many
 have hcap:=(RI.len h2).2.1
 obtain ⟨_,hw1,hw2,hw3⟩:q.st=0∧0<q.wa∧0≤q.wa∧q.wa≤(s.wa.length:Int) - 1:=by
  rcases rF.1 hq with h|h|h|h
  ·exact ⟨h.2.1,h.2.2.2,h.2.2.1.1,h.2.2.1.2⟩
  all_goals omega
 obtain ⟨m,hm⟩:∃m:Nat,q.wa=m:=⟨q.wa.toNat,ak⟩
 have hW:o9 s q i k=if (k:Int)≤q.wa then gi (wts s.st) i*gi (wts (s.wa.take (q.wa.toNat+1))) k else 0:=by unfold o9;rw [if_pos hk1]
 have hmt:q.wa.toNat=m:=by omega
 rw [hmt] at hW
 refine Cl.o Tryz.func231 Tryz.ntmps231 ag2 ?_
 refine .aj ?_
 refine .bx hs fun b2 w hs=>?_
 refine .bx hs fun b3 w hs=>?_
 refine .z zg (.nil (.seq (.aj (.z (zfa dc) (.y hs (zld ae) (.z (zfa cZ) (.z (zfa gO) (.y hs (zld ae) (.z mI ?_)))))))))
 refine .nil ?_
 refine (.bH rfl (fun hc12=>?_) (fun hc12=>?_))
 ·refine .aj (.z zg (.nil ?_))
  refine .ret (rT (Fin.bE Tryz.results231 rfl ?_))
  exact ⟨H,HLe.refl H,by rw [hW,if_neg ak],hs.out⟩
 ·refine .skip ?_
  refine nT ?_
  refine .seq (.draw mix rfl hs fun w hs=>?_)
  refine .z 0 rfl (zfa fk) ?_;refine .z 1 rfl (zfa bP) ?_;refine .y 2 rfl hs an ?_;refine .z 3 rfl (zfa fk) ?_;refine .z 4 rfl (zfa a8) ?_;refine .y 5 rfl hs an ?_;refine .z 6 rfl (zfa cZ) ?_;refine .z 7 rfl (zfa gO) ?_;refine .y 8 rfl hs ae ?_;refine .z 9 rfl cP ?_
  refine .z 10 rfl (qw (k:=m+1) rfl rfl af ai ak ak) ?_
  refine .E 11 hs ?_
  have hP:fU 7 15000 (s.wa.take (m+1)):=hok.wa.take ak ak
  refine .call Tryz.call163 rfl (nz hs h1 (h2.head (k:=m+1) ak)) ?_;rintro _ w ⟨H1,vo,e,hle1,rfl,hGx,-,hs⟩
  obtain ⟨rfl,hG⟩:=hGx ⟨hok.st,hP⟩
  have hgl:=nR (wts s.st) (wts (s.wa.take (m+1))) s.st.length
  have hyl:(wts (s.wa.take (m+1))).length=m+1:=by rw [js,List.length_take];omega
  have hgr:=AZ (X:=wts s.st) (Y:=wts (s.wa.take (m+1))) (n:=s.st.length) hi
  have hgt:=Fm (X:=wts s.st) (Y:=wts (s.wa.take (m+1))) (n:=s.st.length) (k:=k) hi ak
  have hrl:=pL (wts s.st) (wts (s.wa.take (m+1))) i
  rw [←hgr] at hrl
  generalize qT (wts s.st) (wts (s.wa.take (m+1))) s.st.length=G at*
  obtain ⟨aG,cG,rfl⟩:=hG.shape
  refine .go ?_
  refine .z 12 rfl zm ?_;refine .z 13 rfl zex ?_;refine .z 14 rfl zex ?_;refine .z 15 rfl zg ?_;refine .z 16 rfl zg ?_;refine .D hs ?_
  refine .seq (.draw mix rfl hs fun w hs=>?_)
  refine .z 0 rfl zm ?_;refine .z 1 rfl (zfa dA) ?_;refine .y 2 rfl hs ae ?_
  refine .ixT (i:=3) hs rfl aq .none hG rfl rfl aE aC (show i<_ by omega) de ?_;intro b31 o31 a31 c31 hc31 hR31
  refine .r (i:=4) hs rfl aq .none (aW rfl an hc31) ?_
  refine .z 5 rfl (zfa dc) ?_;refine .y 6 rfl hs ae ?_
  refine .ixX (enc:=fun x=>[I x]) (i:=7) hs rfl aq .none hR31 rfl rfl af ai (bU (l:=(gr G i)) (i:=k) ak) de ?_;intro b35 o35 hc35;replace hc35:=cg.one hc35
  refine .r (i:=8) hs rfl aq .none (aW rfl ae hc35) ?_
  refine .z 9 rfl zg ?_;refine .D hs ?_
  refine .ret (Fin.bE Tryz.results231 rfl ?_)
  exact ⟨H1,hle1,by rw [hW,if_pos ak,←hgt];rfl,hs.out⟩
theorem ud{s:Spc}{q:Wht}{vst vwa:Value}{i k:Nat}{u:Int}(hs:St H w σ)(h1:RI H vst s.st)(hok:eI s)(hk1:q.kind=2)(hi:i<s.st.length):
  Cl Tryz.prog 233 [.agg #[I q.kind,I q.st,I q.wa,I s.id,I s.src,vst,vwa,I s.al,I s.up],.agg #[I (i:Int),I (k:Int),I u]] w fun v w'=>∃H1,HLe H H1∧v=I (o9 s q i k)∧St H1 w' σ:=by
 have hW:o9 s q i k=if (k:Int)=q.wa then gi (wts s.st) i else 0:=by unfold o9;rw [if_neg ak,if_pos hk1]
 have hl:=js s.st
 refine Cl.o Tryz.func233 Tryz.ntmps233 ag2 ?_
 refine .aj ?_
 refine .bx hs fun b2 w hs=>?_
 refine .bx hs fun b3 w hs=>?_
 refine .z zg (.nil (.seq (.aj (.z (zfa dc) (.y hs (zld ae) (.z (zfa cZ) (.z (zfa gO) (.y hs (zld ae) (.z gS ?_)))))))))
 refine .nil ?_
 refine (.ek rfl (fun hc12=>?_) (fun hc12=>?_))
 ·refine .aj (.z zg (.nil ?_))
  refine .ret (rT (Fin.bE Tryz.results233 rfl ?_))
  exact ⟨H,HLe.refl H,by rw [hW,if_neg ak],hs.out⟩
 ·refine .skip ?_
  refine nT ?_
  refine .aj (.z (zfa fk) (.z (zfa bP) (.y hs (zld an) ?_)))
  refine .o (.call Tryz.call275 rfl (lA hs h1) ?_);rintro _ w ⟨H1,vo,e,hle1,rfl,hGx,hs⟩
  obtain ⟨rfl,hG⟩:=hGx hok.st
  obtain ⟨aG,cG,rfl⟩:=RI.shape hG
  refine .z zm (.z zex (.z zex (.z zg (.z zg (.nil (.aj (.z zm (.z (zfa dA) (.y hs (zld ae) ?_)))))))))
  refine .ixY hs hG rfl rfl af ai (bU (l:=(wts s.st)) (i:=i) ak) de ?_;intro b23 o23 hc23
  refine .q hs (aW rfl ae hc23) ?_
  refine .z zg (.nil ?_)
  refine .ret (Fin.bE Tryz.results233 rfl ?_)
  exact ⟨H1,hle1,by rw [hW,if_pos ak],hs.out⟩
theorem rG{s:Spc}{q:Wht}{vst vwa:Value}{i k:Nat}{u:Int}(hs:St H w σ)(h2:RI H vwa s.wa)(hok:eI s)(hk1:q.kind=3)(hk:k<s.wa.length):
  Cl Tryz.prog 236 [.agg #[I q.kind,I q.st,I q.wa,I s.id,I s.src,vst,vwa,I s.al,I s.up],.agg #[I (i:Int),I (k:Int),I u]] w fun v w'=>∃H1,HLe H H1∧v=I (o9 s q i k)∧St H1 w' σ:=by
 have hW:o9 s q i k=if (i:Int)=q.st then gi (wts s.wa) k else 0:=by unfold o9;rw [if_neg ak,if_neg ak,if_pos hk1]
 have hl:=js s.wa
 refine Cl.o Tryz.func236 Tryz.ntmps236 ag2 ?_
 refine .aj ?_
 refine .bx hs fun b2 w hs=>?_
 refine .bx hs fun b3 w hs=>?_
 refine .z zg (.nil (.seq (.aj (.z (zfa dA) (.y hs (zld ae) (.z (zfa cZ) (.z (zfa jA) (.y hs (zld ae) (.z gS ?_)))))))))
 refine .nil ?_
 refine (.ek rfl (fun hc12=>?_) (fun hc12=>?_))
 ·refine .aj (.z zg (.nil ?_))
  refine .ret (rT (Fin.bE Tryz.results236 rfl ?_))
  exact ⟨H,HLe.refl H,by rw [hW,if_neg ak],hs.out⟩
 ·refine .skip ?_
  refine nT ?_
  refine .aj (.z (zfa fk) (.z (zfa a8) (.y hs (zld an) ?_)))
  refine .o (.call Tryz.call275 rfl (lA hs h2) ?_);rintro _ w ⟨H1,vo,e,hle1,rfl,hGx,hs⟩
  obtain ⟨rfl,hG⟩:=hGx (Cq hok)
  obtain ⟨aG,cG,rfl⟩:=RI.shape hG
  refine .z zm (.z zex (.z zex (.z zg (.z zg (.nil (.aj (.z zm (.z (zfa dc) (.y hs (zld ae) ?_)))))))))
  refine .ixY hs hG rfl rfl af ai (bU (l:=(wts s.wa)) (i:=k) ak) de ?_;intro b23 o23 hc23
  refine .q hs (aW rfl ae hc23) ?_
  refine .z zg (.nil ?_)
  refine .ret (Fin.bE Tryz.results236 rfl ?_)
  exact ⟨H1,hle1,by rw [hW,if_pos ak],hs.out⟩
theorem sW{s:Spc}{q:Wht}{vst vwa:Value}{i k:Nat}{u:Int}(hs:St H w σ)(hk1:q.kind=4):
  Cl Tryz.prog 238 [.agg #[I q.kind,I q.st,I q.wa,I s.id,I s.src,vst,vwa,I s.al,I s.up],.agg #[I (i:Int),I (k:Int),I u]] w fun v w'=>∃H1,HLe H H1∧v=I (o9 s q i k)∧St H1 w' σ:=by
 have hW:o9 s q i k=if (i:Int)=q.st∧(k:Int)=q.wa then 1 else 0:=by unfold o9;rw [if_neg ak,if_neg ak,if_neg ak]
 refine Cl.o Tryz.func238 Tryz.ntmps238 ag2 ?_
 refine .aj ?_
 refine .bx hs fun b2 w hs=>?_
 refine .bx hs fun b3 w hs=>?_
 refine .z zg (.nil (.seq (.aj (.z (zfa dA) (.y hs (zld ae) (.z (zfa cZ) (.z (zfa jA) (.y hs (zld ae) (.z gS ?_)))))))))
 refine .z zm ?_
 refine .B3 (t':=11) rfl (fun hb11=>?_) (fun hb11=>?_)
 ·refine .gFs 6 6 false rfl rfl rfl ?_
  refine .z zpT (.nil ?_)
  refine (.cT ?_)
  refine .aj (.z zg (.nil ?_))
  refine .ret (rT (Fin.bE Tryz.results238 rfl ?_))
  first
  |exact ⟨H,HLe.refl H,by rw [hW,if_neg ak],hs.out⟩
  |exact ⟨H,HLe.refl H,by rw [hW,if_pos ak],hs.out⟩
 ·refine .gT rfl rfl ?_
  refine .z (zfa dc) ?_
  refine .gT rfl rfl ?_
  refine .y hs (zld ae) ?_
  refine .gT rfl rfl ?_
  refine .z (zfa cZ) ?_
  refine .gT rfl rfl ?_
  refine .z (zfa gO) ?_
  refine .gT rfl rfl ?_
  refine .y hs (zld ae) ?_
  refine .gT rfl rfl ?_
  refine .z gS (.z zpF (.nil ?_))
  refine (.ek rfl (fun hc18=>?_) (fun hc18=>?_))
  ·refine .aj (.z zg (.nil ?_))
   refine .ret (rT (Fin.bE Tryz.results238 rfl ?_))
   first
   |exact ⟨H,HLe.refl H,by rw [hW,if_neg ak],hs.out⟩
   |exact ⟨H,HLe.refl H,by rw [hW,if_pos ak],hs.out⟩
  ·refine .skip ?_
   refine nT ?_
   refine .aj (.z zg (.nil ?_))
   refine .ret (Fin.bE Tryz.results238 rfl ?_)
   first
   |exact ⟨H,HLe.refl H,by rw [hW,if_neg ak],hs.out⟩
   |exact ⟨H,HLe.refl H,by rw [hW,if_pos ak],hs.out⟩
def Bv(k:Int):Nat:=if k=1 then 229 else if k=2 then 232 else if k=3 then 234 else 237
def Bm(k:Int):Nat:=if k=1 then 231 else if k=2 then 233 else if k=3 then 236 else 238
def AV(k:Int):Value:= .agg #[.func (.func (Bv k)) #[] #[],.func (.func (Bm k)) #[] #[],I (tn ⟨k,0,0⟩)]
def Ho:List MapEntry:=[{key:=I 1,val:=AV 1,born:=0},{key:=I 2,val:=AV 2,born:=1},{key:=I 3,val:=AV 3,born:=2},{key:=I 4,val:=AV 4,born:=3}]
theorem lF(hs:St H w σ):
  Cl Tryz.prog 187 [] w fun v w'=>∃b,v= .map (some b)∧St H w' (.obj b (.map Ho.toArray 4)::σ):=by
 refine Cl.of Tryz.func187 rfl Tryz.ntmps187 cu (xS) ?_
 refine .aj (.z zg (.nil (.aj ?_)))
 refine .o (.makeMap hs fun b1 w hs=>?_)
 refine .z (zbd [_,_,_] jf) ?_
 refine .o (.insert (es:=[]) hs rfl rfl rfl eT bA rfl fun w hs=>?_)
 refine .z (zbd [_,_,_] jf) ?_
 refine .o (.insert (es:=[{key:=I 1,val:=AV 1,born:=0}]) hs rfl rfl rfl eT bA rfl fun w hs=>?_)
 refine .z (zbd [_,_,_] jf) ?_
 refine .o (.insert (es:=[{key:=I 1,val:=AV 1,born:=0},{key:=I 2,val:=AV 2,born:=1}]) hs rfl rfl rfl eT bA rfl fun w hs=>?_)
 refine .z (zbd [_,_,_] jf) ?_
 refine .o (.insert (es:=[{key:=I 1,val:=AV 1,born:=0},{key:=I 2,val:=AV 2,born:=1},{key:=I 3,val:=AV 3,born:=2}]) hs rfl rfl rfl eT bA rfl fun w hs=>?_)
 refine .z zm (.z zg (.nil ?_))
 refine .ret (Fin.bE Tryz.results187 rfl ?_)
 exact ⟨b1,rfl,hs⟩
def lF1(k:Int):Value:=if 1≤k∧k≤4 then .func (.func (Bv k)) #[] #[] else .nilFunc
def lF2(k:Int):Value:=if 1≤k∧k≤4 then .func (.func (Bm k)) #[] #[] else .nilFunc
def lD(k:Int):Int:=if 1≤k∧k≤4 then tn ⟨k,0,0⟩ else 0
theorem AU(k:Int):[lF1 k,lF2 k,I (lD k)].all Value.oneCell'=true:=by
 unfold lF1 lF2;split<;>rfl
theorem CK{H:bV}{s:FS}{x y:Operand}{b:Nat}(k:Int)(hx:FS.ev s x=some (.map (some b)))(hy:FS.ev s y=some (I k)):
  QJ Tryz.prog H [.obj b (.map Ho.toArray 4)] s (.lookup 238 x y true) (.tuple #[.agg #[lF1 k,lF2 k,I (lD k)],.bool (decide (1≤k∧k≤4))]):=by
 by_cases h:1≤k∧k≤4
 ·rw [decide_eq_true h]
  have h4:k=1∨k=2∨k=3∨k=4:=by omega
  rcases h4 with rfl|rfl|rfl|rfl
  ·exact AJ (v:=AV 1) (j:=0) hx hy eT bA rfl .here
  ·exact AJ (v:=AV 2) (j:=1) hx hy eT bA rfl .here
  ·exact AJ (v:=AV 3) (j:=2) hx hy eT bA rfl .here
  ·exact AJ (v:=AV 4) (j:=3) hx hy eT bA rfl .here
 ·rw [decide_eq_false h]
  have e1:lF1 k= .nilFunc:=if_neg h
  have e2:lF2 k= .nilFunc:=if_neg h
  have e3:lD k=0:=if_neg h
  rw [e1,e2,e3]
  refine GG (es:=Ho) (c:=4) hx hy eT bA JB ?_ .here
  have n1:(k==1)=false:=by simp only [beq_eq_false_iff_ne];omega
  have n2:(k==2)=false:=by simp only [beq_eq_false_iff_ne];omega
  have n3:(k==3)=false:=by simp only [beq_eq_false_iff_ne];omega
  have n4:(k==4)=false:=by simp only [beq_eq_false_iff_ne];omega
  simp [Instr.findNow,Instr.sameNow,Ho,n1,n2,n3,n4]
theorem Ey(k:Int):∀args w,(callFunc (Bv k) args).run Tryz.prog w= .ok (.enter (Bv k) args) w:=by
 unfold Bv
 split
 ·exact Tryz.call229
 ·split
  ·exact Tryz.call232
  ·split
   ·exact Tryz.call234
   ·exact Tryz.call237
theorem Ei(k:Int):∀args w,(callFunc (Bm k) args).run Tryz.prog w= .ok (.enter (Bm k) args) w:=by
 unfold Bm
 split
 ·exact Tryz.call231
 ·split
  ·exact Tryz.call233
  ·split
   ·exact Tryz.call236
   ·exact Tryz.call238
theorem Ex{s:Spc}{q:Wht}{vst vwa:Value}(hs:St H w σ)(h1:RI H vst s.st)(h2:RI H vwa s.wa)(hk:1≤q.kind∧q.kind≤4):
  Cl Tryz.prog (Bv q.kind) [.agg #[I q.kind,I q.st,I q.wa,I s.id,I s.src,vst,vwa,I s.al,I s.up]] w fun v w'=>∃b:Bool,v= .bool b∧(b=true↔gQ s q)∧St H w' σ:=by
 unfold Bv
 split
 ·exact yW hs h2 eU
 ·split
  ·exact yV hs h2 eU
  ·split
   ·exact yU hs h1 eU
   ·exact yT hs h1 h2 ak
theorem Eh{s:Spc}{q:Wht}{vst vwa:Value}{i k:Nat}{u:Int}(hs:St H w σ)(h1:RI H vst s.st)(h2:RI H vwa s.wa)(hok:eI s)(hq:gQ s q)(hk:1≤q.kind∧q.kind≤4)(hi:i<s.st.length)(hkw:k<s.wa.length):
  Cl Tryz.prog (Bm q.kind) [.agg #[I q.kind,I q.st,I q.wa,I s.id,I s.src,vst,vwa,I s.al,I s.up],.agg #[I (i:Int),I (k:Int),I u]] w fun v w'=>∃H1,HLe H H1∧v=I (o9 s q i k)∧St H1 w' σ:=by
 unfold Bm
 split
 ·exact sX hs h1 h2 hok hq eU hi
 ·split
  ·exact ud hs h1 hok eU hi
  ·split
   ·exact rG hs h2 hok eU hkw
   ·exact sW hs ak
theorem Im{q:Wht}(h:1≤q.kind∧q.kind≤4):lD q.kind=tn q:=by
 unfold lD;rw [if_pos h];rfl
theorem Eg{s:Spc}{q:Wht}(h:gQ s q):1≤q.kind∧q.kind≤4:=by
 rcases rF.1 h with h|h|h|h<;>omega
set_option maxHeartbeats 1000000 in
theorem ky{s:Spc}{q:Wht}{vst vwa:Value}(hs:St H w σ)(h1:RI H vst s.st)(h2:RI H vwa s.wa)(hok:eI s):
  Cl Tryz.prog 130 [.agg #[I s.id,I s.src,vst,vwa,I s.al,I s.up],.agg #[I q.kind,I q.st,I q.wa]] w fun u w'=>∃H1 vl L d b en,HLe H H1∧u= .tuple #[vl,I d,.bool b]∧cI 1 vl (Is L) en∧((b=true∧gQ s q∧L=mi s q∧d=tn q)∨(b=false∧¬gQ s q∧L=[]∧d=0))∧St H1 w' (en::σ):=by
 have hsm:=fG hok
 obtain ⟨ast,cst,rfl⟩:=RI.shape h1
 obtain ⟨awa,cwa,rfl⟩:=RI.shape h2
 refine Cl.o Tryz.func130 Tryz.ntmps130 ag2 ?_
 refine .aj ?_
 refine .bx hs fun b2 w hs=>?_
 refine .bx hs fun b3 w hs=>?_
 refine .z zg (.z zg (.z zg (.nil ?_)))
 refine .cut (fun fs w=>∃b7,kJ fs ⟨46,[],[(8,.bool (decide (1≤q.kind∧q.kind≤4))),(7,.pointer (some ⟨b7,0,none⟩)),(2,.pointer (some ⟨b2,0,none⟩)),(3,.pointer (some ⟨b3,0,none⟩))]⟩∧St H w (.blk b7 [lF1 q.kind,lF2 q.kind,I (lD q.kind)]:: .blk b3 [I q.kind,I q.st,I q.wa]:: .blk b2 [I s.id,I s.src,(.slice ast s.st.length cst),(.slice awa s.wa.length cwa),I s.al,I s.up]::σ)) ?_ ?_
 ·refine .draw mix rfl hs fun w hs=>?_
  refine .z 1 rfl (zfa xE) ?_;refine .y 2 rfl hs ae ?_
  refine .e2 (i:=0) (j:=7) aq rfl rfl rfl rfl .none .none hs ?_ ?_
  ·refine .call Tryz.call187 rfl (lF hs) ?_;rintro _ w ⟨b13,rfl,hs⟩
   refine .go ?_
   refine .q (i:=3) [.obj b13 (.map Ho.toArray 4)] rfl aq .none (CK (H:= .bot) q.kind rfl rfl) ?_
   refine .z 4 rfl zm ?_;refine .z 5 rfl zex ?_;refine .z 6 rfl zex ?_
   refine .E 7 hs ?_
   refine .alloc hs JB rfl ?_;intro b7 w hs
   refine .go ?_
   refine .E 8 hs ?_
   refine .aP (vs:=[lF1 q.kind,lF2 q.kind,I (lD q.kind)]) hs rfl rfl Tryz.sizeOf236 ?_ (hv:=AU _);intro w hs
   refine .go ?_
   refine .z 9 rfl zg ?_;refine .D hs ?_
   exact nT ⟨b7,bj,hs.sb⟩
  ·refine .alloc hs JB rfl ?_;intro b7 w hs
   refine .go ?_
   refine .E 0 hs ?_
   refine .call Tryz.call187 rfl (lF hs) ?_;rintro _ w ⟨b13,rfl,hs⟩
   refine .go ?_
   refine .q (i:=3) [.obj b13 (.map Ho.toArray 4)] rfl aq .none (CK (H:= .bot) q.kind rfl rfl) ?_
   refine .z 4 rfl zm ?_;refine .z 5 rfl zex ?_;refine .z 6 rfl zex ?_
   refine .E 8 hs ?_
   refine .aP (vs:=[lF1 q.kind,lF2 q.kind,I (lD q.kind)]) hs rfl rfl Tryz.sizeOf236 ?_ (hv:=AU _);intro w hs
   refine .go ?_
   refine .z 9 rfl zg ?_;refine .D hs ?_
   exact nT ⟨b7,bj,hs.sb⟩
 ·rintro fs w ⟨b7,hfs,hs⟩
  refine WE.sub ?_ hfs
  refine .aj (.y hs (zls [_,_,_] zG jL) (.y hs (zls [_,_,_,_,_,_] aV aH) (.z (zbd (vs:=[(0,.agg #[I q.kind,I q.st,I q.wa]),(1,.agg #[I s.id,I s.src,(.slice ast s.st.length cst),(.slice awa s.wa.length cwa),I s.al,I s.up])]) [I q.kind,I q.st,I q.wa,I s.id,I s.src,(.slice ast s.st.length cst),(.slice awa s.wa.length cwa),I s.al,I s.up] tu rfl aq) ?_)))
  refine .o (.alloc hs Tryz.zeroValue241 rfl fun b9 w hs=>?_)
  refine .o (.aP (vs:=[_,_,_,_,_,_,_,_,_]) hs rfl rfl lq fun w hs=>?_)
  refine .nil (.seq (.aj (.z zm (.z fW (.z zm ?_)))))
  refine .bif (t':=24) rfl (fun hb24=>?_) (fun hb24=>?_)
  ·refine .gFs 5 2 false rfl rfl rfl ?_
   refine .z zpT (.nil ?_)
   refine (.cT ?_)
   refine .aj (.z zg (.z zg (.z zg (.nil ?_))))
   refine .ret (rT (?_))
   have hn:¬gQ s q:=fun h=>by have:=Eg h;simp [this] at hb24
   exact Fin.iZ [] [] hs fun w hs=>⟨_,results3 Tryz.results130 rfl rfl rfl,H,_,[],_,_,.nul,HLe.refl H,rfl,.nil 1 none,.inr ⟨rfl,hn,rfl,rfl⟩,hs.out.nul⟩
  ·refine .gT rfl rfl ?_
   have hk:1≤q.kind∧q.kind≤4:=by simpa using hb24
   rw [show lF1 q.kind= .func (.func (Bv q.kind)) #[] #[] from if_pos hk,show lF2 q.kind= .func (.func (Bm q.kind)) #[] #[] from if_pos hk,Im hk] at hs
   refine .z (zfa sr) ?_
   refine .gT rfl rfl ?_
   refine .y hs (zld Tryz.isAgg233) ?_
   refine .gT rfl rfl ?_
   refine .y hs (zls [_,_,_,_,_,_,_,_,_] rD lq) ?_
   refine .gT rfl rfl ?_
   refine .o (.oS (first:=[]) (cap:=[]) rfl rfl (Ey q.kind) (Ex (s:=s) hs h1 h2 hk) ?_);rintro _ w ⟨b28,rfl,hb28,hs⟩
   refine .gT rfl rfl ?_
   refine .z fW (.z zpF (.nil ?_))
   refine (.cond rfl (fun hc30=>?_) (fun hc30=>?_))
   ·refine .aj (.z zg (.z zg (.z zg (.nil ?_))))
    refine .ret (rT (?_))
    have hn:¬gQ s q:=fun h=>by rw [hb28.2 h] at hc30;cases hc30
    exact Fin.iZ [] [] hs fun w hs=>⟨_,results3 Tryz.results130 rfl rfl rfl,H,_,[],_,_,.nul,HLe.refl H,rfl,.nil 1 none,.inr ⟨rfl,hn,rfl,rfl⟩,hs.out.nul⟩
   ·refine .skip ?_
    refine nT ?_
    refine .aj ?_
    refine .o (.buildSlice (cells:=[_]) hs dk rfl rfl fun b31 w hs=>?_)
    refine .o (.alloc hs fc rfl fun b10 w hs=>?_)
    refine .o (.store hs rfl rfl aC fun w hs=>?_)
    refine .nil (.seq (.aj (.y hs (zls [_,_,_,_,_,_] aV aH) ?_)))
    have hq:gQ s q:=hb28.1 (by simpa using hc30)
    refine .o (.call B1 rfl (fC (s:=s) hs h1 h2 ⟨ak,ak⟩) ?_);rintro _ w ⟨H1,ba,hle1,rfl,hit,hs⟩
    have hwl:=jh s q
    refine .nil (.block ?_)
    refine .rangeFunc (gf:=188) (cap:=[.pointer (some ⟨ba,0,none⟩)]) (xs:=wQ s) (σb:=[.blk b10 [.slice (some ⟨b31,0,none⟩) 1 1],.blk b31 (Is [0]),.blk b7 [.func (.func (Bv q.kind)) #[] #[],.func (.func (Bm q.kind)) #[] #[],I (tn q)],.blk b9 [I q.kind,I q.st,I q.wa,I s.id,I s.src,(.slice ast s.st.length cst),(.slice awa s.wa.length cwa),I s.al,I s.up]]) (σf:=σ) (hs.sb) trivial rfl hit B0 (fun x hx=>by
      simp only [wQ,List.mem_map] at hx
      obtain ⟨j,_,rfl⟩:=hx;rfl) rfl
     (I:=fun p H' σb=>∃vo en,σb=[.blk b10 [vo],en,.blk b7 [.func (.func (Bv q.kind)) #[] #[],.func (.func (Bm q.kind)) #[] #[],I (tn q)],.blk b9 [I q.kind,I q.st,I q.wa,I s.id,I s.src,(.slice ast s.st.length cst),(.slice awa s.wa.length cwa),I s.al,I s.up]]∧cI 1 vo (Is ((mi s q).take (p+1))) en) (Ix:=fun _ _ _=>False)
     (fun j _ _ σ g1 g2=>g2) (fun _ _ _ _ _ h=>h) ⟨_,_,rfl,.full rfl⟩ ?_ ?_ (fun D c H' σb w _ h _=>h.elim)
    ·rintro ly p hp H2 σb2 σf2 w hle2 ⟨vo,en,rfl,hO⟩ hs ⟨rr,hrr⟩
     have hpm:p<s.many:=by rw [ez] at hp;exact hp
     have hin:p/s.wa.length<s.st.length:=Nat.div_lt_of_lt_mul (by rw [Nat.mul_comm];exact hpm)
     have hkm:=Nat.mod_lt p hsm.2.2.1
     have hws:=yj s q hpm
     have hget:(mi s q)[p+1]? =some (o9 s q (p/s.wa.length) (p%s.wa.length)):=by rw [←hws];exact bU ak
     rw [mE hp]
     obtain ⟨al,ll,cl,rfl,hll⟩:=hO.shape
     generalize p/s.wa.length=i at*
     generalize p%s.wa.length=k at*
     refine .region ?_
     refine .o (.alloc hs kN rfl fun b11 w hs=>?_)
     refine .o (.aP (vs:=[_,_,_]) hs rfl rfl oZ fun w hs=>?_)
     refine .nil ?_
     refine nT ?_
     refine ⟨H2,[.blk b11 [I (i:Int),I (k:Int),I ((p+1:Nat):Int)],.blk b10 [Value.slice al ll cl],en,.blk b7 [.func (.func (Bv q.kind)) #[] #[],.func (.func (Bm q.kind)) #[] #[],I (tn q)],.blk b9 [I q.kind,I q.st,I q.wa,I s.id,I s.src,(.slice ast s.st.length cst),(.slice awa s.wa.length cwa),I s.al,I s.up]],HLe.refl _,hs,?_⟩;rintro w σf4 - hs
     refine .block ?_
     refine .draw mix rfl hs fun w hs=>?_
     refine .y 0 rfl hs an ?_;refine .z 1 rfl (zfa sq) ?_
     refine .y 2 rfl hs Tryz.isAgg234 ?_
     refine .ys 3 rfl hs [_,_,_,_,_,_,_,_,_] rD lq ?_;refine .ys 4 rfl hs [_,_,_] Tryz.isAgg190 oZ ?_
     refine .E 5 hs ?_
     refine .oS (first:=[]) (cap:=[]) rfl rfl (Ei q.kind) (Eh (s:=s) (q:=q) (i:=i) (k:=k) hs (h1.mono (hle1.trans hle2)) (h2.mono (hle1.trans hle2)) hok hq hk hin hkm) ?_;rintro _ w ⟨H3,hle3,rfl,hs⟩
     refine .go ?_
     refine .E 6 hs ?_
     refine .buildSlice (cells:=[_]) hs dk rfl rfl ?_;intro b41 w hs
     refine .go ?_
     refine .E 7 hs ?_
     refine .append (ys:=Is [o9 s q i k]) hs df rfl rfl hO (.own .here rfl rfl) (jR _) (fun l h=>by simp at h;omega) ?_;intro v42 en42 w hO2 hs
     rw [show Is ((mi s q).take (p+1))++Is [o9 s q i k]=Is ((mi s q).take (p+1+1)) by rw [dh hget];simp [Is]] at hO2
     obtain ⟨a42,l42,c42,rfl,h42⟩:=hO2.shape
     refine .go ?_
     refine .E 8 hs ?_
     refine .store hs rfl rfl aC ?_;intro w hs
     refine .go ?_
     refine .D hs ?_
     refine nB ?_
     exact ⟨H3,[.blk b10 [.slice a42 l42 c42],en42,.blk b7 [.func (.func (Bv q.kind)) #[] #[],.func (.func (Bm q.kind)) #[] #[],I (tn q)],.blk b9 [I q.kind,I q.st,I q.wa,I s.id,I s.src,(.slice ast s.st.length cst),(.slice awa s.wa.length cwa),I s.al,I s.up]],hle3,(hs.sb:St H3 w (.blk b10 _::en42:: .blk b7 _:: .blk b9 _::σf4)),_,_,rfl,hO2⟩
    ·rintro D H2 σb2 w hle2 ⟨vo,en,rfl,hO⟩ hs
     rw [ez,←hwl,List.take_length] at hO
     replace hs:St H2 w (.obj D (.deferred (some [])):: .blk b10 [vo]::en:: .blk b7 [.func (.func (Bv q.kind)) #[] #[],.func (.func (Bm q.kind)) #[] #[],I (tn q)]:: .blk b9 [I q.kind,I q.st,I q.wa,I s.id,I s.src,(.slice ast s.st.length cst),(.slice awa s.wa.length cwa),I s.al,I s.up]::σ):=hs
     obtain ⟨al,ll,cl,rfl,hll⟩:=hO.shape
     refine nB (nT ?_)
     refine .seq (.draw mix rfl hs fun w hs=>?_)
     refine .y 0 rfl hs an ?_;refine .z 1 rfl (zfa so) ?_;refine .y 2 rfl hs ae ?_;refine .z 3 rfl zg ?_;refine .z 4 rfl zg ?_;refine .z 5 rfl zg ?_;refine .D hs ?_
     refine .ret ?_
     exact Fin.iZ [D] [] hs fun w hs=>⟨_,results3 Tryz.results130 rfl rfl rfl,H2,_,_,_,_,en,hle1.trans hle2,rfl,hO,.inl ⟨rfl,hq,rfl,rfl⟩,hs.sb⟩
theorem jP{a d:Int}(hs:St H w σ)(hd:1≤d)(ha: -4608000000000000000≤a∧a≤4608000000000000000):
  Cl Tryz.prog 132 [I a,I d] w fun v w'=>v=I (a/d)∧St H w' σ:=by
 have hq: -4608000000000000000≤a.tdiv d∧a.tdiv d≤4608000000000000000:=by
  have h1:=tS (n:=a) (d:=d) ak
  have h2:a/d≤4608000000000000000:=Int.ediv_le_of_le_mul ak (by
   have:=Int.mul_le_mul_of_nonneg_left hd (show (0:Int)≤4608000000000000000 by omega);omega)
  have h3: -4608000000000000000≤a/d:=Int.le_ediv_of_mul_le ak (by
   have:=Int.mul_le_mul_of_nonneg_left hd (show (0:Int)≤4608000000000000000 by omega);omega)
  by_cases h0:0≤a
  ·rw [Int.tdiv_eq_ediv_of_nonneg h0];omega
  ·split at h1
   ·have:a/d<0:=Int.ediv_neg_of_neg_of_pos ak ak
    omega
   ·omega
 have hfl:=tS (n:=a) (d:=d) ak
 refine Cl.o Tryz.func132 Tryz.ntmps132 ag2 ?_
 refine .aj (.z zg (.nil (.aj (.z zm (.z zm ?_)))))
 refine .q hs (wx rfl rfl ak ⟨ak,ak⟩) ?_
 refine .z zg (.nil (.seq (.aj (.z zm (.z zm (.z AA (.z iK (.nil ?_))))))))
 refine (.bH rfl (fun hc12=>?_) (fun hc12=>?_))
 ·refine .region (.z zm (.z gM (.z zg (.nil ?_))))
  refine nT ?_
  refine .aj (.z zm (.z zg (.nil ?_)))
  refine .ret (Fin.bE Tryz.results132 rfl ?_)
  rw [if_pos hc12] at hfl
  exact ⟨by rw [hfl],hs⟩
 ·refine .skip ?_
  refine nT ?_
  refine .aj (.z zm (.z zg (.nil ?_)))
  refine .ret (Fin.bE Tryz.results132 rfl ?_)
  rw [if_neg hc12,Int.sub_zero] at hfl
  exact ⟨by rw [hfl],hs⟩
theorem pS{s:Srv}{vst vwa vr vc:Value}(hs:St H w σ)(h1:RI H vst s.sp.st)(h2:RI H vwa s.sp.wa)(h3:RRd H vr s.rs)(h4:RCm H vc s.cs)(hok:dT s):
  Cl Tryz.prog 178 [.agg #[I s.sp.id,I s.sp.src,vst,vwa,I s.sp.al,I s.sp.up,vr,vc]] w fun u w'=>∃H1,∃b:Bool,HLe H H1∧u= .bool b∧(b=true↔s.sys.Sound)∧St H1 w' σ:=by
 refine Cl.o Tryz.func178 Tryz.ntmps178 ag1 ?_
 refine .aj ?_
 refine .bx hs fun b1 w hs=>?_
 refine .z zg (.nil (.aj (.y hs (zls [_,_,_,_,_,_,_,_] aZ aD) ?_)))
 refine .o (.call JC rfl (fo (s:=s) hs h1 h2 h3 h4 hok.early) ?_);rintro v7 w ⟨H1,hle1,hS,hs⟩
 refine .o (.call Tryz.call221 rfl (tr (s:=s.sys) hs hS) ?_);rintro _ w ⟨H2,vx,xs,e,hle2,rfl,rx,hC,hs⟩
 obtain ⟨ax,cx,rfl⟩:=RI.shape rx
 have hchk:s.sys.check=0:=s.sys.dF.2 hok.sys
 obtain rfl:e=0:=by
  cases hC with
  |bad h=>exact (h hchk).elim
  |sound=>rfl
  |chain=>rfl
 have hiff:=hC.Ct
 refine .z zm (.z zex (.z zex (.z zg (.z zg (.nil (.aj (.z zm (.z gj (.z zm ?_)))))))))
 refine .iW (t':=13) rfl (fun hb13=>?_) (fun hb13=>?_)
 ·refine .gT rfl rfl ?_
  refine .z zm ?_
  refine .gT rfl rfl ?_
  refine .z (dp af) ?_
  refine .gT rfl rfl ?_
  refine .z gj (.z zpT (.z zg (.nil ?_)))
  refine .ret (Fin.bE Tryz.results178 rfl ?_)
  first
  |exact ⟨H2,_,hle1.trans hle2,rfl,by rw [←hiff,decide_eq_true_eq];exact ⟨fun h=>List.length_eq_zero_iff.1 ak,fun h=>by rw [h];rfl⟩,hs.out⟩
  |exact (hb13 rfl).elim
 ·refine .gFs 3 2 true rfl rfl rfl ?_
  refine .z zpF (.z zg (.nil ?_))
  refine .ret (Fin.bE Tryz.results178 rfl ?_)
  first
  |exact ⟨H2,_,hle1.trans hle2,rfl,by rw [←hiff,decide_eq_true_eq];exact ⟨fun h=>List.length_eq_zero_iff.1 ak,fun h=>by rw [h];rfl⟩,hs.out⟩
  |exact (hb13 rfl).elim
theorem FG(L:List Int)(j:Nat):L++List.replicate j 0++[0]=L++List.replicate (j+1) 0:=by
 rw [List.append_assoc,←List.replicate_succ']
set_option maxHeartbeats 1000000 in
theorem tg{s:Srv}{q:Wht}{vst vwa vr vc:Value}(hs:St H w σ)(h1:RI H vst s.sp.st)(h2:RI H vwa s.sp.wa)(h3:RRd H vr s.rs)(h4:RCm H vc s.cs)(hok:dT s):
  Cl Tryz.prog 177 [.agg #[I s.sp.id,I s.sp.src,vst,vwa,I s.sp.al,I s.sp.up,vr,vc],.agg #[I q.kind,I q.st,I q.wa]] w fun u w'=>∃H1 ul vw L d b,HLe H H1∧u= .tuple #[.agg #[I s.sys.many,ul,vw,I d],.bool b]∧RL H1 ul s.cH∧RI H1 vw L∧L.length=s.sys.n∧((b=true∧gQ s.sp q∧L=s.w q∧d=tn q)∨(b=false∧¬gQ s.sp q))∧St H1 w' σ:=by
 have hn:=rL s
 have hm:=hok.many
 have hsm:s.sys.many+1=(s.sys.n:Int):=by rw [hn];show ((s.sp.many+s.bO.length:Nat):Int)+1=_;omega
 refine Cl.o Tryz.func177 Tryz.ntmps177 ag2 ?_
 refine .aj ?_
 refine .bx hs fun b2 w hs=>?_
 refine .bx hs fun b3 w hs=>?_
 refine .o (.alloc hs ye rfl fun b4 w hs=>?_)
 refine .z zg (.nil (.aj (.y hs (zls [_,_,_,_,_,_,_,_] aZ aD) ?_)))
 refine .o (.call JC rfl (fo (s:=s) hs h1 h2 h3 h4 hok.early) ?_);rintro _ w ⟨H1,hle1,⟨ul,rfl,hL⟩,hs⟩
 obtain ⟨al,cl,rfl⟩:=RL.shape hL
 refine .o (.alloc hs eg rfl fun b6 w hs=>?_)
 refine .o (.aP (vs:=[_,_]) hs rfl rfl aN fun w hs=>?_)
 refine .nil (.aj (.z (zfa bh) (.y hs (zls [_,_,_,_,_,_] aV aH) (.y hs (zls [_,_,_] zG jL) ?_))))
 refine .o (.call Tryz.call130 rfl (ky (s:=s.sp) (q:=q) hs (h1.mono hle1) (h2.mono hle1) hok.early.1) ?_);rintro _ w ⟨H2,vl,L0,d,b,en,hle2,rfl,hO,hcase,hs⟩
 have hL0:L0.length≤s.sys.n:=by
  rcases hcase with ⟨_,_,rfl,_⟩|⟨_,_,rfl,_⟩
  ·rw [jh,hn];omega
  ·simp
 have hle02:=hle1.trans hle2
 refine .z zm (.z zex (.z zex (.z zex (.z zg (.z zg (.z zg (.nil (.seq (.block ?_)))))))))
 refine .loop (fun p:Nat×Value=>⟨34,[],[(7,p.2),(8,I d),(9,.bool b),(6,.pointer (some ⟨b6,0,none⟩)),(4,.pointer (some ⟨b4,0,none⟩))]⟩)
  (fun p w=>L0.length+p.1≤s.sys.n∧∃en,cI 1 p.2 (Is (L0++List.replicate p.1 0)) en∧St H2 w (en:: .blk b6 [I s.sys.many,.slice al s.cH.length cl]:: .blk b4 [I 0,.slice none 0 0,.slice none 0 0,I 0]::σ)) (fun p=>s.sys.n - (L0.length+p.1)) (0,vl) bj
  ⟨by simpa using hL0,en,by simpa using hO,hs.sb⟩ ?_
 clear hO hs
 rintro ⟨j,vo⟩ w ⟨hj,en,hO,hs⟩
 dsimp only at hj hO ⊢
 obtain ⟨ao,lo,co,rfl,hlo⟩:=hO.shape
 have hlo':lo=L0.length+j:=by simp [Is] at hlo;omega
 refine .seq (.aj (.z zm (.z (dp af) (.z (zfa cA) (.y hs (zld ae) (.z cP (.z iK (.nil ?_))))))))
 refine (.bH rfl (fun hc25=>?_) (fun hc25=>?_))
 ·refine .skip ?_
  refine nT ?_
  refine .block (.region (.z zm ?_))
  refine .o (.buildSlice (cells:=[_]) hs dk rfl rfl fun b27 w hs=>?_)
  refine .o (.append (ys:=Is [0]) hs df rfl rfl hO (.own .here rfl rfl) (jR _) (fun l' h=>by simp [Is] at h;omega) ?_);intro v28 en28 w hO2 hs
  rw [show Is (L0++List.replicate j 0)++Is [0]=Is (L0++List.replicate (j+1) 0) by rw [←FG];simp [Is]] at hO2
  refine .z zg (.nil ?_)
  refine nB (nT ?_)
  exact ⟨(j+1,v28),bj,⟨by dsimp only;omega,_,hO2,hs.sb⟩,by dsimp only;omega⟩
 ·refine .exit ?_
  refine xT (xT (xB (nT ?_)))
  refine .aj (.y hs (zls [_,_] bG aN) (.z zm (.z zm (.z (zbd [_,_,_,_] gg) (.z zm ?_)))))
  refine .o (.aP (vs:=[_,_,_,_]) hs rfl rfl eV fun w hs=>?_)
  refine .z zg (.nil ?_)
  refine .ret ?_
  have hjn:L0.length+j=s.sys.n:=by omega
  obtain ⟨H3,hle3,hR,hs⟩:=cI.eJ hO (by simp;omega) hs dE
  exact Fin.iZ [] [] hs fun w hs=>⟨_,results2 Tryz.results177 (dJ (vs:=[_,_,_,_]) hs rfl zF eV) rfl,H3,_,_,_,d,b,hle02.trans hle3,rfl,hL.mono (hle2.trans hle3),hR,by simp;omega,by
   rcases hcase with ⟨g1,g2,rfl,g3⟩|⟨g1,g2,_,_⟩
   ·refine .inl ⟨g1,g2,?_,g3⟩
    rw [jh,hn] at hjn
    unfold Srv.w;rw [show j=s.bO.length by omega]
   ·exact .inr ⟨g1,g2⟩,hs.out⟩
inductive ya(v:Srv)(q:Wht):Int→Prop
 |bad {e:Int} (h:wT v e) (he:e≠0):ya v q e
 |what (h:dT v) (h1:¬gQ v.sp q):ya v q 33
 |fls (h:dT v) (h1:gQ v.sp q) (h2:¬v.sys.Sound):ya v q 35
 |ok (h:dT v) (h1:gQ v.sp q) (h2:v.sys.Sound):ya v q 0
theorem ya.zero{v:Srv}{q:Wht}(h:ya v q 0):dT v∧gQ v.sp q∧v.sys.Sound:=by
 generalize hz:(0:Int)=z at h
 cases h with
 |bad h he=>exact (he hz.symm).elim
 |what=>omega
 |fls=>omega
 |ok h h1 h2=>exact ⟨h,h1,h2⟩
theorem ya.qty{v:Srv}{q:Wht}{e:Int}(h:ya v q e)(he:e≠0):DM v q 0 0 e:=by
 cases h with
 |bad h he=>exact .bad h he
 |what h h1=>exact .what h h1
 |fls h h1 h2=>exact .fls h h1 h2
 |ok=>exact (he rfl).elim
set_option maxHeartbeats 1000000 in
theorem qC{s:Srv}{q:Wht}{vst vwa vr vc:Value}(hs:St H w σ)(h1:RI H vst s.sp.st)(h2:RI H vwa s.sp.wa)(h3:RRd H vr s.rs)(h4:RCm H vc s.cs):
  Cl Tryz.prog 125 [.agg #[I s.sp.id,I s.sp.src,vst,vwa,I s.sp.al,I s.sp.up,vr,vc],.agg #[I q.kind,I q.st,I q.wa]] w fun u w'=>∃H1 m ul vw d e,HLe H H1∧u= .tuple #[.agg #[I m,ul,vw,I d],I e]∧(∃a l c,ul= .slice a l c)∧(∃a l c,vw= .slice a l c)∧ya s q e∧(e=0→m=s.sys.many∧RL H1 ul s.cH∧RI H1 vw (s.w q)∧d=tn q)∧St H1 w' σ:=by
 refine Cl.o Tryz.func125 Tryz.ntmps125 ag2 ?_
 refine .aj ?_
 refine .bx hs fun b2 w hs=>?_
 refine .bx hs fun b3 w hs=>?_
 refine .o (.alloc hs ye rfl fun b4 w hs=>?_)
 refine .z zg (.nil (.seq (.aj (.y hs (zls [_,_,_,_,_,_,_,_] aZ aD) ?_))))
 refine .o (.call JD rfl (fH (s:=s) hs h1 h2 h3 h4) ?_);rintro _ w ⟨H1,e,hle1,rfl,hC,hs⟩
 refine .z zg (.nil (.aj (.z zm (.z gS (.nil ?_)))))
 refine (.ek rfl (fun hc12=>?_) (fun hc12=>?_))
 ·refine .aj (.z (zbd [_,_,_,_] gg) (.z zm ?_))
  refine .o (.aP (vs:=[_,_,_,_]) hs rfl rfl eV fun w hs=>?_)
  refine .z zg (.nil ?_)
  refine .ret (rT (?_))
  exact Fin.iZ [] [] hs fun w hs=>⟨_,results2 Tryz.results125 (dJ (vs:=[_,_,_,_]) hs rfl zF eV) rfl,H1,_,_,_,_,e,hle1,rfl,⟨_,_,_,rfl⟩,⟨_,_,_,rfl⟩,.bad hC hc12,fun h=>(hc12 h).elim,hs.out⟩
 ·refine .skip ?_
  refine nT ?_
  refine .aj (.y hs (zls [_,_,_,_,_,_,_,_] aZ aD) (.y hs (zls [_,_,_] zG jL) ?_))
  have hok:dT s:=hC.dF.1 (by simpa using hc12)
  refine .o (.call Tryz.call177 rfl (tg (s:=s) (q:=q) hs (h1.mono hle1) (h2.mono hle1) (h3.mono hle1) (h4.mono hle1) hok) ?_);rintro _ w ⟨H2,ul,vw,L,d,b,hle2,rfl,hL,hR,hLl,hcase,hs⟩
  have hle02:=hle1.trans hle2
  obtain ⟨al,cl,rfl⟩:=RL.shape hL
  obtain ⟨aw,cw,rfl⟩:=RI.shape hR
  refine .z zm (.z zex (.z zex ?_))
  refine .o (.alloc hs ye rfl fun b7 w hs=>?_)
  refine .o (.aP (vs:=[_,_,_,_]) hs rfl rfl eV fun w hs=>?_)
  refine .z zg (.nil (.seq (.block (.aj (.z zm (.z fW (.z zg (.nil ?_))))))))
  refine (.cond rfl (fun hc21=>?_) (fun hc21=>?_))
  ·refine .aj (.z (zbd [_,_,_,_] gg) ?_)
   refine .o (.aP (vs:=[_,_,_,_]) hs rfl rfl eV fun w hs=>?_)
   refine .z zg (.nil ?_)
   refine .ret (rB (rT (?_)))
   have hq:¬gQ s.sp q:=by
    rcases hcase with ⟨g,_⟩|⟨_,g⟩
    ·subst g;cases hc21
    ·exact g
   exact Fin.iZ [] [] hs fun w hs=>⟨_,results2 Tryz.results125 (dJ (vs:=[_,_,_,_]) hs rfl zF eV) rfl,H2,_,_,_,_,_,hle02,rfl,⟨_,_,_,rfl⟩,⟨_,_,_,rfl⟩,.what hok hq,fun h=>by omega,hs.out⟩
  ·refine .aj (.y hs (zls [_,_,_,_,_,_,_,_] aZ aD) ?_)
   obtain ⟨rfl,hq,rfl,rfl⟩:b=true∧gQ s.sp q∧L=s.w q∧d=tn q:=hcase.resolve_right fun h=>by rw [h.1] at hc21;cases hc21
   refine .o (.call Tryz.call178 rfl (pS (s:=s) hs (h1.mono hle02) (h2.mono hle02) (h3.mono hle02) (h4.mono hle02) hok) ?_);rintro _ w ⟨H3,b27,hle3,rfl,hb27,hs⟩
   refine .z fW (.z zg (.nil ?_))
   refine (.cond rfl (fun hc25=>?_) (fun hc25=>?_))
   ·refine .aj (.z (zbd [_,_,_,_] gg) ?_)
    refine .o (.aP (vs:=[_,_,_,_]) hs rfl rfl eV fun w hs=>?_)
    refine .z zg (.nil ?_)
    refine .ret (rB (rT (?_)))
    exact Fin.iZ [] [] hs fun w hs=>⟨_,results2 Tryz.results125 (dJ (vs:=[_,_,_,_]) hs rfl zF eV) rfl,H3,_,_,_,_,_,hle02.trans hle3,rfl,⟨_,_,_,rfl⟩,⟨_,_,_,rfl⟩,.fls hok hq (fun h=>by rw [hb27.2 h] at hc25;cases hc25),fun h=>by omega,hs.out⟩
   ·refine .skip ?_
    refine nB (nT ?_)
    refine .aj (.y hs (zls [_,_,_,_] zF eV) ?_)
    refine .o (.aP (vs:=[_,_,_,_]) hs rfl rfl eV fun w hs=>?_)
    refine .z zg (.nil ?_)
    refine .ret ?_
    exact Fin.iZ [] [] hs fun w hs=>⟨_,results2 Tryz.results125 (dJ (vs:=[_,_,_,_]) hs rfl zF eV) rfl,H3,_,_,_,_,_,hle02.trans hle3,rfl,⟨_,_,_,rfl⟩,⟨_,_,_,rfl⟩,.ok hok hq (hb27.1 (by simpa using hc25)),fun _=>⟨rfl,hL.mono hle3,hR.mono hle3,rfl⟩,hs.out⟩
set_option maxHeartbeats 1000000 in
theorem qH{s:Srv}{q:Wht}{vst vwa vr vc:Value}(hs:St H w σ)(h1:RI H vst s.sp.st)(h2:RI H vwa s.sp.wa)(h3:RRd H vr s.rs)(h4:RCm H vc s.cs):
  Cl Tryz.prog 174 [.agg #[I s.sp.id,I s.sp.src,vst,vwa,I s.sp.al,I s.sp.up,vr,vc],.agg #[I q.kind,I q.st,I q.wa]] w fun u w'=>∃H1 lo hi e,HLe H H1∧u= .tuple #[.agg #[I lo,I hi],I e]∧DM s q lo hi e∧St H1 w' σ:=by
 refine Cl.o Tryz.func174 Tryz.ntmps174 ag2 ?_
 refine .aj ?_
 refine .bx hs fun b2 w hs=>?_
 refine .bx hs fun b3 w hs=>?_
 refine .o (.alloc hs cO rfl fun b4 w hs=>?_)
 refine .z zg (.nil (.aj (.y hs (zls [_,_,_,_,_,_,_,_] aZ aD) (.y hs (zls [_,_,_] zG jL) ?_))))
 refine .o (.call Tryz.call125 rfl (qC (s:=s) (q:=q) hs h1 h2 h3 h4) ?_);rintro _ w ⟨H1,m,ul,vw,d,e,hle1,rfl,⟨al,ll,cl,rfl⟩,⟨aw,lw,cw,rfl⟩,hA,hA0,hs⟩
 refine .z zm (.z zex (.z zex ?_))
 refine .o (.alloc hs ye rfl fun b6 w hs=>?_)
 refine .o (.aP (vs:=[_,_,_,_]) hs rfl rfl eV fun w hs=>?_)
 refine .z zg (.nil (.seq (.aj (.z zm (.z gS (.nil ?_))))))
 refine (.ek rfl (fun hc17=>?_) (fun hc17=>?_))
 ·refine .aj (.z (zbd [_,_] cz) (.z zm ?_))
  refine .o (.aP (vs:=[_,_]) hs rfl rfl aA fun w hs=>?_)
  refine .z zg (.nil ?_)
  refine .ret (rT (?_))
  exact Fin.iZ [] [] hs fun w hs=>⟨_,results2 Tryz.results174 (dJ (vs:=[_,_]) hs rfl bD aA) rfl,H1,_,_,_,hle1,rfl,hA.qty hc17,hs.out⟩
 ·refine .skip ?_
  refine nT ?_
  refine .aj (.z (zfa nX) (.y hs (zls [_,_] bG aN) (.z (zfa nW) (.y hs (zld an) ?_))))
  obtain rfl:e=0:=by simpa using hc17
  obtain ⟨rfl,hL,hR,rfl⟩:=hA0 rfl
  obtain ⟨hok,hq,hsd⟩:=hA.zero
  refine .o (.call Tryz.call219 rfl (tq (s:=s.sys) hs ⟨_,rfl,hL⟩ hR) ?_);rintro _ w ⟨H2,lo,hi,f,hle2,rfl,hRg,hs⟩
  obtain rfl:=q7 (hok.ask hq) hsd (fun b=>s.both) hRg
  have hbd:=hRg.bd
  have hdp:=A8 q
  refine .z zm (.z zex (.z zex (.z zex (.z zg (.z zg (.z zg (.nil (.seq (.aj ?_)))))))))
  refine .z zm (.z gS (.nil ?_))
  refine (.ek rfl (fun hc30=>?_) (fun hc30=>?_))
  ·refine .aj (.z (zbd [_,_] cz) (.z zm ?_))
   refine .o (.aP (vs:=[_,_]) hs rfl rfl aA fun w hs=>?_)
   refine .z zg (.nil ?_)
   refine .ret (rT (?_))
   exact (hc30 rfl).elim
  ·refine .skip ?_
   refine nT ?_
   refine .seq (.draw mix rfl hs fun w hs=>?_)
   refine .z 0 rfl zm ?_;refine .z 1 rfl (zfa j7) ?_;refine .y 2 rfl hs ae ?_;refine .z 4 rfl zm ?_;refine .z 5 rfl (zfa j7) ?_;refine .y 6 rfl hs ae ?_
   refine .E 3 hs ?_
   refine .call Tryz.call132 rfl (jP hs ak ak) ?_;rintro _ w ⟨rfl,hs⟩
   refine .go ?_
   refine .E 7 hs ?_
   refine .call Tryz.call132 rfl (jP hs ak ak) ?_;rintro _ w ⟨rfl,hs⟩
   refine .go ?_
   refine .z 8 rfl (zbd [_,_] cz) ?_
   refine .E 9 hs ?_
   refine .aP (vs:=[_,_]) hs rfl rfl aA ?_;intro w hs
   refine .go ?_
   refine .z 10 rfl zg ?_;refine .D hs ?_
   refine .ret ?_
   exact Fin.iZ [] [] hs fun w hs=>⟨_,results2 Tryz.results174 (dJ (vs:=[_,_]) hs rfl bD aA) rfl,H2,_,_,_,hle1.trans hle2,rfl,.ok hok hq hsd hRg,hs.out⟩
inductive Bh(v:Srv)(out:List Int):Int→Prop
 |bad {e:Int} (h:wT v e) (he:e≠0) (h1:out=[]):Bh v out e
 |ok {e:Int} (h:dT v) (h1:Ay v.sys out e):Bh v out e
theorem qG{s:Srv}{vst vwa vr vc:Value}(hs:St H w σ)(h1:RI H vst s.sp.st)(h2:RI H vwa s.sp.wa)(h3:RRd H vr s.rs)(h4:RCm H vc s.cs):
  Cl Tryz.prog 175 [.agg #[I s.sp.id,I s.sp.src,vst,vwa,I s.sp.al,I s.sp.up,vr,vc]] w fun u w'=>∃H1 vx out e,HLe H H1∧u= .tuple #[vx,I e]∧RI H1 vx out∧Bh s out e∧St H1 w' σ:=by
 refine Cl.o Tryz.func175 Tryz.ntmps175 ag1 ?_
 refine .aj ?_
 refine .bx hs fun b1 w hs=>?_
 refine .z zg (.z zg (.nil (.seq (.aj (.y hs (zls [_,_,_,_,_,_,_,_] aZ aD) ?_)))))
 refine .o (.call JD rfl (fH (s:=s) hs h1 h2 h3 h4) ?_);rintro _ w ⟨H1,e,hle1,rfl,hC,hs⟩
 refine .z zg (.nil (.aj (.z zm (.z gS (.nil ?_)))))
 refine (.ek rfl (fun hc10=>?_) (fun hc10=>?_))
 ·refine .aj (.z zm (.z zg (.z zg (.nil ?_))))
  refine .ret (rT (Fin.iq Tryz.results175 rfl rfl ?_))
  exact ⟨H1,_,[],_,hle1,rfl,RS.nil H1 1 none 0,.bad hC hc10 rfl,hs.out⟩
 ·refine .skip ?_
  refine nT ?_
  refine .aj (.y hs (zls [_,_,_,_,_,_,_,_] aZ aD) ?_)
  have hok:dT s:=hC.dF.1 (by simpa using hc10)
  refine .o (.call JC rfl (fo (s:=s) hs (h1.mono hle1) (h2.mono hle1) (h3.mono hle1) (h4.mono hle1) hok.early) ?_);rintro v14 w ⟨H2,hle2,hS,hs⟩
  refine .o (.call Tryz.call220 rfl (p6 (s:=s.sys) hs hS) ?_);rintro _ w ⟨H3,vx,out,f,hle3,rfl,hR,hCf,hs⟩
  refine .z zm (.z zex (.z zex (.z zg (.z zg (.nil (.aj (.z zm (.z zm (.z zg ?_)))))))))
  refine .z zg (.nil ?_)
  refine .ret (Fin.iq Tryz.results175 rfl rfl ?_)
  exact ⟨H3,_,out,_,hle1.trans (hle2.trans hle3),rfl,hR,.ok hok hCf,hs.out⟩
theorem nC{v:Value}{rs:List (List Int)}{g:Nat}{cap:List Value}(q:List Int→Prop)(hs:St H w σ)(hR:RT H v rs)(hl:rs.length≤9223372036854775807)(hc:∀args w,(callFunc g args).run Tryz.prog w= .ok (.enter g args) w)
  (hp:∀H' w σ r u,HLe H H'→RI H' u r→St H' w σ→Cl Tryz.prog g ([u]++cap) w fun z w'=>∃H1 b,HLe H' H1∧z= .bool b∧(b=true↔q r)∧St H1 w' σ):
  Cl Tryz.prog 227 [v,.func (.func g) #[] cap.toArray] w fun u w'=>∃H1 i,HLe H H1∧u=I i∧(0≤i↔∃x∈rs,q x)∧St H1 w' σ:=by
 obtain ⟨a,c,rfl⟩:=hR.shape
 refine Cl.o Tryz.func227 Tryz.ntmps227 ag2 ?_
 refine .aj (.z zg (.nil (.seq (.aj (.z zm (.z (dp aE) (.z zm (.nil ?_))))))))
 refine .for (N:=rs.length) (J:=fun k fr w=>fr=[(1,.func (.func g) #[] cap.toArray),(0,.slice a rs.length c)]∧∃H1,HLe H H1∧(∀j<k,∀y,rs[j]? =some y→¬q y)∧St H1 w σ) ak ?_ ?_ ?_
 ·exact .mk ⟨rfl,H,HLe.refl H,fun j hj=>by omega,hs⟩
 ·rintro k fr w hk ⟨rfl,H1,hle1,hno,hs⟩
  have hx:=sN (rs:=rs) hk
  refine .block (.aj (.z zm (.z zg (.nil (.aj (.z zm (.z zm (.z zm ?_))))))))
  refine .ixT hs (hR.mono hle1) rfl rfl aE aC (show k<_ by omega) de ?_;intro b14 o14 a14 c14 hc14 hR14
  refine .q hs (aW rfl an hc14) ?_
  refine .o (.oS (first:=[]) (cap:=cap) rfl rfl hc (hp _ _ _ (gr rs k) _ hle1 hR14 hs) ?_);rintro _ w ⟨H2,b16,hle2,rfl,hb16,hs⟩
  refine .nil ?_
  refine (.cond rfl (fun hc16=>?_) (fun hc16=>?_))
  ·refine .aj (.z zm (.z zg (.nil ?_)))
   refine .ret (rB (rT (rB (rT (Fin.bE Tryz.results227 rfl ?_)))))
   exact ⟨H2,_,hle1.trans hle2,rfl,⟨fun _=>⟨_,List.mem_of_getElem? hx,hb16.1 hc16⟩,fun _=>by omega⟩,hs⟩
  ·refine .skip ?_
   refine nB (nT ?_)
   exact .mk ⟨rfl,H2,hle1.trans hle2,fm hno hx (fun h=>by rw [hb16.2 h] at hc16;cases hc16),hs⟩
 ·rintro fr w ⟨rfl,H1,hle1,hno,hs⟩
  refine nT ?_
  refine .aj (.z zg (.nil ?_))
  refine .ret (Fin.bE Tryz.results227 rfl ?_)
  exact ⟨H1,_,hle1,rfl,⟨fun h=>by omega,fun ⟨x,h1,h2⟩=>by
   obtain ⟨j,hj⟩:=List.getElem?_of_mem h1
   exact (hno j (List.getElem?_eq_some_iff.1 hj).1 x hj h2).elim⟩,hs⟩
theorem l7{v:Value}{rs:List (List Int)}{g:Nat}{cap:List Value}(q:List Int→Prop)(hs:St H w σ)(hR:RT H v rs)(hl:rs.length≤9223372036854775807)(hc:∀args w,(callFunc g args).run Tryz.prog w= .ok (.enter g args) w)
  (hp:∀H' w σ r u,HLe H H'→RI H' u r→St H' w σ→Cl Tryz.prog g ([u]++cap) w fun z w'=>∃H1 b,HLe H' H1∧z= .bool b∧(b=true↔q r)∧St H1 w' σ):
  Cl Tryz.prog 183 [v,.func (.func g) #[] cap.toArray] w fun u w'=>∃H1 b,HLe H H1∧u= .bool b∧(b=true↔∃x∈rs,q x)∧St H1 w' σ:=by
 refine Cl.o Tryz.func183 Tryz.ntmps183 ag2 ?_
 refine .aj (.z zg (.nil (.aj (.z zm (.z zm ?_)))))
 refine .o (.call Tryz.call227 rfl (nC q hs hR hl hc hp) ?_);rintro _ w ⟨H1,i,hle1,rfl,hi,hs⟩
 refine .z uc (.z zg (.nil ?_))
 refine .ret (Fin.bE Tryz.results183 rfl ?_)
 exact ⟨H1,_,hle1,rfl,by simp only [decide_eq_true_eq];exact hi,hs⟩
theorem uR{n:Int}(hs:St H w σ):
  Cl Tryz.prog 186 [I n] w fun u w'=>u= .bool (!decide (0≤n∧n≤20000))∧St H w' σ:=by
 refine Cl.o Tryz.func186 Tryz.ntmps186 ag1 ?_
 refine .aj (.z zg (.nil (.aj (.z zm ?_))))
 refine .o (.call dK rfl (bF hs) ?_);rintro _ w ⟨rfl,hs⟩
 refine .z fW (.z zg (.nil ?_))
 refine .ret (Fin.bE Tryz.results186 rfl ?_)
 exact ⟨rfl,hs⟩
theorem xv{s:Spc}{v vst vwa:Value}{r:List Int}{b:Nat}(hs:St H w σ)(hb:Row H b [I s.id,I s.src,vst,vwa,I s.al,I s.up])(h2:RI H vwa s.wa)(hr:RI H v r):
  Cl Tryz.prog 184 [v,.pointer (some ⟨b,0,none⟩)] w fun u w'=>∃H1 bb,HLe H H1∧u= .bool bb∧(bb=true↔¬(r.length=s.wa.length∧∀x∈r,0≤x∧x≤20000))∧St H1 w' σ:=by
 obtain ⟨a,c,rfl⟩:=RI.shape hr
 obtain ⟨awa,cwa,rfl⟩:=RI.shape h2
 have hb3:=hb.at 3
 refine Cl.o Tryz.func184 Tryz.ntmps184 ag2 ?_
 refine .aj (.z zg (.nil (.aj (.z zm (.z (dp af) (.z (zfa a8) (.y hs (zld an) (.z (dp af) (.z gS ?_)))))))))
 refine .z zm ?_
 refine .B3 (t':=10) rfl (fun hb10=>?_) (fun hb10=>?_)
 ·refine .gFs 2 6 false rfl rfl rfl ?_
  refine .z zpT (.z zg (.nil ?_))
  refine .ret (Fin.bE Tryz.results184 rfl ?_)
  exact ⟨H,true,HLe.refl H,rfl,⟨fun _ h=>by have:=h.1;simp_all,fun _=>rfl⟩,hs⟩
 ·refine .gT rfl rfl ?_
  refine .z zm ?_
  refine .gT rfl rfl ?_
  refine .o (.call Tryz.call185 rfl (lP (g:=186) (cap:=[]) (fun n=>¬(0≤n∧n≤20000)) hs hr Tryz.call186 (fun H' w σ n _ _ hs=>(uR hs).mono fun u w' ⟨g1,g2⟩=>⟨H',_,HLe.refl _,g1,by simp;omega,g2⟩)) ?_);rintro _ w ⟨H1,b12,hle1,rfl,hb12,hs⟩
  refine .z zpF (.z zg (.nil ?_))
  refine .ret (Fin.bE Tryz.results184 rfl ?_)
  have hlen:r.length=s.wa.length:=by simp_all;omega
  exact ⟨H1,_,hle1,rfl,by
   rw [hb12]
   constructor
   ·rintro ⟨x,h1,h2⟩ h;exact h2 (h.2 x h1)
   ·intro h
    refine Classical.byContradiction fun hn=>h ⟨hlen,fun x hx=>Classical.byContradiction fun hx'=>hn ⟨x,hx,hx'⟩⟩,hs⟩
theorem Fh{s:Spc}{rows:List (List Int)}:kB s rows↔rows.length=s.st.length∧∀r∈rows,r.length=s.wa.length∧∀x∈r,0≤x∧x≤20000:=by
 constructor
 ·rintro ⟨h1,h2,h3⟩
  refine ⟨h1,fun r hr=>?_⟩
  obtain ⟨i,hi⟩:=List.getElem?_of_mem hr
  have hil:=(List.getElem?_eq_some_iff.1 hi).1
  have hg:=sN hil
  rw [hi] at hg
  obtain rfl:=Option.some.inj hg
  have hl:=h2 i ak
  refine ⟨hl,fun x hx=>?_⟩
  obtain ⟨k,hk⟩:=List.getElem?_of_mem hx
  have hkl:=(List.getElem?_eq_some_iff.1 hk).1
  have hgk:=bU hkl
  rw [hk] at hgk
  obtain rfl:=Option.some.inj hgk
  exact h3 i ak k ak
 ·rintro ⟨h1,h2⟩
  have hm:∀i<s.st.length,gr rows i∈rows:=fun i hi=>List.mem_of_getElem? (sN ak)
  refine ⟨h1,fun i hi=>(h2 _ (hm i hi)).1,fun i hi k hk=>?_⟩
  have hl:=(h2 _ (hm i hi)).1
  exact (h2 _ (hm i hi)).2 _ (List.mem_of_getElem? (bU ak))
theorem kW{s:Spc}{vst vwa vh:Value}{rows:List (List Int)}(hs:St H w σ)(h1:RI H vst s.st)(h2:RI H vwa s.wa)(hr:RT H vh rows):
  Cl Tryz.prog 129 [.agg #[I s.id,I s.src,vst,vwa,I s.al,I s.up],.agg #[vh]] w fun u w'=>∃H1 b,HLe H H1∧u= .bool b∧(b=true↔kB s rows)∧St H1 w' σ:=by
 obtain ⟨ast,cst,rfl⟩:=RI.shape h1
 obtain ⟨awa,cwa,rfl⟩:=RI.shape h2
 obtain ⟨ah,ch,rfl⟩:=hr.shape
 have hrl:=(hr.len).2.2
 refine Cl.o Tryz.func129 Tryz.ntmps129 ag2 ?_
 refine .aj ?_
 refine .bx hs fun b2 w hs=>?_
 refine .bx hs fun b3 w hs=>?_
 refine .z zg (.nil (.aj (.z (zfa kF) (.y hs (zld vB) (.z (dp aE) (.z (zfa bP) (.y hs (zld an) (.z (dp af) (.z gj ?_)))))))))
 refine .z zm ?_
 refine .iW (t':=12) rfl (fun hb12=>?_) (fun hb12=>?_)
 ·refine .gT rfl rfl ?_
  refine .z (zfa kF) ?_
  refine .gT rfl rfl ?_
  refine .y hs (zld vB) ?_
  refine .gT rfl rfl ?_
  refine .q hs (dz (f:=[]) (c:=[_]) rfl rfl) ?_
  refine .gT rfl rfl ?_
  obtain ⟨H0,hle0,hb2,hs⟩:=hs.cV (b:=b2) dE
  refine .o (.call Tryz.call183 rfl (l7 (g:=184) (cap:=[.pointer (some ⟨b2,0,none⟩)]) (fun r=>¬(r.length=s.wa.length∧∀x∈r,0≤x∧x≤20000)) hs (hr.mono hle0) hrl Tryz.call184 (fun H' w σ r u hle hu hs=>xv (s:=s) hs (hb2.mono hle) (h2.mono (hle0.trans hle)) hu)) ?_);rintro _ w ⟨H1,b16,hle1,rfl,hb16,hs⟩
  refine .gT rfl rfl ?_
  refine .z fW (.z zpT (.z zg (.nil ?_)))
  refine .ret (Fin.bE Tryz.results129 rfl ?_)
  exact ⟨H1,_,hle0.trans hle1,rfl,by
   rw [Fh]
   have hlen:rows.length=s.st.length:=by omega
   cases hbb:b16 with
   |true=>
    obtain ⟨x,hx,hn⟩:=hb16.1 hbb
    exact ⟨fun h=>(by cases h),fun h=>(hn (h.2 x hx)).elim⟩
   |false=>exact ⟨fun _=>⟨hlen,fun r hr=>Classical.byContradiction fun hn=>by rw [hb16.2 ⟨r,hr,hn⟩] at hbb;cases hbb⟩,fun _=>rfl⟩,hs.out⟩
 ·refine .gFs 5 7 true rfl rfl rfl ?_
  refine .z zpF (.z zg (.nil ?_))
  refine .ret (Fin.bE Tryz.results129 rfl ?_)
  exact ⟨H,_,HLe.refl H,rfl,⟨fun h=>(by cases h),fun h=>by have:=h.len;omega⟩,hs.out⟩
set_option maxHeartbeats 1000000 in
theorem qE{s:Spc}{q:Wht}{vst vwa vh:Value}{rows:List (List Int)}(hs:St H w σ)(h1:RI H vst s.st)(h2:RI H vwa s.wa)(hr:RT H vh rows):
  Cl Tryz.prog 64 [.agg #[I s.id,I s.src,vst,vwa,I s.al,I s.up],.agg #[vh],.agg #[I q.kind,I q.st,I q.wa]] w fun u w'=>∃H1 n e,HLe H H1∧u= .tuple #[I n,I e]∧tw s rows q n e∧St H1 w' σ:=by
 obtain ⟨ah,ch,rfl⟩:=hr.shape
 refine Cl.o Tryz.func64 Tryz.ntmps64 ag3 ?_
 refine .aj ?_
 refine .bx hs fun b3 w hs=>?_
 refine .bx hs fun b4 w hs=>?_
 refine .bx hs fun b5 w hs=>?_
 refine .z zg (.z zg (.nil (.seq (.aj (.y hs (zls [_,_,_,_,_,_] aV aH) ?_)))))
 refine .o (.call Tryz.call111 rfl (fa (s:=s) hs h1 h2) ?_);rintro _ w ⟨H1,e,hle1,rfl,he,hs⟩
 refine .z zg (.nil (.aj (.z zm (.z gS (.nil ?_)))))
 refine (.ek rfl (fun hc17=>?_) (fun hc17=>?_))
 ·refine .aj (.z zm (.z zg (.z zg (.nil ?_))))
  refine .ret (rT (?_))
  have hq:¬eI s∧e=30:=he.resolve_left fun h=>hc17 h.2
  exact Fin.iZ [] [] hs fun w hs=>⟨_,results2 Tryz.results64 rfl rfl,H1,_,_,hle1,rfl,by rw [hq.2];exact .space hq.1,hs.out⟩
 ·refine .skip ?_
  refine nT ?_
  refine .seq (.aj (.y hs (zls [_,_,_,_,_,_] aV aH) (.y hs (zls [_] Tryz.isAgg64 zD) ?_)))
  have hok:eI s:=(he.resolve_right fun h=>by omega).1
  have hsm:=fG hok
  refine .o (.call Tryz.call129 rfl (kW (s:=s) hs (h1.mono hle1) (h2.mono hle1) (hr.mono hle1)) ?_);rintro _ w ⟨H2,b21,hle2,rfl,hb21,hs⟩
  have hle02:=hle1.trans hle2
  refine .z fW (.nil ?_)
  refine (.cond rfl (fun hc22=>?_) (fun hc22=>?_))
  ·refine .aj (.z zg (.z zg (.nil ?_)))
   refine .ret (rT (?_))
   exact Fin.iZ [] [] hs fun w hs=>⟨_,results2 Tryz.results64 rfl rfl,H2,_,_,hle02,rfl,.hull hok (fun h=>by rw [hb21.2 h] at hc22;cases hc22),hs.out⟩
  ·refine .skip ?_
   refine nT ?_
   refine .aj (.y hs (zls [_,_,_,_,_,_] aV aH) (.y hs (zls [_,_,_] zG jL) ?_))
   have hh:kB s rows:=hb21.1 (by simpa using hc22)
   refine .o (.call Tryz.call130 rfl (ky (s:=s) (q:=q) hs (h1.mono hle02) (h2.mono hle02) hok) ?_);rintro _ w ⟨H3,vl,L,d,b,en,hle3,rfl,hO,hcase,hs⟩
   have hle03:=hle02.trans hle3
   obtain ⟨al,cl,rfl⟩:=hO.AD
   refine .z zm (.z zex (.z zex (.z zex ?_)))
   refine .o (.alloc hs fc rfl fun b9 w hs=>?_)
   refine .o (.store hs rfl rfl aC fun w hs=>?_)
   refine .z zg (.z zg (.nil (.seq (.aj (.z zm (.z fW (.nil ?_)))))))
   refine (.cond rfl (fun hc31=>?_) (fun hc31=>?_))
   ·refine .aj (.z zg (.z zg (.nil ?_)))
    refine .ret (rT (?_))
    have hq:¬gQ s q:=by
     rcases hcase with ⟨g,_⟩|⟨_,g,_⟩
     ·subst g;cases hc31
     ·exact g
    exact Fin.iZ [] [] hs fun w hs=>⟨_,results2 Tryz.results64 rfl rfl,H3,_,_,hle03,rfl,.what hok hh hq,hs.out⟩
   ·refine .skip ?_
    refine nT ?_
    refine .aj ?_
    refine .o (.alloc hs cB rfl fun b12 w hs=>?_)
    refine .o (.store hs rfl rfl ai fun w hs=>?_)
    refine .nil (.seq (.aj (.y hs (zls [_,_,_,_,_,_] aV aH) ?_)))
    obtain ⟨rfl,hq,rfl,rfl⟩:b=true∧gQ s q∧L=mi s q∧d=tn q:=hcase.resolve_right fun h=>by rw [h.1] at hc31;cases hc31
    have hwl:=jh s q
    obtain ⟨H4,hle4,hW,hs⟩:=cI.eJ hO ak hs dE
    have hle04:=hle03.trans hle4
    refine .o (.call B1 rfl (fC (s:=s) hs (h1.mono hle04) (h2.mono hle04) ⟨ak,ak⟩) ?_);rintro _ w ⟨H5,ba,hle5,rfl,hit,hs⟩
    have hle05:=hle04.trans hle5
    replace hW:=hW.mono hle5
    have hr5:=hr.mono hle05
    refine .nil (.block ?_)
    refine .rangeFunc (gf:=188) (cap:=[.pointer (some ⟨ba,0,none⟩)]) (xs:=wQ s) (σb:=[.blk b12 [I (iS s q rows 0)],.blk b9 [.slice al (mi s q).length cl],.blk b4 [.slice ah rows.length ch]]) (σf:=σ) (hs.sb) trivial rfl hit B0 (fun x hx=>by
      simp only [wQ,List.mem_map] at hx
      obtain ⟨j,_,rfl⟩:=hx;rfl) rfl
     (I:=fun p H' σb=>σb=[.blk b12 [I (iS s q rows p)],.blk b9 [.slice al (mi s q).length cl],.blk b4 [.slice ah rows.length ch]]) (Ix:=fun _ _ _=>False)
     (fun j _ _ σ g1 g2=>g2) (fun _ _ _ _ _ h=>h) rfl ?_ ?_ (fun D c H' σb w _ h _=>h.elim)
    ·rintro ly p hp H6 σb2 σf2 w hle6 rfl hs ⟨rr,hrr⟩
     have hpm:p<s.many:=by rw [ez] at hp;exact hp
     have hin:p/s.wa.length<s.st.length:=Nat.div_lt_of_lt_mul (by rw [Nat.mul_comm];exact hpm)
     have hkm:=Nat.mod_lt p hsm.2.2.1
     have hsucc:iS s q rows (p+1)=iS s q rows p+gi (mi s q) (p+1)*gt rows (p/s.wa.length) (p%s.wa.length):=rfl
     have hb0:=mf hok hq hh p ak
     have hb1:=mf hok hq hh (p+1) ak
     have hwz:=ow hok hq
     have hwz2:=ox (mi s q) (v:=p+1) (n:=s.many+1) ak
     have hnum:=hh.num _ hin _ hkm
     have hrow:=hh.row _ hin
     have hrlen:=hh.len
     have hprd:=kz (a:=gi (mi s q) (p+1)) (b:=gt rows (p/s.wa.length) (p%s.wa.length)) (A:=3456000000000) (B:=20000) ak ak
     have hgt:gt rows (p/s.wa.length) (p%s.wa.length)=gi (gr rows (p/s.wa.length)) (p%s.wa.length):=rfl
     rw [mE hp]
     generalize p/s.wa.length=i at*
     generalize p%s.wa.length=k at*
     rw [hgt] at hsucc hprd hnum
     refine .region ?_
     refine .o (.alloc hs kN rfl fun b13 w hs=>?_)
     refine .o (.aP (vs:=[_,_,_]) hs rfl rfl oZ fun w hs=>?_)
     refine .nil ?_
     refine nT ?_
     refine ⟨H6,[.blk b13 [I (i:Int),I (k:Int),I ((p+1:Nat):Int)],.blk b12 [I (iS s q rows p)],.blk b9 [.slice al (mi s q).length cl],.blk b4 [.slice ah rows.length ch]],HLe.refl _,hs,?_⟩;rintro w σf4 - hs
     refine .block ?_
     refine .draw mix rfl hs fun w hs=>?_
     refine .y 0 rfl hs ae ?_;refine .y 1 rfl hs an ?_;refine .z 2 rfl (zfa eN) ?_;refine .y 3 rfl hs ae ?_
     refine .ixX (enc:=fun x=>[I x]) (i:=4) hs rfl aq .none (hW.mono hle6) rfl rfl af ai (bU (l:=(mi s q)) (i:=(p+1)) ak) de ?_;intro b39 o39 hc39;replace hc39:=cg.one hc39
     refine .r (i:=5) hs rfl aq .none (aW rfl ae hc39) ?_
     refine .z 6 rfl (zfa kF) ?_;refine .y 7 rfl hs vB ?_;refine .z 8 rfl (zfa dA) ?_;refine .y 9 rfl hs ae ?_
     refine .ixT (i:=10) hs rfl aq .none (hr5.mono hle6) rfl rfl aE aC (show i<_ by omega) de ?_;intro b45 o45 a45 c45 hc45 hR45
     refine .r (i:=11) hs rfl aq .none (aW rfl an hc45) ?_
     refine .z 12 rfl (zfa dc) ?_;refine .y 13 rfl hs ae ?_
     refine .ixX (enc:=fun x=>[I x]) (i:=14) hs rfl aq .none hR45 rfl rfl af ai (bU (l:=(gr rows i)) (i:=k) ak) de ?_;intro b49 o49 hc49;replace hc49:=cg.one hc49
     refine .r (i:=15) hs rfl aq .none (aW rfl ae hc49) ?_
     refine .z 16 rfl lz ?_;refine .z 17 rfl cP ?_
     refine .E 18 hs ?_
     refine .store hs rfl rfl ai ?_;intro w hs
     refine .go ?_
     refine .D hs ?_
     refine nB ?_
     exact ⟨H6,[.blk b12 [I (iS s q rows (p+1))],.blk b9 [.slice al (mi s q).length cl],.blk b4 [.slice ah rows.length ch]],HLe.refl _,by rw [hsucc];exact (hs.sb:St H6 w (.blk b12 _:: .blk b9 _:: .blk b4 _::σf4)),rfl⟩
    ·rintro D H6 σb2 w hle6 rfl hs
     rw [ez] at hs
     replace hs:St H6 w (.obj D (.deferred (some [])):: .blk b12 [I (iS s q rows s.many)]:: .blk b9 [.slice al (mi s q).length cl]:: .blk b4 [.slice ah rows.length ch]::σ):=hs
     have hbd:=mf hok hq hh s.many ak
     have hdp:=A8 q
     refine nB (nT ?_)
     refine .aj (.y hs (zld ae) (.z zm ?_))
     refine .o (.call Tryz.call132 rfl (jP hs ak ak) ?_);rintro _ w ⟨rfl,hs⟩
     refine .z zg (.z zg (.nil ?_))
     refine .ret ?_
     exact Fin.iZ [D] [] hs fun w hs=>⟨_,results2 Tryz.results64 rfl rfl,H6,_,_,hle05.trans hle6,rfl,.ok hok hh hq,hs.out⟩
end Go.Proofs.YteajddicacjkhaaGreat
namespace Go.Proofs.YteajddicacjkhaaGreat
open Go.MW
structure WI(s:Spc)(L:List Int)(f:Nat→Nat→Int):Prop where
 len:L.length=s.many+1
 zero:gi L 0=0
 at_:∀i k,i<s.st.length→k<s.wa.length→gi L (s.u i k)=f i k
theorem WI.start(s:Spc):WI s (List.replicate (s.many+1) 0) fun _ _=>0:=
 ⟨cu,dC _ _ ak,fun i k hi hk=>by have:=vC hi hk;exact dC _ _ ak⟩
theorem WI.set{s:Spc}{L:List Int}{f:Nat→Nat→Int}(h:WI s L f){i k:Nat}(hi:i<s.st.length)(hk:k<s.wa.length)(x:Int):WI s (L.set (s.u i k) x) fun i' k'=>if i'=i∧k'=k then x else f i' k':=by
 have hb:=vC hi hk
 refine ⟨by rw [List.length_set];exact h.len,by rw [Df ak];exact h.zero,fun i' k' hi' hk'=>?_⟩
 have hb':=vC hi' hk'
 rw [fX (by rw [h.len];omega)]
 by_cases e:i'=i∧k'=k
 ·obtain ⟨rfl,rfl⟩:=e
  rw [if_pos rfl,if_pos ⟨rfl,rfl⟩]
 ·rw [if_neg e,if_neg,h.at_ i' k' hi' hk']
  intro e2
  obtain ⟨d1,d2⟩:=Gq (nw:=s.wa.length) (i:=i) hk
  obtain ⟨d3,d4⟩:=Gq (nw:=s.wa.length) (i:=i') hk'
  have e3:i'*s.wa.length+k'=i*s.wa.length+k:=by unfold Spc.u at e2;omega
  rw [e3] at d3 d4
  exact e ⟨d3.symm.trans d1,d4.symm.trans d2⟩
theorem WI.congr{s:Spc}{L:List Int}{f g:Nat→Nat→Int}(h:WI s L f)(e:∀i k,i<s.st.length→k<s.wa.length→f i k=g i k):WI s L g:=
 ⟨h.len,h.zero,fun i k hi hk=>(h.at_ i k hi hk).trans (e i k hi hk)⟩
inductive DX(v:Srv)(q:Wht):Int→Prop
 |bad {e:Int} (h:wT v e) (he:e≠0):DX v q e
 |what (h:dT v) (h1:¬gQ v.sp q):DX v q 33
 |ok (h:dT v) (h1:gQ v.sp q):DX v q 0
theorem DX.zero{v:Srv}{q:Wht}(h:DX v q 0):dT v∧gQ v.sp q:=by
 generalize hz:(0:Int)=z at h
 cases h with
 |bad h he=>exact (he hz.symm).elim
 |what=>omega
 |ok h h1=>exact ⟨h,h1⟩
end Go.Proofs.YteajddicacjkhaaGreat
namespace Go.Proofs.YteajddicacjkhaaGreat
open Go.MW
variable{H:bV}{w:World}{σ:List Ent}
theorem cn{n m:Int}(hs:St H w σ)(hm:1≤m∧m≤4611686018427387904):
  Cl Tryz.prog 90 [I n,I m] w fun u w'=>∃k:Nat,(k:Int)<m∧u=I (k:Int)∧St H w' σ:=by
 have h1:=Int.tmod_lt_of_pos n (show 0<m by omega)
 have h2:=Int.lt_tmod_of_pos n (show 0<m by omega)
 have h3:=Int.tmod_lt_of_pos (n.tmod m+m) (show 0<m by omega)
 have h4:=Int.tmod_nonneg m (show 0≤n.tmod m+m by omega)
 refine Cl.o Tryz.func90 Tryz.ntmps90 ag2 ?_
 refine .aj (.z zg (.nil (.aj (.z zm (.z zm (.z AA (.z zm (.z cP (.z zm ?_)))))))))
 refine .z AA (.z zg (.nil ?_))
 refine .ret (Fin.bE Tryz.results90 rfl ?_)
 exact ⟨((n.tmod m+m).tmod m).toNat,ak,by rw [show (((n.tmod m+m).tmod m).toNat:Int)=(n.tmod m+m).tmod m by omega],hs⟩
theorem dq{v:Value}{l:List Int}{i n:Int}(hs:St H w σ)(hr:RI H v l)(hi:0≤i)(hn:1≤n∧n≤4611686018427387904):
  Cl Tryz.prog 146 [v,I i,I n] w fun u w'=>∃k:Nat,(k:Int)<n∧u=I (k:Int)∧St H w' σ:=by
 obtain ⟨a,c,rfl⟩:=RI.shape hr
 refine Cl.o Tryz.func146 Tryz.ntmps146 ag3 ?_
 refine .aj (.z zg (.nil (.seq (.aj (.z zm (.z (dp af) (.z gj (.nil ?_))))))))
 refine (.bH rfl (fun hc9=>?_) (fun hc9=>?_))
 ·refine .aj (.z zg (.nil ?_))
  refine .ret (rT (Fin.bE Tryz.results146 rfl ?_))
  exact ⟨0,ak,rfl,hs⟩
 ·refine .skip ?_
  refine nT ?_
  refine .aj (.z zm (.z zm (.z zm (.z (dp af) (.z AA ?_)))))
  have g1:=Int.tmod_lt_of_pos i (show 0<(l.length:Int) by omega)
  have g2:=Int.tmod_nonneg (l.length:Int) hi
  refine .ixY hs hr rfl rfl af ai (bU (l:=l) (i:=(i.tmod l.length).toNat) ak) ak ?_;intro b15 o15 hc15
  refine .q hs (aW rfl ae hc15) ?_
  refine .z zm ?_
  refine .o (.call dR rfl (cn hs hn) ?_);rintro _ w ⟨k,hk,rfl,hs⟩
  refine .z zg (.nil ?_)
  refine .ret (Fin.bE Tryz.results146 rfl ?_)
  exact ⟨k,hk,rfl,hs⟩
theorem uE{v vp:Value}{s:cU}{jZ:List Int}(hs:St H w σ)(hr:RSy H v s)(hp:RI H vp jZ)(hgood:s.Ok∧s.Sound):
  Cl Tryz.prog 149 [v,vp] w fun u w'=>∃H1 vx x en,HLe H H1∧u= .tuple #[vx,I 0]∧cI 1 vx (Is x) en∧wU s jZ x∧St H1 w' (en::σ):=by
 obtain ⟨ul,rfl,hl⟩:=hr
 obtain ⟨al,cl,rfl⟩:=RL.shape hl
 obtain ⟨ap,cp,rfl⟩:=RI.shape hp
 refine Cl.o Tryz.func149 Tryz.ntmps149 ag2 ?_
 refine .aj ?_
 refine .bx hs fun b2 w hs=>?_
 refine .z zg (.z zg (.nil (.aj (.y hs (zls [_,_] bG aN) ?_))))
 refine .o (.call Tryz.call147 rfl (mL (s:=s) hs ⟨_,rfl,hl⟩) ?_);rintro _ w ⟨H1,vt,e,hle1,rfl,hcase,hs⟩
 refine .z zm (.z zex (.z zex (.z zg (.z zg (.nil (.seq (.aj (.z zm (.z gS ?_)))))))))
 refine .nil ?_
 refine (.ek rfl (fun hc20=>?_) (fun hc20=>?_))
 ·refine .aj (.z zm (.z zg (.z zg (.nil ?_))))
  refine .ret (rT (Fin.iq Tryz.results149 rfl rfl ?_))
  rcases hcase with ⟨h1,rfl,rfl⟩|⟨h1,h2,rfl,rfl⟩|⟨_,_,rfl,_⟩
  ·exact (h1 (s.dF.2 hgood.1)).elim
  ·exact (h2 hgood.2).elim
  ·exact (hc20 rfl).elim
 ·refine .skip ?_
  refine nT ?_
  refine .aj ?_
  subst hc20
  obtain ⟨hok,hsd,rs,hRT,hSq,hWT⟩:s.Ok∧s.Sound∧∃rs,RT H1 vt rs∧Sq s.n rs∧jv s.n s.di (gt rs):=by
   rcases hcase with ⟨h1,h2,_⟩|⟨_,_,h2,_⟩|⟨h1,h2,_,h3⟩
   ·exact (h1 h2.symm).elim
   ·omega
   ·exact ⟨h1,h2,h3⟩
  obtain ⟨at',ct,rfl⟩:=hRT.shape
  have hTS:=hok.IS hsd hWT
  have hrl:=hSq.1
  have hm0:=hok.m0
  have hm1:=hok.m1
  have hnn:(s.n:Int)=s.many+1:=by simp only [cU.n];omega
  refine .o (.buildSlice (cells:=[_]) hs dk rfl rfl fun b22 w hs=>?_)
  refine .z zg (.nil (.seq (.aj (.z zg (.nil (.block ?_))))))
  refine .loop (fun p:List Int×Value=>⟨109,[],[(9,I (p.1.length:Int)),(8,p.2),(6,.slice at' rs.length ct),(2,.pointer (some ⟨b2,0,none⟩)),(1,.slice ap jZ.length cp)]⟩)
   (fun p w=>D8 (gt rs) (qy jZ) p.1∧p.1.length≤s.n∧∃en,cI 1 p.2 (Is p.1) en∧St H1 w (en:: .blk b2 [I s.many,.slice al s.cH.length cl]::σ))
   (fun p=>s.n - p.1.length) ([0],.slice (some ⟨b22,0,none⟩) 1 1) bj
   ⟨.start,s.CY,_,.full (len:=1) rfl,hs⟩ ?_
  rintro ⟨X,v8⟩ w ⟨hP,hXn,en,hO,hs⟩
  dsimp only at hP hXn hO ⊢
  have hI:=hP.inv (fun i n hn=>xk jZ i hn) hTS hXn
  have hX0:=hI.l0
  have hO1:=hO
  obtain ⟨b,cap,sp,rfl,rfl,hcap⟩:=hO.some hX0
  refine .seq (.aj (.z zm (.z (zfa cA) (.y hs (zld ae) (.z oF (.nil ?_))))))
  refine (.bH rfl (fun hc26=>?_) (fun hc26=>?_))
  ·refine .skip ?_
   refine nT ?_
   refine .seq (.block (.aj (.z zg (.nil ?_))))
   have hXl:X.length<s.n:=by omega
   refine .aj (.z zg (.nil (.seq (.aj (.z zm (.z (dp af) (.z zm (.nil ?_))))))))
   refine .for (N:=X.length) (J:=fun k fr w=>∃lo hi,fr=[(10,I lo),(11,I hi),(9,I (X.length:Int)),(8,.slice (some ⟨b,0,none⟩) X.length cap),(6,.slice at' rs.length ct),(2,.pointer (some ⟨b2,0,none⟩)),(1,.slice ap jZ.length cp)]∧LoI (gt rs) X X.length k lo∧HiI (gt rs) X X.length k hi∧St H1 w (.blk b (Is X++sp):: .blk b2 [I s.many,.slice al s.cH.length cl]::σ)) ak ?_ ?_ ?_
   ·exact .mk ⟨_,_,rfl,.start _ _ _,.start _ _ _,hs⟩
   ·rintro k fr w hk ⟨lo,hi,rfl,hLo,hHi,hs⟩
    have hXk:=hI.bd k hk
    have hr1:(gr rs X.length).length=s.n:=hSq.2 _ hXl
    have hr2:(gr rs k).length=s.n:=hSq.2 _ ak
    have hb1:gi (gr rs X.length) k≠1000000000→-1400000≤gi (gr rs X.length) k∧gi (gr rs X.length) k≤1400000:=fun h=>hTS.bd X.length k hXl ak h
    have hb2:gi (gr rs k) X.length≠1000000000→-1400000≤gi (gr rs k) X.length∧gi (gr rs k) X.length≤1400000:=fun h=>hTS.bd k X.length ak hXl h
    refine .block (.aj (.z zm (.z zg (.nil ?_))))
    refine .cut (fun fs w=>∃lo',kJ fs ⟨109,[],[(10,I lo'),(12,I (k:Int)),(31,I (k:Int)),(30,I (X.length:Int)),(11,I hi),(9,I (X.length:Int)),(8,.slice (some ⟨b,0,none⟩) X.length cap),(6,.slice at' rs.length ct),(2,.pointer (some ⟨b2,0,none⟩)),(1,.slice ap jZ.length cp)]⟩∧LoI (gt rs) X X.length (k+1) lo'∧St H1 w (.blk b (Is X++sp):: .blk b2 [I s.many,.slice al s.cH.length cl]::σ)) ?_ ?_
    ·refine .aj (.z zm (.z zm ?_))
     refine .ixT hs hRT rfl rfl aE aC (show X.length<rs.length by omega) rfl ?_;intro b36 o36 a36 c36 hc36 hR36
     refine .q hs (aW rfl an hc36) ?_
     refine .z zm ?_
     refine .ixY hs hR36 rfl rfl af ai (bU (l:=gr rs X.length) (i:=k) ak) rfl ?_;intro b39 o39 hc39
     refine .q hs (aW rfl ae hc39) ?_
     refine .z gS (.nil ?_)
     refine (.ek rfl (fun hc41=>?_) (fun hc41=>?_))
     ·refine .draw mix rfl hs fun w hs=>?_
      refine .z 0 rfl zm ?_;refine .z 1 rfl zm ?_;refine .z 2 rfl zm ?_;refine .z 3 rfl (zix af ai) ?_
      refine .load (i:=4) hs rfl aq .none rfl ae ?_ (hv:=fM hk sp)
      refine .z 5 rfl zm ?_;refine .z 6 rfl zm ?_
      refine .ixT (i:=7) hs rfl aq .none hRT rfl rfl aE aC (show X.length<rs.length by omega) rfl ?_;intro b49 o49 a49 c49 hc49 hR49
      refine .r (i:=8) hs rfl aq .none (aW rfl an hc49) ?_
      refine .z 9 rfl zm ?_
      refine .ixX (enc:=fun x=>[I x]) (i:=10) hs rfl aq .none hR49 rfl rfl af ai (bU (l:=gr rs X.length) (i:=k) ak) rfl ?_;intro b52 o52 hc52;replace hc52:=cg.one hc52
      refine .r (i:=11) hs rfl aq .none (aW rfl ae hc52) ?_
      refine .z 12 rfl gM ?_;refine .z 13 rfl Cb ?_;refine .z 14 rfl zg ?_;refine .D hs ?_
      refine nT ?_
      exact ⟨_,bj,hLo.put hc41 (by have:=hb1 hc41;have:=hXk;have:=hTS.n65;show -1000000000≤gi X k - gi (gr rs X.length) k;omega),hs⟩
     ·refine .skip ?_
      refine nT ?_
      exact ⟨_,bj,hLo.skip hc41,hs⟩
    ·rintro fs w ⟨lo',hfs,hLo',hs⟩
     refine WE.sub ?_ hfs
     refine .aj (.z zm (.z zm ?_))
     refine .ixT hs hRT rfl rfl aE aC (show k<rs.length by omega) rfl ?_;intro b58 o58 a58 c58 hc58 hR58
     refine .q hs (aW rfl an hc58) ?_
     refine .z zm ?_
     refine .ixY hs hR58 rfl rfl af ai (bU (l:=gr rs k) (i:=X.length) ak) rfl ?_;intro b61 o61 hc61
     refine .q hs (aW rfl ae hc61) ?_
     refine .z gS (.nil ?_)
     refine (.ek rfl (fun hc63=>?_) (fun hc63=>?_))
     ·refine .draw mix rfl hs fun w hs=>?_
      refine .z 0 rfl zm ?_;refine .z 1 rfl zm ?_;refine .z 2 rfl zm ?_;refine .z 3 rfl (zix af ai) ?_
      refine .load (i:=4) hs rfl aq .none rfl ae ?_ (hv:=fM hk sp)
      refine .z 5 rfl zm ?_;refine .z 6 rfl zm ?_
      refine .ixT (i:=7) hs rfl aq .none hRT rfl rfl aE aC (show k<rs.length by omega) rfl ?_;intro b71 o71 a71 c71 hc71 hR71
      refine .r (i:=8) hs rfl aq .none (aW rfl an hc71) ?_
      refine .z 9 rfl zm ?_
      refine .ixX (enc:=fun x=>[I x]) (i:=10) hs rfl aq .none hR71 rfl rfl af ai (bU (l:=gr rs k) (i:=X.length) ak) rfl ?_;intro b74 o74 hc74;replace hc74:=cg.one hc74
      refine .r (i:=11) hs rfl aq .none (aW rfl ae hc74) ?_
      refine .z 12 rfl cP ?_;refine .z 13 rfl Bk ?_;refine .z 14 rfl zg ?_;refine .D hs ?_
      refine nB (nT ?_)
      exact .mk ⟨lo',_,rfl,hLo',hHi.put hc63 (by have:=hb2 hc63;have:=hXk;have:=hTS.n65;show gi X k+gi (gr rs k) X.length≤1000000000;omega),hs⟩
     ·refine .skip ?_
      refine nB (nT ?_)
      exact .mk ⟨lo',_,rfl,hLo',hHi.skip hc63,hs⟩
   ·rintro fr w ⟨lo,hi,rfl,hLo,hHi,hs⟩
    have hlb:=hLo.bd hI hTS hXl (Nat.le_refl _)
    have hhb:=hHi.bd hI hTS hXl (Nat.le_refl _)
    have hle:=hI.le hTS hXl rfl hLo hHi
    simp only [free] at hlb hhb hle
    have hpk:=xk jZ ((X.length:Int) - 1) (n:=hi - lo+1)
    refine nT ?_
    refine .aj (.z zg (.nil ?_))
    refine .cut (fun fs w=>kJ fs ⟨109,[],[(13,I (km lo hi (qy jZ ((X.length:Int) - 1) (hi - lo+1)))),(9,I (X.length:Int)),(8,.slice (some ⟨b,0,none⟩) X.length cap),(6,.slice at' rs.length ct),(2,.pointer (some ⟨b2,0,none⟩)),(1,.slice ap jZ.length cp)]⟩∧St H1 w (.blk b (Is X++sp):: .blk b2 [I s.many,.slice al s.cH.length cl]::σ)) ?_ ?_
    ·refine .block (.aj (.z zm (.z gS (.z zm ?_))))
     refine .B3 (t':=82) rfl (fun hb82=>?_) (fun hb82=>?_)
     ·refine .gT rfl rfl ?_
      refine .z zm ?_
      refine .gT rfl rfl ?_
      refine .z gS (.z zpT (.z zg (.nil ?_)))
      refine (.ek rfl (fun hc79=>?_) (fun hc79=>?_))
      ·refine .region (.z zm (.z zm (.z zm (.z gM (.z zm (.z zm (.z gM (.z cP ?_))))))))
       refine .o (.call Tryz.call209 rfl (uF hs (hp.mono hle1) ak ak) ?_);rintro _ w ⟨rfl,hs⟩
       have hq1:hi≠1000000000:=by simpa using hc79
       have hq2:=hle (by simpa using hb82) hq1
       have hq3:=hpk ak
       refine .z cP (.z zg (.nil ?_))
       refine nB (nT ?_)
       refine ⟨.dD rfl ?_ bj,hs⟩
       unfold km
       simp only [free] at*
       split<;>(try split)<;>first|rfl|omega|(simp_all;done)|(exfalso;simp_all;omega)
      ·refine .aj (.z zm (.z gS (.z zg (.nil ?_))))
       refine (.ek rfl (fun hc96=>?_) (fun hc96=>?_))
       ·refine .region (.z zm (.z zg (.nil ?_)))
        refine nB (nT ?_)
        refine ⟨.dD rfl ?_ bj,hs⟩
        unfold km
        simp only [free] at*
        split<;>(try split)<;>first|rfl|omega|(simp_all;done)|(exfalso;simp_all;omega)
       ·refine .aj (.z zm (.z gS (.z zg (.nil ?_))))
        refine (.ek rfl (fun hc100=>?_) (fun hc100=>?_))
        ·refine .region (.z zm (.z zg (.nil ?_)))
         refine nB (nT ?_)
         refine ⟨.dD rfl ?_ bj,hs⟩
         unfold km
         simp only [free] at*
         split<;>(try split)<;>first|rfl|omega|(simp_all;done)|(exfalso;simp_all;omega)
        ·refine .skip ?_
         refine nB (nT ?_)
         refine ⟨.dD rfl ?_ bj,hs⟩
         unfold km
         simp only [free] at*
         split<;>(try split)<;>first|rfl|omega|(simp_all;done)|(exfalso;simp_all;omega)
     ·refine .gFs 2 2 true rfl rfl rfl ?_
      refine .z zpF (.z zg (.nil ?_))
      refine (.cF ?_)
      refine .aj (.z zm (.z gS (.z zg (.nil ?_))))
      refine (.ek rfl (fun hc96=>?_) (fun hc96=>?_))
      ·refine .region (.z zm (.z zg (.nil ?_)))
       refine nB (nT ?_)
       refine ⟨.dD rfl ?_ bj,hs⟩
       unfold km
       simp only [free] at*
       split<;>(try split)<;>first|rfl|omega|(simp_all;done)|(exfalso;simp_all;omega)
      ·refine .aj (.z zm (.z gS (.z zg (.nil ?_))))
       refine (.ek rfl (fun hc100=>?_) (fun hc100=>?_))
       ·refine .region (.z zm (.z zg (.nil ?_)))
        refine nB (nT ?_)
        refine ⟨.dD rfl ?_ bj,hs⟩
        unfold km
        simp only [free] at*
        split<;>(try split)<;>first|rfl|omega|(simp_all;done)|(exfalso;simp_all;omega)
       ·refine .skip ?_
        refine nB (nT ?_)
        refine ⟨.dD rfl ?_ bj,hs⟩
        unfold km
        simp only [free] at*
        split<;>(try split)<;>first|rfl|omega|(simp_all;done)|(exfalso;simp_all;omega)
    ·rintro fs w ⟨hfs,hs⟩
     refine WE.sub ?_ hfs
     refine .region (.z zm (.z zm ?_))
     refine .o (.buildSlice (cells:=[_]) hs dk rfl rfl fun b106 w hs=>?_)
     refine .o (.append (ys:=Is [km lo hi (qy jZ ((X.length:Int) - 1) (hi - lo+1))]) hs df rfl rfl hO1 (.own .here rfl rfl) (jR _) (fun l' h=>by simp at h;have:=hTS.n65;omega) ?_);intro v107 en107 w hO2 hs
     rw [←List.map_append] at hO2
     refine .z zg (.nil ?_)
     refine nB (nT ?_)
     refine .region (.z zm (.z cP (.z zg (.nil ?_))))
     refine nT ?_
     exact ⟨(X++[km lo hi (qy jZ ((X.length:Int) - 1) (hi - lo+1))],v107),.dD rfl cu bj,⟨hP.snoc hLo hHi,by simp;omega,_,hO2,hs.sb⟩,by simp;omega⟩
  ·refine .exit ?_
   refine xT (xT (xB (nT ?_)))
   refine .aj (.z zm (.z zg (.z zg (.nil ?_))))
   refine .ret (Fin.iq Tryz.results149 rfl rfl ?_)
   exact ⟨H1,_,X,_,hle1,rfl,hO1,⟨gt rs,hWT,hP,ak⟩,hs.sb⟩
theorem nF{s:Srv}{vst vwa vr vc:Value}(hs:St H w σ)(h1:RI H vst s.sp.st)(h2:RI H vwa s.sp.wa)(h3:RRd H vr s.rs)(h4:RCm H vc s.cs)(he:s.early):
  Cl Tryz.prog 148 [.agg #[I s.sp.id,I s.sp.src,vst,vwa,I s.sp.al,I s.sp.up,vr,vc]] w fun u w'=>∃H1,HLe H H1∧RSy H1 u s.oQ∧St H1 w' σ:=by
 obtain ⟨ar,cr,rfl⟩:=RRd.shape h3
 have hfl:=A2 s
 have hrl:=he.2.1
 refine Cl.o Tryz.func148 Tryz.ntmps148 ag1 ?_
 refine .aj ?_
 refine .bx hs fun b1 w hs=>?_
 refine .o (.alloc hs eg rfl fun b2 w hs=>?_)
 refine .nil (.aj (.y hs (zls [_,_,_,_,_,_,_,_] aZ aD) ?_))
 refine .o (.call Tryz.call205 rfl (rY (s:=s) hs h1 h2 h3 h4 he) ?_);rintro _ w ⟨H1,hle1,⟨ul,rfl,hL⟩,hs⟩
 have hL:RL H1 ul s.cH:=hL
 obtain ⟨al,cl,rfl⟩:=RL.shape hL
 have hln:=RS.len hL
 rw [List.length_map] at hln
 refine .o (.alloc hs eg rfl fun b3 w hs=>?_)
 refine .o (.aP (vs:=[_,_]) hs rfl rfl aN fun w hs=>?_)
 refine .nil (.aj (.z (zfa cf) (.y hs (zld dj) (.z (zfa cf) (.y hs (zld dj) (.z (dp aU) (.z (zfa aQ) (.y hs (zld bJ) (.z (dp au) ?_)))))))))
 refine .z lz (.z gM ?_)
 refine .q hs (qw (k:=s.nU.length) rfl rfl aU bq ak ak) ?_
 have hT:=RS.head hL (k:=s.nU.length) ak
 rw [←List.map_take,y7] at hT
 refine .z (zfa cf) ?_
 refine .o (.store hs rfl rfl o5 fun w hs=>?_)
 refine .nil (.aj (.y hs (zls [_,_] bG aN) ?_))
 refine .o (.aP (vs:=[_,_]) hs rfl rfl aN fun w hs=>?_)
 refine .nil ?_
 refine .ret ?_
 exact Fin.iZ [] [] hs fun w hs=>⟨_,results1 Tryz.results148 (dJ (vs:=[_,_]) hs rfl bG aN),H1,hle1,⟨_,rfl,hT⟩,hs.out⟩
theorem uC{s:Srv}{vst vwa vr vc:Value}(hs:St H w σ)(h1:RI H vst s.sp.st)(h2:RI H vwa s.sp.wa)(h3:RRd H vr s.rs)(h4:RCm H vc s.cs)(he:s.early)(hok:s.oQ.Ok):
  Cl Tryz.prog 91 [.agg #[I s.sp.id,I s.sp.src,vst,vwa,I s.sp.al,I s.sp.up,vr,vc]] w fun u w'=>∃H1,∃b:Bool,HLe H H1∧u= .bool b∧(b=false→s.oQ.Sound)∧St H1 w' σ:=by
 refine Cl.o Tryz.func91 Tryz.ntmps91 ag1 ?_
 refine .aj ?_
 refine .bx hs fun b1 w hs=>?_
 refine .z zg (.nil (.aj (.y hs (zls [_,_,_,_,_,_,_,_] aZ aD) ?_)))
 refine .o (.call Tryz.call148 rfl (nF (s:=s) hs h1 h2 h3 h4 he) ?_);rintro _ w ⟨H1,hle1,hS,hs⟩
 refine .o (.call Tryz.call147 rfl (mL (s:=s.oQ) hs hS) ?_);rintro _ w ⟨H2,vt,e,hle2,rfl,hcase,hs⟩
 refine .z zm (.z zex (.z zex (.z zg (.z zg (.nil (.aj (.z zm (.z gS (.z zg ?_)))))))))
 refine .nil ?_
 refine .ret (Fin.bE Tryz.results91 rfl ?_)
 exact ⟨H2,_,hle1.trans hle2,rfl,fun h=>by
  rcases hcase with ⟨k1,_,_⟩|⟨_,_,k3,_⟩|⟨_,k2,_,_⟩
  ·exact (k1 (s.oQ.dF.2 hok)).elim
  ·subst k3;simp at h
  ·exact k2,hs.out⟩
theorem uB{s:Srv}{vst vwa vr vc vp:Value}{jZ:List Int}(hs:St H w σ)(h1:RI H vst s.sp.st)(h2:RI H vwa s.sp.wa)(h3:RRd H vr s.rs)(h4:RCm H vc s.cs)(hp:RI H vp jZ)(he:s.early)(hok:s.oQ.Ok∧s.oQ.Sound):
  Cl Tryz.prog 92 [.agg #[I s.sp.id,I s.sp.src,vst,vwa,I s.sp.al,I s.sp.up,vr,vc],vp] w fun u w'=>∃H1 x en,HLe H H1∧cI 1 u (Is x) en∧wU s.oQ jZ x∧St H1 w' (en::σ):=by
 obtain ⟨ap,cp,rfl⟩:=RI.shape hp
 refine Cl.o Tryz.func92 Tryz.ntmps92 ag2 ?_
 refine .aj ?_
 refine .bx hs fun b2 w hs=>?_
 refine .z zg (.nil (.aj (.y hs (zls [_,_,_,_,_,_,_,_] aZ aD) ?_)))
 refine .o (.call Tryz.call148 rfl (nF (s:=s) hs h1 h2 h3 h4 he) ?_);rintro _ w ⟨H1,hle1,hS,hs⟩
 refine .z zm ?_
 refine .o (.call Tryz.call149 rfl (uE (s:=s.oQ) hs hS (hp.mono hle1) hok) ?_);rintro _ w ⟨H2,vx,x,en,hle2,rfl,hO,hP,hs⟩
 refine .z zm (.z zex (.z zex (.z zg (.z zg (.nil (.aj (.z zm (.z zg (.nil ?_)))))))))
 refine .ret (Fin.bE Tryz.results92 rfl ?_)
 exact ⟨H2,x,en,hle1.trans hle2,hO,hP,hs.sb⟩
structure Grow(d D:Int)(L:List Int)(x:Int):Prop where
 low:d≤x
 high:x≤d+D*L.length
 all:∀i<L.length,d≤gi L i∧gi L i<x
 rise:∀i,i+1<L.length→gi L i<gi L (i+1)
theorem Grow.start(d D:Int):Grow d D [] d:=⟨ak,cu,fun i h=>by simp at h,fun i h=>by simp at h⟩
theorem Grow.snoc{d D x y:Int}{L:List Int}(h:Grow d D L x)(h1:x<y)(h2:y≤x+D):Grow d D (L++[x]) y:=by
 obtain ⟨g1,g2,g3,g4⟩:=h
 refine ⟨ak,?_,fun i hi=>?_,fun i hi=>?_⟩
 ·rw [List.length_append,List.length_singleton,Int.natCast_add,Int.mul_add];omega
 ·rw [List.length_append,List.length_singleton] at hi
  rw [xz]
  split
  ·have:=g3 i eU;omega
  ·rw [if_pos ak];omega
 ·rw [List.length_append,List.length_singleton] at hi
  rw [xz,xz,if_pos ak]
  split
  ·exact g4 i eU
  ·rw [if_pos ak];exact (g3 i ak).2
theorem Grow.plc{d D x most:Int}{many:Nat}{L:List Int}(h:Grow d D L x)(hd:0≤d)(h2:2≤L.length)(hm:L.length≤many)(hx:d+D*L.length≤most):fU many most L:=
 ⟨h2,hm,by have:=(h.all 0 ak).1;omega,by have:=(h.all (L.length - 1) ak).2;have:=h.high;omega,h.rise⟩
structure IL(s:Spc):Prop where
 ok:eI s
 st:s.st.length≤4
 wa:s.wa.length≤3
set_option maxHeartbeats 1000000 in
theorem pP{v:Value}{l:List Int}(hs:St H w σ)(hr:RI H v l):
  Cl Tryz.prog 89 [v] w fun u w'=>∃s vst vwa e1 e2,u= .agg #[I s.id,I s.src,vst,vwa,I s.al,I s.up]∧IL s∧cI 1 vst (Is s.st) e1∧cI 1 vwa (Is s.wa) e2∧St H w' (e1::e2::σ):=by
 obtain ⟨av,cv,rfl⟩:=RI.shape hr
 refine Cl.o Tryz.func89 Tryz.ntmps89 ag1 ?_
 refine .aj ?_
 refine .o (.alloc hs jI rfl fun b2 w hs=>?_)
 refine .nil (.aj (.z zm ?_))
 refine .o (.call gI rfl (dq hs hr ak ak) ?_);rintro _ w ⟨k11,g11,rfl,hs⟩
 refine .z cP (.z zm ?_)
 refine .o (.call gI rfl (dq hs hr ak ak) ?_);rintro _ w ⟨k14,g14,rfl,hs⟩
 refine .z cP (.z (zbd [_,_,_,_,_,_] rl) ?_)
 refine .o (.alloc hs jI rfl fun b3 w hs=>?_)
 refine .o (.aP (vs:=[_,_,_,_,_,_]) hs rfl rfl aH fun w hs=>?_)
 refine .nil (.aj (.z zm ?_))
 refine .o (.call gI rfl (dq hs hr ak ak) ?_);rintro _ w ⟨k18,g18,rfl,hs⟩
 refine .z cP (.z lz (.z zg (.nil (.aj (.z zg (.nil (.seq (.aj (.z zg ?_)))))))))
 refine .nil (.block ?_)
 refine .loop (fun p:List Int×Int×Value=>⟨90,[],[(6,I (p.1.length:Int)),(5,I p.2.1),(4,I (100*(1+(k18:Int)))),(0,.slice av l.length cv),(3,.pointer (some ⟨b3,0,none⟩)),(2,.pointer (some ⟨b2,0,none⟩))]⟩)
  (fun p w=>p.1.length≤4∧Grow 0 2707 p.1 p.2.1∧∃en,cI 1 p.2.2 (Is p.1) en∧St H w (en:: .blk b3 [I (1+(k11:Int)),I (1+(k14:Int)),p.2.2,.slice none 0 0,I 0,I 0]:: .blk b2 [I 0,I 0,.slice none 0 0,.slice none 0 0,I 0,I 0]::σ)) (fun p=>4 - p.1.length) ([],0,.slice none 0 0) bj
  ⟨cu,.start _ _,_,.nil 1 none,hs.nul⟩ ?_
 clear hs
 rintro ⟨L,x,vo⟩ w ⟨hL4,hG,en,hO,hs⟩
 dsimp only at hL4 hG hO hs ⊢
 obtain ⟨ao,lo,co,rfl,-⟩:=hO.shape
 have hx0:=hG.low
 have hx1:=hG.high
 refine .seq (.aj (.z zm (.z zm ?_)))
 refine .o (.call gI rfl (dq hs hr ak ak) ?_);rintro _ w ⟨k23,g23,rfl,hs⟩
 refine .z cP (.z iK (.nil ?_))
 refine (.bH rfl (fun hc25=>?_) (fun hc25=>?_))
 ·refine .skip ?_
  refine nT ?_
  refine .seq (.block (.aj (.z (zfa bP) (.y hs (zld an) (.z zm ?_)))))
  refine .o (.buildSlice (cells:=[_]) hs dk rfl rfl fun b31 w hs=>?_)
  refine .o (.append (ys:=Is [x]) hs df rfl rfl hO (.own .here rfl rfl) (jR _) (fun l' h=>by simp at h;omega) ?_);intro v32 en32 w hO2 hs
  rw [←List.map_append] at hO2
  obtain ⟨a32,l32,c32,rfl,-⟩:=hO2.shape
  refine .z (zfa bP) ?_
  refine .o (.store hs rfl rfl aC fun w hs=>?_)
  refine .nil (.region (.z zm (.z zm (.z zm (.z zm (.z cP ?_))))))
  refine .o (.call gI rfl (dq hs hr ak ak) ?_);rintro _ w ⟨k39,g39,rfl,hs⟩
  have m41:=kz (a:=100*(1+(k18:Int))) (b:=1+(k39:Int)) (A:=900) (B:=3) ak ak
  have m41':100≤100*(1+(k18:Int))*(1+(k39:Int)):=by
   have:=Int.mul_le_mul (a:=100) (c:=100*(1+(k18:Int))) (b:=1) (d:=1+(k39:Int)) ak ak ak ak
   omega
  refine .z cP (.z lz (.z cP (.z zm ?_)))
  refine .o (.call gI rfl (dq hs hr ak ak) ?_);rintro _ w ⟨k44,g44,rfl,hs⟩
  refine .z zm (.z zm (.z cP ?_))
  refine .o (.call gI rfl (dq hs hr ak ak) ?_);rintro _ w ⟨k48,g48,rfl,hs⟩
  have m49:0≤(k44:Int)*(k48:Int)∧(k44:Int)*(k48:Int)≤1:=by
   have e1:k44=0∨k44=1:=by omega
   rcases e1 with rfl|rfl<;>simp<;>omega
  refine .z lz (.z lz (.z cP (.z zg (.nil ?_))))
  refine nB (nT ?_)
  refine .region (.z zm (.z cP (.z zg (.nil ?_))))
  refine nT ?_
  exact ⟨(L++[x],_,.slice a32 l32 c32),.dD rfl cu bj,⟨by simp;omega,hG.snoc (by dsimp only;omega) (by dsimp only;omega),_,hO2,hs.sb⟩,by simp;omega⟩
 ·refine .exit ?_
  refine xT (xT (xB (nT ?_)))
  refine .aj (.z zm ?_)
  have hL2:2≤L.length:=by omega
  refine .o (.call gI rfl (dq hs hr ak ak) ?_);rintro _ w ⟨k53,g53,rfl,hs⟩
  refine .z cP (.z lz (.z zg (.nil (.aj (.z zm ?_)))))
  refine .o (.call gI rfl (dq hs hr ak ak) ?_);rintro _ w ⟨k57,g57,rfl,hs⟩
  refine .z lz (.z zg (.nil (.seq (.aj (.z zg (.nil (.block ?_)))))))
  refine .loop (fun p:List Int×Int×Value=>⟨90,[],[(9,I (p.1.length:Int)),(8,I p.2.1),(7,I (50*(1+(k53:Int)))),(0,.slice av l.length cv),(3,.pointer (some ⟨b3,0,none⟩)),(2,.pointer (some ⟨b2,0,none⟩))]⟩)
   (fun p w=>p.1.length≤3∧Grow (10*(k57:Int)) 1350 p.1 p.2.1∧∃en2,cI 1 p.2.2 (Is p.1) en2∧St H w (en2:: .blk b3 [I (1+(k11:Int)),I (1+(k14:Int)),.slice ao lo co,p.2.2,I 0,I 0]:: .blk b2 [I 0,I 0,.slice none 0 0,.slice none 0 0,I 0,I 0]::en::σ)) (fun p=>3 - p.1.length) ([],10*(k57:Int),.slice none 0 0) bj
   ⟨cu,.start _ _,_,.nil 1 none,(hs.sb).nul⟩ ?_
  clear hs
  rintro ⟨L2,y,vo2⟩ w ⟨hM4,hG2,en2,hO2,hs⟩
  dsimp only at hM4 hG2 hO2 hs ⊢
  obtain ⟨ap,lp,cp,rfl,-⟩:=hO2.shape
  have hy0:=hG2.low
  have hy1:=hG2.high
  refine .seq (.aj (.z zm (.z zm ?_)))
  refine .o (.call gI rfl (dq hs hr ak ak) ?_);rintro _ w ⟨k61,g61,rfl,hs⟩
  refine .z cP (.z iK (.nil ?_))
  refine (.bH rfl (fun hc63=>?_) (fun hc63=>?_))
  ·refine .skip ?_
   refine nT ?_
   refine .seq (.block (.aj (.z (zfa a8) (.y hs (zld an) (.z zm ?_)))))
   refine .o (.buildSlice (cells:=[_]) hs dk rfl rfl fun b69 w hs=>?_)
   refine .o (.append (ys:=Is [y]) hs df rfl rfl hO2 (.own .here rfl rfl) (jR _) (fun l' h=>by simp at h;omega) ?_);intro v70 en70 w hO3 hs
   rw [←List.map_append] at hO3
   obtain ⟨a70,l70,c70,rfl,-⟩:=hO3.shape
   refine .z (zfa a8) ?_
   refine .o (.store hs rfl rfl aC fun w hs=>?_)
   refine .nil (.region (.z zm (.z zm (.z zm (.z zm (.z cP ?_))))))
   refine .o (.call gI rfl (dq hs hr ak ak) ?_);rintro _ w ⟨k77,g77,rfl,hs⟩
   have m79:=kz (a:=50*(1+(k53:Int))) (b:=1+(k77:Int)) (A:=450) (B:=3) ak ak
   have m79':50≤50*(1+(k53:Int))*(1+(k77:Int)):=by
    have:=Int.mul_le_mul (a:=50) (c:=50*(1+(k53:Int))) (b:=1) (d:=1+(k77:Int)) ak ak ak ak
    omega
   refine .z cP (.z lz (.z cP (.z zg (.nil ?_))))
   refine nB (nT ?_)
   refine .region (.z zm (.z cP (.z zg (.nil ?_))))
   refine nT ?_
   exact ⟨(L2++[y],_,.slice a70 l70 c70),.dD rfl cu bj,⟨by simp;omega,hG2.snoc (by dsimp only;omega) (by dsimp only;omega),_,hO3,hs.sb⟩,by simp;omega⟩
  ·refine .exit ?_
   refine xT (xT (xB (nT ?_)))
   refine .aj (.z zm ?_)
   refine .o (.call gI rfl (dq hs hr ak ak) ?_);rintro _ w ⟨k83,g83,rfl,hs⟩
   refine .z lz (.z zm ?_)
   refine .o (.call gI rfl (dq hs hr ak ak) ?_);rintro _ w ⟨k86,g86,rfl,hs⟩
   refine .z lz (.z (zbd [_,_] sR) (.z (zfa dY) ?_))
   refine .o (.aP (vs:=[_,_]) hs rfl rfl Tryz.sizeOf46 fun w hs=>?_)
   refine .nil (.aj (.y hs (zls [_,_,_,_,_,_] aV aH) ?_))
   refine .o (.aP (vs:=[_,_,_,_,_,_]) hs rfl rfl aH fun w hs=>?_)
   refine .nil ?_
   refine .ret ?_
   exact Fin.iZ [] [] hs fun w hs=>⟨_,results1 Tryz.results89 (dJ (vs:=[_,_,_,_,_,_]) hs rfl aV aH),⟨1+(k11:Int),1+(k14:Int),L,L2,100*(k83:Int),100*(k86:Int)⟩,.slice ao lo co,.slice ap lp cp,en,en2,rfl,
    ⟨⟨hG.plc ak hL2 ak ak,hG2.plc ak ak ak ak,by dsimp only;omega,by dsimp only;omega,by dsimp only;omega,by dsimp only;omega⟩,hL4,hM4⟩,hO,hO2,hs.sb⟩
instance (s:Spc) (r:Rdg):Decidable (jE s r):=
 decidable_of_iff ((1≤r.src∧r.src≤99999)∧(0≤r.st∧r.st≤(s.st.length:Int) - 1)∧(0≤r.wa∧r.wa≤(s.wa.length:Int) - 1)∧(0≤r.tol∧r.tol≤1000)∧(0≤r.val∧r.val≤20000 - r.tol)∧(1≤r.tape∧r.tape≤99)∧(0≤r.day∧r.day≤100000))
  ⟨fun ⟨a,b,c,d,e,f,g⟩=>⟨a,b,c,d,e,f,g⟩,fun ⟨a,b,c,d,e,f,g⟩=>⟨a,b,c,d,e,f,g⟩⟩
def iR(s:Spc)(rs:List Rdg):List Rdg:=rs.filter fun r=>decide (jE s r)
theorem BJ(s:Spc){rs:List Rdg}{k:Nat}{r:Rdg}(h:rs[k]? =some r):iR s (rs.take (k+1))=if jE s r then iR s (rs.take k)++[r] else iR s (rs.take k):=by
 unfold iR
 rw [dh h,List.filter_append]
 by_cases e:jE s r
 ·simp [e]
 ·simp [e]
theorem uQ(s:Spc)(rs:List Rdg):(iR s rs).length≤rs.length:=List.length_filter_le _ _
theorem yX{s:Spc}{rs:List Rdg}{r:Rdg}(h:r∈iR s rs):r∈rs∧jE s r:=by
 unfold iR at h;simpa using List.mem_filter.1 h
theorem Fg{s:Spc}{rs:List Rdg}{t:TD}(h:t∈a6 (iR s rs)):t∈a6 rs:=by
 obtain ⟨r,h1,h2⟩:=eY.1 h
 exact eY.2 ⟨r,(yX h1).1,h2⟩
def np(v:Srv)(x:List Int)(t:TD):Int:=gi x (v.sp.many+1+(jW v.bO t).toNat)
def Ip(v:Srv)(x:List Int):List Int:=x.take (v.sp.many+1)++(a6 (iR v.sp v.rs)).map (np v x)
set_option maxHeartbeats 1000000 in
theorem uA{vr:Value}{rs:List Rdg}(hs:St H w σ)(hr:RRd H vr rs)(hl:rs.length≤1000000):
  Cl Tryz.prog 96 [vr] w fun u w'=>∃en,cI 2 u (tdc (a6 rs)).flatten en∧St H w' (en::σ):=by
 obtain ⟨ar,cr,rfl⟩:=RRd.shape hr
 refine Cl.o Tryz.func96 Tryz.ntmps96 ag1 ?_
 refine .aj (.z zg (.nil (.aj (.z zg (.nil (.seq (.aj (.z zg (.nil ?_)))))))))
 refine .block ?_
 refine .loop (fun p:Nat×Value=>⟨32,[],[(4,I (p.1:Int)),(3,p.2),(0,.slice ar rs.length cr)]⟩)
  (fun p w=>p.1≤rs.length∧∃en,cI 2 p.2 (tdc (a6 (rs.take p.1))).flatten en∧St H w (en::σ)) (fun p=>rs.length - p.1) (0,.slice none 0 0) bj
  ⟨Nat.zero_le _,_,.nil 2 none,hs.nul⟩ ?_
 rintro ⟨k,vo⟩ w ⟨hk,en,hO,hs⟩
 dsimp only at hk hO ⊢
 have htl:=kT rs k ak
 obtain ⟨ao,co,rfl⟩:=hO.iU (pE _) ak
 rw [eL] at hO ⊢
 refine .seq (.aj (.z zm (.z zm (.z (dp au) (.z iK (.nil ?_))))))
 refine (.bH rfl (fun hc9=>?_) (fun hc9=>?_))
 ·refine .skip ?_
  refine nT ?_
  refine .seq (.block ?_)
  refine .seq (.draw mix rfl hs fun w hs=>?_)
  refine .z 0 rfl zm ?_;refine .z 1 rfl zm ?_
  obtain ⟨r,hx⟩:=nth (l:=rs) (k:=k) ak
  have htk:=jt hx
  refine .ixX (enc:=Rdg.c) (i:=2) hs rfl aq .none hr rfl rfl au aF hx de ?_;intro b14 o14 hc14
  have d14:cellAt H b14 (o14+5)=some (I r.tape):=hc14 5 _ rfl
  refine .z 3 rfl (zfa eE) ?_;refine .y 4 rfl hs ae ?_;refine .z 5 rfl zm ?_;refine .z 6 rfl zm ?_
  refine .ixX (enc:=Rdg.c) (i:=7) hs rfl aq .none hr rfl rfl au aF hx de ?_;intro b19 o19 hc19
  have d19:cellAt H b19 (o19+6)=some (I r.day):=hc19 6 _ rfl
  refine .z 8 rfl (zfa eD) ?_;refine .y 9 rfl hs ae ?_;refine .z 10 rfl (zbd [_,_] iG) ?_
  refine .E 11 hs ?_
  refine .alloc hs kO rfl ?_;intro b5 w hs
  refine .go ?_
  refine .E 12 hs ?_
  refine .aP (vs:=[_,_]) hs rfl rfl bL ?_;intro w hs
  refine .go ?_
  refine .D hs ?_
  refine .aj (.z zm (.y hs (zls [_,_] ed bL) ?_))
  refine .o (.call Tryz.call95 rfl (nE (t:=r.td) (hs.sb:St H w (en:: .blk b5 [I r.tape,I r.day]::σ)) hO ak) ?_);rintro _ w ⟨rfl,hs⟩
  have hnn:=sI (l:=a6 (rs.take k)) (t:=r.td)
  refine .z iK (.nil ?_)
  refine (.bH rfl (fun hc26=>?_) (fun hc26=>?_))
  ·refine .region (.z zm (.y hs (zls [_,_] ed bL) ?_))
   refine .o (.buildSlice (cells:=[_,_]) hs iT rfl rfl fun b29 w hs=>?_)
   refine .o (.append (ys:=r.td.c) hs eS rfl rfl hO (.own .here rfl rfl) (by simp [TD.c,Value.oneCell']) (fun l h=>by rw [bT _ (pE _),eL] at h;omega) ?_);intro v30 en30 w hO2 hs
   refine .z zg (.nil ?_)
   refine nB (nT ?_)
   refine .region (.z zm (.z cP (.z zg (.nil ?_))))
   refine nT ?_
   have hn:r.td∉a6 (rs.take k):=fun hm=>by have:=hnn.2 hm;omega
   rw [←w7,show a6 (rs.take k)++[r.td]=a6 (rs.take (k+1)) by rw [htk];unfold oW;rw [if_neg hn]] at hO2
   exact ⟨(k+1,v30),.dD rfl cu bj,⟨by dsimp only;omega,_,hO2,hs.sb⟩,by dsimp only;omega⟩
  ·refine .skip ?_
   refine nB (nT ?_)
   refine .region (.z zm (.z cP (.z zg (.nil ?_))))
   refine nT ?_
   have hm:r.td∈a6 (rs.take k):=hnn.1 ak
   exact ⟨(k+1,_),.dD rfl cu bj,⟨by dsimp only;omega,en,by dsimp only;rw [htk];unfold oW;rw [if_pos hm];exact hO,hs.sb⟩,by dsimp only;omega⟩
 ·refine .exit ?_
  refine xT (xT (xB (nT ?_)))
  refine .aj (.z zm (.z zg (.nil ?_)))
  refine .ret (Fin.bE Tryz.results96 rfl ?_)
  obtain rfl:k=rs.length:=by omega
  rw [List.take_length] at hO
  exact ⟨en,by rw [List.take_length];exact hO,hs⟩
set_option maxHeartbeats 2000000 in
theorem qv{s:Srv}{x:List Int}{vst vwa vr vc vx:Value}(hs:St H w σ)(h1:RI H vst s.sp.st)(h2:RI H vwa s.sp.wa)(h3:RRd H vr s.rs)(hc:∃a l c,vc= .slice a l c)(hx:RI H vx x)(hxl:x.length=s.sys.n)(hb:s.sp.st.length≤1000∧s.sp.wa.length≤1000∧s.rs.length≤1000):
  Cl Tryz.prog 97 [.agg #[I s.sp.id,I s.sp.src,vst,vwa,I s.sp.al,I s.sp.up,vr,vc],vx] w fun u w'=>∃H1 vr' vy e1 e2,HLe H H1∧u= .tuple #[.agg #[I s.sp.id,I s.sp.src,vst,vwa,I s.sp.al,I s.sp.up,vr',vc],vy]∧cI 7 vr' (rdc (iR s.sp s.rs)).flatten e1∧cI 1 vy (Is (Ip s x)) e2∧St H1 w' (e1::e2::σ):=by
 obtain ⟨ast,cst,rfl⟩:=RI.shape h1
 obtain ⟨awa,cwa,rfl⟩:=RI.shape h2
 obtain ⟨ar,cr,rfl⟩:=RRd.shape h3
 obtain ⟨ac,lc,cc,rfl⟩:=hc
 obtain ⟨ax,cx,rfl⟩:=RI.shape hx
 have hm:s.sp.many≤1000000:=Nat.mul_le_mul hb.1 hb.2.1
 have hn:=rL s
 have htl:=dL s.rs
 refine Cl.o Tryz.func97 Tryz.ntmps97 ag2 ?_
 refine .aj ?_
 refine .bx hs fun b2 w hs=>?_
 refine .o (.alloc hs eb rfl fun b4 w hs=>?_)
 refine .z zg (.nil (.aj (.z (zfa aQ) (.y hs (zld bJ) ?_))))
 refine .o (.call Tryz.call96 rfl (ja (rs:=s.rs) hs h3 ak) ?_);rintro v15 w ⟨H1,hle1,hT,hs⟩
 obtain ⟨at',ct,rfl⟩:=RTd.shape hT
 refine .z zg (.nil (.aj (.z (zfa bh) (.y hs (zls [_,_,_,_,_,_] aV aH) ?_))))
 refine .o (.call Tryz.call94 rfl (ic (s:=s.sp) hs (h1.mono hle1) (h2.mono hle1) ⟨hb.1,hb.2.1⟩) ?_);rintro _ w ⟨rfl,hs⟩
 refine .z zg (.nil (.aj (.y hs (zls [_,_,_,_,_,_,_,_] aZ aD) ?_)))
 refine .o (.alloc hs eb rfl fun b8 w hs=>?_)
 refine .o (.aP (vs:=[_,_,_,_,_,_,_,_]) hs rfl rfl aD fun w hs=>?_)
 refine .nil (.aj (.z (zfa aQ) ?_))
 refine .o (.store hs rfl rfl rA fun w hs=>?_)
 refine .nil (.seq (.aj (.z zg (.nil (.block ?_)))))
 refine .loop (fun p:Nat×Value=>⟨78,[],[(9,I (p.1:Int)),(8,.pointer (some ⟨b8,0,none⟩)),(7,I (s.sp.many:Int)),(6,.slice at' (a6 s.rs).length ct),(4,.pointer (some ⟨b4,0,none⟩)),(2,.pointer (some ⟨b2,0,none⟩)),(1,.slice ax x.length cx)]⟩)
  (fun p w=>p.1≤s.rs.length∧∃en,cI 7 p.2 (rdc (iR s.sp (s.rs.take p.1))).flatten en∧St H1 w (en:: .blk b8 [I s.sp.id,I s.sp.src,.slice ast s.sp.st.length cst,.slice awa s.sp.wa.length cwa,I s.sp.al,I s.sp.up,p.2,.slice ac lc cc]:: .blk b4 [I 0,I 0,.slice none 0 0,.slice none 0 0,I 0,I 0,.slice none 0 0,.slice none 0 0]:: .blk b2 [I s.sp.id,I s.sp.src,.slice ast s.sp.st.length cst,.slice awa s.sp.wa.length cwa,I s.sp.al,I s.sp.up,.slice ar s.rs.length cr,.slice ac lc cc]::σ)) (fun p=>s.rs.length - p.1) (0,.slice none 0 0) bj
  ⟨Nat.zero_le _,_,.nil 7 none,hs.nul⟩ ?_
 clear hs
 rintro ⟨k,vo⟩ w ⟨hk,en,hO,hs⟩
 dsimp only at hk hO hs ⊢
 have hkl:=uQ s.sp (s.rs.take k)
 rw [List.length_take] at hkl
 obtain ⟨ao,lo,co,rfl,-⟩:=hO.shape
 refine .seq (.aj (.z zm (.z (zfa aQ) (.y hs (zld bJ) (.z (dp au) (.z iK (.nil ?_)))))))
 refine (.bH rfl (fun hc25=>?_) (fun hc25=>?_))
 ·refine .skip ?_
  refine nT ?_
  refine .seq (.block ?_)
  refine .seq (.draw mix rfl hs fun w hs=>?_)
  refine .z 0 rfl (zfa bh) ?_;refine .ys 1 rfl hs [_,_,_,_,_,_] aV aH ?_;refine .z 2 rfl (zfa aQ) ?_;refine .y 3 rfl hs bJ ?_;refine .z 4 rfl zm ?_
  obtain ⟨r,hr⟩:=nth (l:=s.rs) (k:=k) ak
  have hsn:=BJ s.sp hr
  refine .ixX (enc:=Rdg.c) (i:=5) hs rfl aq .none (h3.mono hle1) rfl rfl au aF hr de ?_;intro b33 o33 hc33
  refine .r (i:=6) hs rfl aq .none (bY (vs:=r.c) rfl eG aF hc33) ?_
  refine .E 7 hs ?_
  refine .call Tryz.call150 rfl (mj (s:=s.sp) (r:=r) hs (h1.mono hle1) (h2.mono hle1)) ?_;rintro _ w ⟨b35,rfl,hb35,hs⟩
  refine .go ?_
  refine .D hs ?_
  refine (.cond rfl (fun hc35=>?_) (fun hc35=>?_))
  ·refine .draw mix rfl hs fun w hs=>?_
   refine .z 0 rfl (zfa aQ) ?_;refine .y 1 rfl hs bJ ?_;refine .z 2 rfl (zfa aQ) ?_;refine .y 3 rfl hs bJ ?_;refine .z 4 rfl zm ?_
   refine .ixX (enc:=Rdg.c) (i:=5) hs rfl aq .none (h3.mono hle1) rfl rfl au aF hr de ?_;intro b41 o41 hc41
   refine .r (i:=6) hs rfl aq .none (bY (vs:=r.c) rfl eG aF hc41) ?_
   refine .E 7 hs ?_
   refine .buildSlice (cells:=r.c) hs gd rfl aq ?_;intro b43 w hs
   refine .go ?_
   refine .E 8 hs ?_
   refine .append (ys:=r.c) hs dS rfl rfl hO (.own .here rfl rfl) (by simp [Rdg.c,Value.oneCell']) (fun l' h=>by rw [bT _ (jO _),dr] at h;omega) ?_;intro v44 en44 w hO2 hs
   rw [←tN,show iR s.sp (s.rs.take k)++[r]=iR s.sp (s.rs.take (k+1)) by rw [hsn,if_pos (hb35.1 (by simpa using hc35))]] at hO2
   obtain ⟨a44,l44,c44,rfl,-⟩:=hO2.shape
   refine .go ?_
   refine .z 9 rfl (zfa aQ) ?_
   refine .E 10 hs ?_
   refine .store hs rfl rfl rA ?_;intro w hs
   refine .go ?_
   refine .D hs ?_
   refine nB (nT ?_)
   refine .region (.z zm (.z cP (.z zg (.nil ?_))))
   refine nT ?_
   exact ⟨(k+1,.slice a44 l44 c44),.dD rfl cu bj,⟨by dsimp only;omega,_,hO2,hs.sb⟩,by dsimp only;omega⟩
  ·refine .skip ?_
   refine nB (nT ?_)
   refine .region (.z zm (.z cP (.z zg (.nil ?_))))
   refine nT ?_
   exact ⟨(k+1,.slice ao lo co),.dD rfl cu bj,⟨by dsimp only;omega,en,by dsimp only;rw [hsn,if_neg (fun h=>by rw [hb35.2 h] at hc35;cases hc35)];exact hO,hs.sb⟩,by dsimp only;omega⟩
 ·refine .exit ?_
  refine xT (xT (xB (nT ?_)))
  refine .aj ?_
  obtain rfl:k=s.rs.length:=by omega
  rw [List.take_length] at hO
  refine .o (.buildSlice (cells:=[]) hs sQ rfl rfl fun b46 w hs=>?_)
  refine .z zm (.z zm (.z cP ?_))
  refine .q hs (qw (k:=s.sp.many+1) rfl rfl af ai rfl (by have:=(RS.len hx).2.1;omega)) ?_
  refine .o (.append (xs:=[]) (ys:=Is (x.take (s.sp.many+1))) hs df rfl rfl (.full (len:=0) rfl) (.ints (RI.head (hx.mono hle1) (k:=s.sp.many+1) ak)) (jR _) (fun l h=>by simp at h;rw [List.length_take];omega) ?_);intro v51 en51 w hO3 hs
  rw [List.nil_append] at hO3
  refine .z zg (.nil (.aj (.z (zfa aQ) (.y hs (zld bJ) ?_))))
  have hkl:=uQ s.sp s.rs
  obtain ⟨H2,hle2,hRR,hs2,back⟩:=hO.AS (jO _) ak (by rw [dr];omega) (hs.sb:St H1 w (en::en51:: .blk b8 [I s.sp.id,I s.sp.src,.slice ast s.sp.st.length cst,.slice awa s.sp.wa.length cwa,I s.sp.al,I s.sp.up,.slice ao lo co,.slice ac lc cc]:: .blk b4 [I 0,I 0,.slice none 0 0,.slice none 0 0,I 0,I 0,.slice none 0 0,.slice none 0 0]:: .blk b2 [I s.sp.id,I s.sp.src,.slice ast s.sp.st.length cst,.slice awa s.sp.wa.length cwa,I s.sp.al,I s.sp.up,.slice ar s.rs.length cr,.slice ac lc cc]::σ))
  refine .o (.call Tryz.call96 rfl (uA (rs:=iR s.sp s.rs) hs2 hRR ak) ?_);rintro v54 w ⟨enT,hOT,hsT⟩
  have hs:=back (HLe.refl _) hsT
  have htl':=dL (iR s.sp s.rs)
  obtain ⟨H3,hle3,hT3,hs⟩:=cI.cV (m:=2) (cs:=tdc (a6 (iR s.sp s.rs))) hOT (pE _) ak (by rw [eL];omega) hs (.there .here)
  have hT3:RTd H3 v54 (a6 (iR s.sp s.rs)):=hT3
  obtain ⟨a54,c54,rfl⟩:=RTd.shape hT3
  refine .z zg (.nil (.seq (.aj (.z zg (.nil (.block ?_))))))
  refine .loop (fun p:Nat×Value=>⟨78,[],[(12,I (p.1:Int)),(10,p.2),(11,.slice a54 (a6 (iR s.sp s.rs)).length c54),(8,.pointer (some ⟨b8,0,none⟩)),(7,I (s.sp.many:Int)),(6,.slice at' (a6 s.rs).length ct),(4,.pointer (some ⟨b4,0,none⟩)),(1,.slice ax x.length cx)]⟩)
   (fun p w=>p.1≤(a6 (iR s.sp s.rs)).length∧∃en2,cI 1 p.2 (Is (x.take (s.sp.many+1)++((a6 (iR s.sp s.rs)).take p.1).map (np s x))) en2∧St H3 w (en2:: .blk b8 [I s.sp.id,I s.sp.src,.slice ast s.sp.st.length cst,.slice awa s.sp.wa.length cwa,I s.sp.al,I s.sp.up,.slice ao lo co,.slice ac lc cc]:: .blk b4 [I 0,I 0,.slice none 0 0,.slice none 0 0,I 0,I 0,.slice none 0 0,.slice none 0 0]::en::σ)) (fun p=>(a6 (iR s.sp s.rs)).length - p.1) (0,v51) bj
   ⟨Nat.zero_le _,en51,by simpa using hO3,hs.sb⟩ ?_
  clear hs
  rintro ⟨j,vy⟩ w ⟨hj,en2,hO4,hs⟩
  dsimp only at hj hO4 hs ⊢
  obtain ⟨ay,ly,cy,rfl,-⟩:=hO4.shape
  refine .seq (.aj (.z zm (.z zm (.z (dp bB) (.z iK (.nil ?_))))))
  refine (.bH rfl (fun hc58=>?_) (fun hc58=>?_))
  ·refine .skip ?_
   refine nT ?_
   refine .seq (.block (.region (.z zm (.z zm (.z zm (.z cP (.z zm (.z zm (.z zm ?_)))))))))
   obtain ⟨t,ht⟩:=nth (l:=a6 (iR s.sp s.rs)) (k:=j) ak
   have htm:t∈s.bO:=Fg (List.mem_of_getElem? ht)
   obtain ⟨q,q1,q2,q3⟩:=gq htm
   have q3':q<(a6 s.rs).length:=q3
   have q1':jW (a6 s.rs) t=(q:Int):=q1
   have hnt:s.sys.n=s.sp.many+(a6 s.rs).length+1:=hn
   have herr:np s x t=gi x (s.sp.many+1+q):=by unfold np;rw [q1,Int.toNat_natCast]
   refine .ixX (enc:=TD.c) hs hT3 rfl rfl bB bL ht de ?_;intro b68 o68 hc68
   refine .q hs (bY (vs:=t.c) rfl ed bL hc68) ?_
   refine .o (.call Tryz.call95 rfl (kf (t:=t) hs (hT.mono hle3) ak) ?_);rintro _ w ⟨rfl,hs⟩
   rw [q1']
   refine .z cP ?_
   refine .ixY hs (hx.mono (hle1.trans hle3)) rfl rfl af ai (bU (l:=x) (i:=s.sp.many+1+q) ak) ak ?_;intro b72 o72 hc72
   refine .q hs (aW rfl ae hc72) ?_
   refine .o (.buildSlice (cells:=[_]) hs dk rfl rfl fun b74 w hs=>?_)
   refine .o (.append (ys:=Is [gi x (s.sp.many+1+q)]) hs df rfl rfl hO4 (.own .here rfl rfl) (jR _) (fun l' h=>by simp at h;omega) ?_);intro v75 en75 w hO5 hs
   rw [←List.map_append,List.append_assoc,←herr,show ((a6 (iR s.sp s.rs)).take j).map (np s x)++[np s x t]=((a6 (iR s.sp s.rs)).take (j+1)).map (np s x) by rw [dh ht];simp] at hO5
   obtain ⟨a75,l75,c75,rfl,-⟩:=hO5.shape
   refine .z zg (.nil ?_)
   refine nB (nT ?_)
   refine .region (.z zm (.z cP (.z zg (.nil ?_))))
   refine nT ?_
   exact ⟨(j+1,.slice a75 l75 c75),.dD rfl cu bj,⟨by dsimp only;omega,_,hO5,hs.sb⟩,by dsimp only;omega⟩
  ·refine .exit ?_
   refine xT (xT (xB (nT ?_)))
   refine .aj (.y hs (zls [_,_,_,_,_,_,_,_] aZ aD) (.z zm ?_))
   refine .o (.aP (vs:=[_,_,_,_,_,_,_,_]) hs rfl rfl aD fun w hs=>?_)
   refine .z zg (.nil ?_)
   refine .ret ?_
   obtain rfl:j=(a6 (iR s.sp s.rs)).length:=by omega
   rw [List.take_length] at hO4
   exact Fin.iZ [] [] hs fun w hs=>⟨_,results2 Tryz.results97 (dJ (vs:=[_,_,_,_,_,_,_,_]) hs rfl aZ aD) rfl,H3,_,_,en,en2,hle1.trans hle3,rfl,hO,hO4,hs.sb⟩
theorem BI{s:Spc}{rs R:List Rdg}{cs:List Cmp}{x:List Int}(hf:fB (Srv.oQ ⟨s,rs,cs⟩).di (gi x))(hx0:gi x 0=0)(hxl:x.length=s.many+(a6 rs).length+1)(ht:a6 R=a6 rs)(hS:∀r∈R,RdS s r)(hR:∀r∈R,DL s (a6 rs) x r):
  zy ⟨s,iR s R,cs⟩ (Ip ⟨s,R,cs⟩ x):=by
 have hl:(x.take (s.many+1)).length=s.many+1:=by rw [List.length_take];omega
 refine C4 (R:=R) (x:=x) List.filter_sublist hS hx0 (Di hf ht hR) ?_ (fun b hb=>?_) fun j hj=>?_
 ·show (x.take (s.many+1)++(a6 (iR s R)).map (np ⟨s,R,cs⟩ x)).length=_
  rw [List.length_append,hl,List.length_map]
 ·show gi (x.take (s.many+1)++(a6 (iR s R)).map (np ⟨s,R,cs⟩ x)) b=_
  unfold gi
  simp only [List.getD]
  rw [List.getElem?_append_left ak,List.getElem?_take_of_lt ak]
 ·show gi (x.take (s.many+1)++(a6 (iR s R)).map (np ⟨s,R,cs⟩ x)) (s.many+1+j)=_
  have e:∀t,(a6 (iR s R))[j]? =some t→gi (x.take (s.many+1)++(a6 (iR s R)).map (np ⟨s,R,cs⟩ x)) (s.many+1+j)=np ⟨s,R,cs⟩ x t:=fun t ht=>by
   unfold gi
   simp only [List.getD]
   rw [List.getElem?_append_right ak,hl,show s.many+1+j - (s.many+1)=j by omega,List.getElem?_map,ht]
   rfl
  rw [e _ (xa hj)];rfl
set_option maxHeartbeats 2000000 in
theorem vJ{vs v5 v4 vp:Value}{sl pk:List Int}{fs5:List F5}{fs4:List F4}{z1 z2 z3:Int}(hs:St H w σ)(g1:RI H vs sl)(g2:RF5 H v5 fs5)(g3:RF4 H v4 fs4)(g4:RI H vp pk):
  Cl Tryz.prog 31 [.agg #[vs,v5,v4,vp,I z1,I z2,I z3]] w fun u w'=>∃H1 s y vst vwa vr vc vy e1 e2 e3 e4 e5,HLe H H1∧u= .tuple #[.agg #[I s.sp.id,I s.sp.src,vst,vwa,I s.sp.al,I s.sp.up,vr,vc],vy]∧Hg s∧Gi s vst vwa vr vc e1 e2 e3 e4∧cI 1 vy (Is y) e5∧zy s y∧St H1 w' (e1::e2::e3::e4::e5::σ):=by
 obtain ⟨avs,cvs,rfl⟩:=RI.shape g1
 obtain ⟨av5,cv5,rfl⟩:=g2.shape
 obtain ⟨av4,cv4,rfl⟩:=g3.shape
 obtain ⟨avp,cvp,rfl⟩:=RI.shape g4
 refine Cl.o Tryz.func31 Tryz.ntmps31 ag1 ?_
 refine .aj ?_
 refine .bx hs fun b1 w hs=>?_
 refine .o (.alloc hs eb rfl fun b2 w hs=>?_)
 refine .z zg (.nil (.aj (.z (zfa og) (.y hs (zld an) ?_))))
 refine .o (.call Tryz.call89 rfl (pP hs g1) ?_);rintro _ w ⟨s,vst,vwa,e1,e2,rfl,hSp,hO1,hO2,hs⟩
 have hSt:=hSp.st
 have hWa:=hSp.wa
 have hSt2:=hSp.ok.st.two
 have hWa2:=hSp.ok.wa.two
 obtain ⟨ast,lst,cst,rfl,hlst⟩:=hO1.shape
 obtain ⟨awa,lwa,cwa,rfl,hlwa⟩:=hO2.shape
 obtain rfl:s.st.length=lst:=by simpa [Is] using hlst
 obtain rfl:s.wa.length=lwa:=by simpa [Is] using hlwa
 refine .z (zbd [_,_,_,_,_,_,_,_] pq) ?_
 refine .o (.alloc hs eb rfl fun b4 w hs=>?_)
 refine .o (.aP (vs:=[_,_,_,_,_,_,_,_]) hs rfl rfl aD fun w hs=>?_)
 refine .nil (.aj (.z (zfa bh) (.y hs (zls [_,_,_,_,_,_] aV aH) ?_)))
 refine .o (.alloc hs jI rfl fun b5 w hs=>?_)
 refine .o (.aP (vs:=[_,_,_,_,_,_]) hs rfl rfl aH fun w hs=>?_)
 refine .nil ?_
 refine .cut (fun fs w=>∃rs e3 ar cr,kJ fs ⟨208,[],[(5,.pointer (some ⟨b5,0,none⟩)),(4,.pointer (some ⟨b4,0,none⟩)),(2,.pointer (some ⟨b2,0,none⟩)),(1,.pointer (some ⟨b1,0,none⟩))]⟩∧rs.length≤14∧rs.length≤fs5.length∧(∀r∈rs,jE s r)∧cI 7 (.slice ar rs.length cr) (rdc rs).flatten e3∧St H w (e3:: .blk b5 [I s.id,I s.src,.slice ast s.st.length cst,.slice awa s.wa.length cwa,I s.al,I s.up]:: .blk b4 [I s.id,I s.src,.slice ast s.st.length cst,.slice awa s.wa.length cwa,I s.al,I s.up,.slice ar rs.length cr,.slice none 0 0]::e1::e2:: .blk b2 [I 0,I 0,.slice none 0 0,.slice none 0 0,I 0,I 0,.slice none 0 0,.slice none 0 0]:: .blk b1 [.slice avs sl.length cvs,.slice av5 fs5.length cv5,.slice av4 fs4.length cv4,.slice avp pk.length cvp,I z1,I z2,I z3]::σ)) ?_ ?_
 ·refine .aj (.z zg (.nil (.block ?_)))
  refine .loop (fun p:List Rdg×Option Addr×Nat=>⟨208,[],[(6,I (p.1.length:Int)),(5,.pointer (some ⟨b5,0,none⟩)),(4,.pointer (some ⟨b4,0,none⟩)),(2,.pointer (some ⟨b2,0,none⟩)),(1,.pointer (some ⟨b1,0,none⟩))]⟩)
   (fun p w=>p.1.length≤14∧p.1.length≤fs5.length∧(∀r∈p.1,jE s r)∧∃e3,cI 7 (.slice p.2.1 p.1.length p.2.2) (rdc p.1).flatten e3∧
    St H w (e3:: .blk b5 [I s.id,I s.src,.slice ast s.st.length cst,.slice awa s.wa.length cwa,I s.al,I s.up]:: .blk b4 [I s.id,I s.src,.slice ast s.st.length cst,.slice awa s.wa.length cwa,I s.al,I s.up,.slice p.2.1 p.1.length p.2.2,.slice none 0 0]::e1::e2:: .blk b2 [I 0,I 0,.slice none 0 0,.slice none 0 0,I 0,I 0,.slice none 0 0,.slice none 0 0]:: .blk b1 [.slice avs sl.length cvs,.slice av5 fs5.length cv5,.slice av4 fs4.length cv4,.slice avp pk.length cvp,I z1,I z2,I z3]::σ)) (fun p=>14 - p.1.length) ([],none,0) bj
   ⟨cu,cu,cu,_,.nil 7 none,(hs.sb).nul⟩ ?_
  clear hs
  rintro ⟨rs,ar,cr⟩ w ⟨hr14,hrf,hrok,e3,hO3,hs⟩
  dsimp only at hr14 hrf hrok hO3 hs ⊢
  refine .seq (.aj (.z zm (.z (zfa iA) (.y hs (zld Tryz.isAgg35) (.z (dp Tryz.runUnderlying35) (.z iK (.z zm ?_)))))))
  refine .iW (t':=31) rfl (fun hb31=>?_) (fun hb31=>?_)
  ·refine .gT rfl rfl ?_
   refine .z zm ?_
   refine .gT rfl rfl ?_
   refine .z iK (.z zpT (.nil ?_))
   refine (.bH rfl (fun hc34=>?_) (fun hc34=>?_))
   ·refine .skip ?_
    refine nT ?_
    refine .seq (.block (.aj (.z (zfa iA) (.y hs (zld Tryz.isAgg35) (.z zm ?_)))))
    obtain ⟨n,hn⟩:=nth (l:=fs5) (k:=rs.length) ak
    refine .ixX (enc:=F5.v) hs g2 rfl rfl Tryz.runUnderlying35 vY hn de ?_;intro b40 o40 hc40
    refine .q hs (bY (vs:=n.v) rfl Tryz.isAgg151 vY hc40) ?_
    refine .o (.alloc hs Tryz.zeroValue151 rfl fun b7 w hs=>?_)
    refine .o (.aP (vs:=[_,_,_,_,_]) hs rfl rfl vY fun w hs=>?_)
    refine .nil ?_
    refine .seq (.draw mix rfl hs fun w hs=>?_)
    refine .z 0 rfl (zia 4 iP ai) ?_
    refine .y 1 rfl hs ae ?_
    refine .z 3 rfl (zia 4 iP ai) ?_
    refine .y 4 rfl hs ae ?_;refine .z 5 rfl Hm ?_
    refine .E 2 hs ?_
    refine .call dR rfl (cn hs ak) ?_;rintro _ w ⟨k44,g44,rfl,hs⟩
    refine .go ?_
    refine .E 6 hs ?_
    refine .call dR rfl (cn hs ak) ?_;rintro _ w ⟨k48,g48,rfl,hs⟩
    have m49:0≤(k44:Int)*(k48:Int)∧(k44:Int)*(k48:Int)≤39:=by
     have e1:k48=0∨k48=1:=by omega
     rcases e1 with rfl|rfl<;>simp<;>omega
    refine .go ?_
    refine .z 7 rfl lz ?_;refine .z 8 rfl zg ?_;refine .D hs ?_
    refine .draw mix rfl hs fun w hs=>?_
    refine .z 0 rfl (zfa aQ) ?_;refine .y 1 rfl hs bJ ?_;refine .z 2 rfl zm ?_;refine .z 3 rfl cP ?_
    refine .z 4 rfl (zia 0 iP ai) ?_
    refine .y 5 rfl hs ae ?_;refine .z 6 rfl (zfa bP) ?_;refine .y 7 rfl hs an ?_;refine .z 8 rfl (dp af) ?_
    refine .z 10 rfl (zia 1 iP ai) ?_
    refine .y 11 rfl hs ae ?_;refine .z 12 rfl (zfa a8) ?_;refine .y 13 rfl hs an ?_;refine .z 14 rfl (dp af) ?_;refine .z 16 rfl zm ?_
    refine .z 17 rfl (zia 2 iP ai) ?_
    refine .y 18 rfl hs ae ?_
    refine .z 21 rfl (zia 3 iP ai) ?_
    refine .y 22 rfl hs ae ?_
    refine .E 9 hs ?_
    refine .call dR rfl (cn hs ak) ?_;rintro _ w ⟨k59,g59,rfl,hs⟩
    refine .go ?_
    refine .E 15 hs ?_
    refine .call dR rfl (cn hs ak) ?_;rintro _ w ⟨k65,g65,rfl,hs⟩
    refine .go ?_
    refine .E 19 hs ?_
    refine .call dR rfl (cn hs ak) ?_;rintro _ w ⟨k69,g69,rfl,hs⟩
    refine .go ?_
    refine .z 20 rfl cP ?_
    refine .E 23 hs ?_
    refine .call dR rfl (cn hs ak) ?_;rintro _ w ⟨k73,g73,rfl,hs⟩
    obtain ⟨r,hr⟩:∃r:Rdg,r=⟨10+(rs.length:Int),(k59:Int),(k65:Int),0,(k44:Int)*(k48:Int),1+(k69:Int),(k73:Int)⟩:=⟨_,rfl⟩
    have hrOk:jE s r:=by subst hr;exact ⟨by dsimp only;omega,by dsimp only;omega,by dsimp only;omega,by dsimp only;omega,by dsimp only;omega,by dsimp only;omega,by dsimp only;omega⟩
    refine .go ?_
    refine .z 24 rfl (zbd [_,_,_,_,_,_,_] iH) ?_
    refine .E 25 hs ?_
    refine .buildSlice (cells:=r.c) hs gd rfl (by subst hr;kernel_rfl) ?_;intro b75 w hs
    refine .go ?_
    refine .E 26 hs ?_
    refine .append (ys:=r.c) hs dS rfl rfl hO3 (.own .here rfl rfl) (by simp [Rdg.c,Value.oneCell']) (fun l' h=>by rw [bT _ (jO _),dr] at h;omega) ?_;intro v76 en76 w hO4 hs
    rw [←tN] at hO4
    obtain ⟨a76,c76,rfl⟩:=hO4.iU (jO _) ak
    rw [dr] at hO4 ⊢
    refine .go ?_
    refine .z 27 rfl (zfa aQ) ?_
    refine .E 28 hs ?_
    refine .store hs rfl rfl rA ?_;intro w hs
    refine .go ?_
    refine .D hs ?_
    refine nB (nT ?_)
    refine .region (.z zm (.z cP (.z zg (.nil ?_))))
    refine nT ?_
    exact ⟨(rs++[r],a76,c76),.dD rfl cu bj,⟨by simp;omega,by simp;omega,fun q hq=>by
      simp only [List.mem_append,List.mem_singleton] at hq
      rcases hq with hq|rfl
      ·exact hrok q hq
      ·exact hrOk,_,hO4,hs.sb⟩,by simp;omega⟩
   ·refine .exit ?_
    refine xT (xT (xB (nT ?_)))
    exact ⟨rs,e3,ar,cr,bj,hr14,hrf,hrok,hO3,hs⟩
  ·refine .gFs 2 5 true rfl rfl rfl ?_
   refine .z zpF (.nil ?_)
   refine (.cF ?_)
   refine .exit ?_
   refine xT (xT (xB (nT ?_)))
   exact ⟨rs,e3,ar,cr,bj,hr14,hrf,hrok,hO3,hs⟩
 ·clear hs
  rintro fs w ⟨rs,e3,ar,cr,hfs,hr14,hrf,hrok,hO3,hs⟩
  refine WE.sub ?_ hfs
  clear hfs
  refine .cut (fun fs w=>∃cs e4 ac cc,kJ fs ⟨208,[],[(5,.pointer (some ⟨b5,0,none⟩)),(4,.pointer (some ⟨b4,0,none⟩)),(2,.pointer (some ⟨b2,0,none⟩)),(1,.pointer (some ⟨b1,0,none⟩))]⟩∧cs.length≤5∧(∀c∈cs,sB c)∧(Srv.oQ ⟨s,rs,cs⟩).Sound∧cI 6 (.slice ac cs.length cc) (cmc cs).flatten e4∧St H w (e1::e2::e3::e4:: .blk b5 [I s.id,I s.src,.slice ast s.st.length cst,.slice awa s.wa.length cwa,I s.al,I s.up]:: .blk b4 [I s.id,I s.src,.slice ast s.st.length cst,.slice awa s.wa.length cwa,I s.al,I s.up,.slice ar rs.length cr,.slice ac cs.length cc]:: .blk b2 [I 0,I 0,.slice none 0 0,.slice none 0 0,I 0,I 0,.slice none 0 0,.slice none 0 0]:: .blk b1 [.slice avs sl.length cvs,.slice av5 fs5.length cv5,.slice av4 fs4.length cv4,.slice avp pk.length cvp,I z1,I z2,I z3]::σ)) ?_ ?_
  ·refine .aj (.z zg (.nil (.block ?_)))
   refine .loop (fun p:Nat×List Cmp×Option Addr×Nat=>⟨208,[],[(9,I (p.1:Int)),(5,.pointer (some ⟨b5,0,none⟩)),(4,.pointer (some ⟨b4,0,none⟩)),(2,.pointer (some ⟨b2,0,none⟩)),(1,.pointer (some ⟨b1,0,none⟩))]⟩)
    (fun p w=>p.1≤5∧p.1≤fs4.length∧p.2.1.length≤p.1∧(∀c∈p.2.1,sB c)∧(Srv.oQ ⟨s,rs,p.2.1⟩).Sound∧∃e4,cI 6 (.slice p.2.2.1 p.2.1.length p.2.2.2) (cmc p.2.1).flatten e4∧
     St H w (e1::e2::e3::e4:: .blk b5 [I s.id,I s.src,.slice ast s.st.length cst,.slice awa s.wa.length cwa,I s.al,I s.up]:: .blk b4 [I s.id,I s.src,.slice ast s.st.length cst,.slice awa s.wa.length cwa,I s.al,I s.up,.slice ar rs.length cr,.slice p.2.2.1 p.2.1.length p.2.2.2]:: .blk b2 [I 0,I 0,.slice none 0 0,.slice none 0 0,I 0,I 0,.slice none 0 0,.slice none 0 0]:: .blk b1 [.slice avs sl.length cvs,.slice av5 fs5.length cv5,.slice av4 fs4.length cv4,.slice avp pk.length cvp,I z1,I z2,I z3]::σ)) (fun p=>5 - p.1) (0,[],none,0) bj
    ⟨cu,cu,cu,cu,Dj (xt hSp.ok hSt hWa hr14 cu hrok cu) rfl,.nul,.nil 6 none,(hs.nul).sb⟩ ?_
   clear hs
   rintro ⟨k,cs,ac,cc⟩ w ⟨hk5,hkf,hck,hcok,hsd,e4,hO4,hs⟩
   dsimp only at hk5 hkf hck hcok hsd hO4 hs ⊢
   refine .seq (.aj (.z zm (.z (zfa j8) (.y hs (zld Tryz.isAgg36) (.z (dp Tryz.runUnderlying36) (.z iK (.z zm ?_)))))))
   refine .iW (t':=83) rfl (fun hb83=>?_) (fun hb83=>?_)
   ·refine .gT rfl rfl ?_
    refine .z zm ?_
    refine .gT rfl rfl ?_
    refine .z iK (.z zpT (.nil ?_))
    refine (.bH rfl (fun hc86=>?_) (fun hc86=>?_))
    ·refine .skip ?_
     refine nT ?_
     refine .seq (.block (.aj (.z (zfa j8) (.y hs (zld Tryz.isAgg36) (.z zm ?_)))))
     obtain ⟨n,hn⟩:=nth (l:=fs4) (k:=k) ak
     refine .ixX (enc:=F4.v) hs g3 rfl rfl Tryz.runUnderlying36 Tryz.sizeOf97 hn de ?_;intro b92 o92 hc92
     refine .q hs (bY (vs:=n.v) rfl Tryz.isAgg97 Tryz.sizeOf97 hc92) ?_
     refine .o (.alloc hs Tryz.zeroValue97 rfl fun b10 w hs=>?_)
     refine .o (.aP (vs:=[_,_,_,_]) hs rfl rfl Tryz.sizeOf97 fun w hs=>?_)
     refine .nil (.aj ?_)
     refine .z (zia 1 sD ai) ?_
     refine .y hs (zld ae) ?_
     refine .o (.call dR rfl (cn hs ak) ?_);rintro _ w ⟨k96,g96,rfl,hs⟩
     refine .z gM (.z zg (.nil (.aj ?_)))
     refine .z (zia 3 sD ai) ?_
     refine .y hs (zld ae) ?_
     refine .o (.call dR rfl (cn hs ak) ?_);rintro _ w ⟨k100,g100,rfl,hs⟩
     refine .z zg (.nil ?_)
     refine .seq (.draw mix rfl hs fun w hs=>?_)
     refine .z 0 rfl (zfa cD) ?_;refine .y 1 rfl hs e8 ?_;refine .z 2 rfl zm ?_;refine .z 3 rfl cP ?_
     refine .z 4 rfl (zia 0 sD ai) ?_
     refine .y 5 rfl hs ae ?_;refine .z 8 rfl zm ?_;refine .z 9 rfl zm ?_
     refine .z 10 rfl (zia 3 sD ai) ?_
     refine .y 11 rfl hs ae ?_;refine .z 12 rfl Hm ?_;refine .z 15 rfl zm ?_;refine .z 16 rfl zm ?_
     refine .z 17 rfl (zia 2 sD ai) ?_
     refine .y 18 rfl hs ae ?_
     refine .E 6 hs ?_
     refine .call dR rfl (cn hs ak) ?_;rintro _ w ⟨k107,g107,rfl,hs⟩
     refine .go ?_
     refine .z 7 rfl cP ?_
     refine .E 13 hs ?_
     refine .call dR rfl (cn hs ak) ?_;rintro _ w ⟨k114,g114,rfl,hs⟩
     refine .go ?_
     refine .z 14 rfl cP ?_
     refine .E 19 hs ?_
     refine .call dR rfl (cn hs ak) ?_;rintro _ w ⟨k120,g120,rfl,hs⟩
     obtain ⟨c,hc⟩:∃c:Cmp,c=⟨30+(k:Int),1+(k107:Int),(k100:Int),(k100:Int)+(k114:Int),(k96:Int) - 40,(k96:Int) - 40+(k120:Int)⟩:=⟨_,rfl⟩
     have hcOk:sB c:=by subst hc;exact ⟨by dsimp only;omega,by dsimp only;omega,by dsimp only;omega,by dsimp only;omega,by dsimp only;omega,by dsimp only;omega⟩
     refine .go ?_
     refine .z 20 rfl cP ?_;refine .z 21 rfl (zbd [_,_,_,_,_,_] oo) ?_
     refine .E 22 hs ?_
     refine .buildSlice (cells:=c.c) hs kA rfl (by subst hc;kernel_rfl) ?_;intro b123 w hs
     refine .go ?_
     refine .E 23 hs ?_
     refine .append (ys:=c.c) hs ke rfl rfl hO4 (.own .here rfl rfl) (by simp [Cmp.c,Value.oneCell']) (fun l' h=>by rw [bT _ (su _),fF] at h;omega) ?_;intro v124 en124 w hO5 hs
     rw [←Bb] at hO5
     obtain ⟨a124,c124,rfl⟩:=hO5.iU (su _) ak
     rw [fF] at hO5 ⊢
     have hcl:(cs++[c]).length=cs.length+1:=by simp
     have hcok':∀d∈cs++[c],sB d:=fun d hd=>by
      simp only [List.mem_append,List.mem_singleton] at hd
      rcases hd with hd|rfl
      ·exact hcok d hd
      ·exact hcOk
     have hsok:dT ⟨s,rs,cs++[c]⟩:=xt hSp.ok hSt hWa hr14 ak hrok hcok'
     refine .go ?_
     refine .z 24 rfl (zfa cD) ?_
     refine .E 25 hs ?_
     refine .store hs rfl rfl Tryz.sizeOf50 ?_;intro w hs
     refine .go ?_
     refine .D hs ?_
     refine .aj (.y hs (zls [_,_,_,_,_,_,_,_] aZ aD) ?_)
     obtain ⟨Hx,hlex,r1,r2,r3,r4,hs2,back⟩:=Gi.AS (s:=⟨s,rs,cs++[c]⟩) ⟨hO1,hO2,hO3,hO5⟩ (by show s.st.length≤_;omega) (by show s.wa.length≤_;omega) (by show rs.length≤_;omega) (by show (cs++[c]).length≤_;omega) (hs.sb:St H w (e1::e2::e3::en124:: .blk b5 [I s.id,I s.src,.slice ast s.st.length cst,.slice awa s.wa.length cwa,I s.al,I s.up]:: .blk b4 [I s.id,I s.src,.slice ast s.st.length cst,.slice awa s.wa.length cwa,I s.al,I s.up,.slice ar rs.length cr,.slice a124 (cs++[c]).length c124]:: .blk b2 [I 0,I 0,.slice none 0 0,.slice none 0 0,I 0,I 0,.slice none 0 0,.slice none 0 0]:: .blk b1 [.slice avs sl.length cvs,.slice av5 fs5.length cv5,.slice av4 fs4.length cv4,.slice avp pk.length cvp,I z1,I z2,I z3]::σ))
     refine .o (.call Tryz.call91 rfl (uC (s:=⟨s,rs,cs++[c]⟩) hs2 r1 r2 r3 r4 hsok.early (Ai hsok)) ?_);rintro _ w ⟨Hy,b127,hley,rfl,hb127,hs3⟩
     have hs:=back hley hs3
     clear hs2 hs3 back
     refine .nil ?_
     refine (.cond rfl (fun hc127=>?_) (fun hc127=>?_))
     ·refine .region (.z (zfa cD) (.y hs (zld e8) (.z (zfa cD) (.y hs (zld e8) (.z (dp bw) (.z gM ?_))))))
      refine .q hs (qw (k:=cs.length) rfl rfl bw cE ak (by have:=hO5.le;omega)) ?_
      refine .z (zfa cD) ?_
      refine .o (.store hs rfl rfl Tryz.sizeOf50 fun w hs=>?_)
      refine .nil ?_
      refine nB (nT ?_)
      refine .region (.z zm (.z cP (.z zg (.nil ?_))))
      refine nT ?_
      exact ⟨(k+1,cs,a124,c124),.dD rfl cu bj,⟨by dsimp only;omega,by dsimp only;omega,by dsimp only;omega,hcok,hsd,_,hO5.GU,hs.sb⟩,by dsimp only;omega⟩
     ·refine .skip ?_
      refine nB (nT ?_)
      refine .region (.z zm (.z cP (.z zg (.nil ?_))))
      refine nT ?_
      exact ⟨(k+1,cs++[c],a124,c124),.dD rfl cu bj,⟨by dsimp only;omega,by dsimp only;omega,by dsimp only;omega,hcok',hb127 (by simpa using hc127),_,hO5,hs.sb⟩,by dsimp only;omega⟩
    ·refine .exit ?_
     refine xT (xT (xB (nT ?_)))
     exact ⟨cs,e4,ac,cc,bj,ak,hcok,hsd,hO4,hs⟩
   ·refine .gFs 2 5 true rfl rfl rfl ?_
    refine .z zpF (.nil ?_)
    refine (.cF ?_)
    refine .exit ?_
    refine xT (xT (xB (nT ?_)))
    exact ⟨cs,e4,ac,cc,bj,ak,hcok,hsd,hO4,hs⟩
  ·clear hs
   rintro fs w ⟨cs,e4,ac,cc,hfs,hc5,hcok,hsd,hO4,hs⟩
   refine WE.sub ?_ hfs
   clear hfs
   have hsok:dT ⟨s,rs,cs⟩:=xt hSp.ok hSt hWa hr14 hc5 hrok hcok
   refine .aj (.y hs (zls [_,_,_,_,_,_,_,_] aZ aD) (.z (zfa oe) (.y hs (zld an) ?_)))
   obtain ⟨Hx,hlex,r1,r2,r3,r4,hs2,back⟩:=Gi.AS (s:=⟨s,rs,cs⟩) ⟨hO1,hO2,hO3,hO4⟩ (by show s.st.length≤_;omega) (by show s.wa.length≤_;omega) (by show rs.length≤_;omega) (by show cs.length≤_;omega) hs
   refine .o (.call Tryz.call92 rfl (uB (s:=⟨s,rs,cs⟩) hs2 r1 r2 r3 r4 (g4.mono hlex) hsok.early ⟨Ai hsok,hsd⟩) ?_);rintro v139 w ⟨Hy,x,ex,hley,hOx,hP,hs3⟩
   have hs:=back hley hs3
   clear hs2 hs3 back r1 r2 r3 r4
   obtain ⟨hxl,hx0,hxb,hfe⟩:=hP.zK (Ai hsok) hsd
   have hsm:=hsok.many
   have hfn:(Srv.oQ ⟨s,rs,cs⟩).n=s.many+(a6 rs).length+1:=rL ⟨s,rs,cs⟩
   have hxl:x.length=s.many+(a6 rs).length+1:=by rw [hxl];exact hfn
   rw [hfn] at hxb
   have hsm:s.many+(a6 rs).length≤64:=hsm
   obtain ⟨Hz,hlez,hX,hs⟩:=cI.eJ hOx ak hs dE
   obtain ⟨ax,cx,rfl⟩:=RI.shape hX
   refine .z zg (.nil (.seq (.aj (.z zg (.nil (.block ?_))))))
   refine .loop (fun p:Nat×List Rdg=>⟨208,[],[(14,I (p.1:Int)),(13,.slice ax x.length cx),(5,.pointer (some ⟨b5,0,none⟩)),(4,.pointer (some ⟨b4,0,none⟩)),(2,.pointer (some ⟨b2,0,none⟩)),(1,.pointer (some ⟨b1,0,none⟩))]⟩)
    (fun p w=>p.1≤rs.length∧p.2.length=rs.length∧a6 p.2=a6 rs∧(∀r∈p.2,RdS s r)∧(∀j<p.1,∀r,p.2[j]? =some r→DL s (a6 rs) x r)∧∃e3,cI 7 (.slice ar rs.length cr) (rdc p.2).flatten e3∧
     St Hz w (e1::e2::e3::e4:: .blk b5 [I s.id,I s.src,.slice ast s.st.length cst,.slice awa s.wa.length cwa,I s.al,I s.up]:: .blk b4 [I s.id,I s.src,.slice ast s.st.length cst,.slice awa s.wa.length cwa,I s.al,I s.up,.slice ar rs.length cr,.slice ac cs.length cc]:: .blk b2 [I 0,I 0,.slice none 0 0,.slice none 0 0,I 0,I 0,.slice none 0 0,.slice none 0 0]:: .blk b1 [.slice avs sl.length cvs,.slice av5 fs5.length cv5,.slice av4 fs4.length cv4,.slice avp pk.length cvp,I z1,I z2,I z3]::σ)) (fun p=>rs.length - p.1) (0,rs) bj
    ⟨cu,rfl,rfl,fun r hr=>⟨(hrok r hr).st,(hrok r hr).wa,(hrok r hr).tol⟩,fun j hj=>by omega,e3,hO3,hs⟩ ?_
   clear hs hO3
   rintro ⟨k,R⟩ w ⟨hk,hRl,hRt,hRs,hRv,e3,hO3,hs⟩
   dsimp only at hk hRl hRt hRs hRv hO3 hs ⊢
   refine .seq (.aj (.z zm (.z (zfa aQ) (.y hs (zld bJ) (.z (dp au) (.z iK (.nil ?_)))))))
   refine (.bH rfl (fun hc144=>?_) (fun hc144=>?_))
   ·refine .skip ?_
    refine nT ?_
    refine .seq (.block (.aj (.z (zfa iA) (.y hs (zld Tryz.isAgg35) (.z zm ?_)))))
    obtain ⟨n,hn⟩:=nth (l:=fs5) (k:=k) ak
    obtain ⟨r,hr⟩:=nth (l:=R) (k:=k) ak
    have hrS:=hRs r (List.mem_of_getElem? hr)
    obtain ⟨u,hu1,hu2⟩:=hrS.u
    have hrst:=hrS.st
    have hrwa:=hrS.wa
    have hrtol:=hrS.tol
    have hmem:r.td∈a6 R:=eY.2 ⟨r,List.mem_of_getElem? hr,rfl⟩
    obtain ⟨q,q1,q2,q3⟩:=gq hmem
    rw [hRt] at q3
    have hb1:=hxb u ak
    have hb2:=hxb (s.many+1+q) ak
    obtain ⟨bo,co,sp,hv,rfl,hcap⟩:=hO3.Gf (jO _) ak (by rw [dr];omega)
    simp only [Value.slice.injEq] at hv
    obtain ⟨rfl,hv2,rfl⟩:=hv
    obtain ⟨Hx,hlex,r1,r2,r3,r4,hs2,back⟩:=Gi.AS (s:=⟨s,R,cs⟩) ⟨hO1,hO2,hO3,hO4⟩ (by show s.st.length≤_;omega) (by show s.wa.length≤_;omega) (by show R.length≤_;omega) (by show cs.length≤_;omega) hs
    clear hs
    have hs:=hs2
    clear hs2
    refine .ixX (enc:=F5.v) hs (g2.mono (hlez.trans hlex)) rfl rfl Tryz.runUnderlying35 vY hn de ?_;intro b150 o150 hc150
    refine .q hs (bY (vs:=n.v) rfl Tryz.isAgg151 vY hc150) ?_
    refine .o (.alloc hs Tryz.zeroValue151 rfl fun b15 w hs=>?_)
    refine .o (.aP (vs:=[_,_,_,_,_]) hs rfl rfl vY fun w hs=>?_)
    refine .nil (.aj (.z (zfa aQ) (.y hs (zld bJ) (.z zm ?_))))
    refine .ixX (enc:=Rdg.c) hs r3 rfl rfl au aF hr de ?_;intro b155 o155 hc155
    refine .q hs (bY (vs:=r.c) rfl eG aF hc155) ?_
    refine .o (.alloc hs eQ rfl fun b16 w hs=>?_)
    refine .o (.aP (vs:=[_,_,_,_,_,_,_]) hs rfl rfl aF fun w hs=>?_)
    refine .nil (.aj (.y hs (zls [_,_,_,_,_,_] aV aH) (.z (zfa fE) (.y hs (zld ae) (.z (zfa fD) (.y hs (zld ae) ?_))))))
    refine .o (.call yg rfl (eM (s:=s) hs r2 ak ak ak) ?_);rintro _ w ⟨rfl,hs⟩
    rw [hu1]
    refine .z zg (.nil ?_)
    refine .seq (.draw mix rfl hs fun w hs=>?_)
    refine .ys 0 rfl hs [_,_,_,_,_,_] aV aH ?_;refine .z 3 rfl (zfa aQ) ?_;refine .y 4 rfl hs bJ ?_;refine .z 6 rfl (zfa eE) ?_;refine .y 7 rfl hs ae ?_;refine .z 8 rfl (zfa eD) ?_;refine .y 9 rfl hs ae ?_;refine .z 10 rfl (zbd [_,_] iG) ?_
    refine .E 1 hs ?_
    refine .call Tryz.call94 rfl (ic (s:=s) hs r1 r2 ⟨ak,ak⟩) ?_;rintro _ w ⟨rfl,hs⟩
    refine .go ?_
    refine .z 2 rfl cP ?_
    refine .E 5 hs ?_
    refine .call Tryz.call96 rfl (ja (rs:=R) hs r3 ak) ?_;rintro v168 w ⟨Hw,hlew,hT,hs⟩
    refine .go ?_
    refine .E 11 hs ?_
    refine .call Tryz.call95 rfl (kf (t:=r.td) hs hT (by rw [hRt];omega)) ?_;rintro _ w ⟨rfl,hs⟩
    rw [q1]
    refine .go ?_
    refine .z 12 rfl cP ?_;refine .z 13 rfl zg ?_;refine .D hs ?_
    refine .seq (.draw mix rfl hs fun w hs=>?_)
    refine .z 0 rfl (zia 4 iP ai) ?_
    refine .y 1 rfl hs ae ?_;refine .z 2 rfl Hm ?_;refine .z 3 rfl (zfa da) ?_;refine .y 4 rfl hs ae ?_;refine .z 5 rfl lz ?_;refine .z 6 rfl cP ?_;refine .z 8 rfl (zfa da) ?_;refine .y 9 rfl hs ae ?_
    refine .E 7 hs ?_
    refine .call dR rfl (cn hs ak) ?_;rintro _ w ⟨k183,g183,rfl,hs⟩
    refine .go ?_
    refine .z 10 rfl gM ?_;refine .z 11 rfl zg ?_;refine .D hs ?_
    refine .draw mix rfl hs fun w hs=>?_
    refine .z 0 rfl (zfa aQ) ?_;refine .y 1 rfl hs bJ ?_;refine .z 2 rfl zm ?_;refine .z 3 rfl zm ?_;refine .z 4 rfl zm ?_
    have hs:=back hlew hs
    refine .ixX (enc:=fun x=>[I x]) (i:=5) hs rfl aq .none hX rfl rfl af ai (bU (l:=x) (i:=u) ak) rfl ?_;intro b192 o192 hc192;replace hc192:=cg.one hc192
    refine .r (i:=6) hs rfl aq .none (aW rfl ae hc192) ?_
    refine .z 7 rfl zm ?_;refine .z 8 rfl zm ?_
    refine .ixX (enc:=fun x=>[I x]) (i:=9) hs rfl aq .none hX rfl rfl af ai (bU (l:=x) (i:=s.many+1+q) ak) (by push_cast;rfl) ?_;intro b196 o196 hc196;replace hc196:=cg.one hc196
    refine .r (i:=10) hs rfl aq .none (aW rfl ae hc196) ?_
    refine .z 11 rfl gM ?_;refine .z 12 rfl zm ?_;refine .z 13 rfl cP ?_
    first|(refine .ixw 14 rfl hs au aF ?_;intro b201 o201 hc201)|refine .z 14 rfl (lZ au aF) ?_
    refine .z 15 rfl (zfa dn) ?_
    refine .E 16 hs ?_
    refine .store (c':=(rdc (R.set k {r with val:=gi x u - gi x (s.many+1+q)+((k183:Int) - r.tol)})).flatten++sp) hs rfl rfl ai ?_ dE (Nat.ble_eq_true_of_le (by rw [List.length_append,bT _ (jO _),dr];omega)) (zW hr sp _);intro w hs
    refine .go ?_
    refine .D hs ?_
    refine nB (nT ?_)
    refine .region (.z zm (.z cP (.z zg (.nil ?_))))
    refine nT ?_
    exact ⟨(k+1,R.set k {r with val:=gi x u - gi x (s.many+1+q)+((k183:Int) - r.tol)}),.dD rfl cu bj,⟨by dsimp only;omega,by dsimp only;rw [List.length_set];exact hRl,by dsimp only;rw [yq hr];exact hRt,fun y hy=>by
      rcases List.mem_or_eq_of_mem_set hy with h|h
      ·exact hRs y h
      ·subst h;exact ⟨hrst,hrwa,hrtol⟩,fun j hj y hy=>by
      dsimp only at hj hy
      by_cases e:j=k
      ·subst e
       rw [List.getElem?_set_self ak] at hy
       obtain rfl:=Option.some.inj hy
       have q1':jW (a6 rs) r.td=q:=by rw [←hRt];exact q1
       unfold DL
       show gi x (1+r.st*s.wa.length+r.wa).toNat - gi x (s.many+1+jW (a6 rs) r.td).toNat - r.tol≤_∧_≤gi x (1+r.st*s.wa.length+r.wa).toNat - gi x (s.many+1+jW (a6 rs) r.td).toNat+r.tol
       rw [hu1,q1',show ((s.many:Int)+1+(q:Int)).toNat=s.many+1+q by omega,Int.toNat_natCast]
       dsimp only
       omega
      ·rw [List.getElem?_set_ne ak] at hy
       exact hRv j ak y hy,_,EP hO3 _,hs.sb⟩,by dsimp only;omega⟩
   ·refine .exit ?_
    refine xT (xT (xB (nT ?_)))
    refine .aj (.y hs (zls [_,_,_,_,_,_,_,_] aZ aD) (.z zm ?_))
    obtain rfl:k=rs.length:=by omega
    obtain ⟨Hx,hlex,r1,r2,r3,r4,hs2,back⟩:=Gi.AS (s:=⟨s,R,cs⟩) ⟨hO1,hO2,hO3,hO4⟩ (by show s.st.length≤_;omega) (by show s.wa.length≤_;omega) (by show R.length≤_;omega) (by show cs.length≤_;omega) hs
    refine .o (.call Tryz.call97 rfl (qv (s:=⟨s,R,cs⟩) (x:=x) hs2 r1 r2 r3 ⟨_,_,_,rfl⟩ (hX.mono hlex) (by rw [rL];show _=s.many+(a6 R).length+1;rw [hRt];exact hxl) ⟨by show s.st.length≤_;omega,by show s.wa.length≤_;omega,by show R.length≤_;omega⟩) ?_);rintro _ w ⟨Hy,vr',vy,er,ey,hley,rfl,hOr,hOy,hs3⟩
    have hs:=back hley hs3
    clear hs2 hs3 back r1 r2 r3 r4
    have hkl:=uQ s R
    obtain ⟨arr,crr,rfl⟩:=hOr.iU (jO _) ak
    obtain ⟨ayy,lyy,cyy,rfl,-⟩:=hOy.shape
    refine .z zex (.z zex ?_)
    refine .o (.aP (vs:=[_,_,_,_,_,_,_,_]) hs rfl rfl aD fun w hs=>?_)
    refine .z zg (.nil ?_)
    refine .ret ?_
    exact Fin.iZ [] [] hs fun w hs=>⟨_,results2 Tryz.results31 (dJ (vs:=[_,_,_,_,_,_,_,_]) hs rfl aZ aD) rfl,Hz,⟨s,iR s R,cs⟩,_,_,_,_,_,_,e1,e2,er,e4,ey,hlez,rfl,
     ⟨hSt,hWa,by show (iR s R).length≤14;omega,hc5,xt hSp.ok hSt hWa ak hc5 (fun r h=>(yX h).2) hcok⟩,⟨hO1,hO2,hOr,hO4⟩,hOy,BI hfe hx0 hxl hRt hRs (fun r hr=>by
      obtain ⟨j,hj⟩:=List.getElem?_of_mem hr
      have:=(List.getElem?_eq_some_iff.1 hj).1
      exact hRv j ak r hj),hs.sb⟩
end Go.Proofs.YteajddicacjkhaaGreat
