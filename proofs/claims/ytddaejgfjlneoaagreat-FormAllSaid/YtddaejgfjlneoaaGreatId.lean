/-
  Texts of these claims, joined: Ze Zf Zg Zh Zi Zj Zk Zl Zm Zn Zo Zp Zq Zr Zs Zu Zv Zx Zy Zz.
-/
import Derived.Test.YtddaejgfjlneoaaGreatIc
namespace Go.Proofs.YtddaejgfjlneoaaGreat
open Go.MW
variable{H:bP}{w:World}{σ:List Ent}
theorem bp{a0 a1 a2:Int}(hs:St H w σ):Cl Tryz.prog 105 [I a0,I a1,I a2] w fun v w'=>v= .bool (decide (a1≤a0∧a0≤a2))∧St H w' σ:=by
 refine Cl.o Tryz.func105 Tryz.ntmps105 ag3 ?_
 refine .af (.z zg (.nil (.af (.z zm (.z zm (.z wv (.z zm ?_)))))))
 refine .kf (t':=10) rfl (fun hb10=>?_) (fun hb10=>?_)
 ·refine .gT rfl rfl ?_
  refine .z zm ?_
  refine .gT rfl rfl ?_
  refine .z zm ?_
  refine .gT rfl rfl ?_
  refine .z wv (.z zpT (.z zg (.nil ?_)))
  refine .ret (Fin.bI Tryz.results105 rfl ?_)
  exact ⟨by simp [*],hs.out⟩
 ·refine .gFs 3 3 true rfl rfl rfl ?_
  refine .z zpF (.z zg (.nil ?_))
  refine .ret (Fin.bI Tryz.results105 rfl ?_)
  exact ⟨by simp [*],hs.out⟩
theorem fS{a0:Int}(hs:St H w σ):Cl Tryz.prog 106 [I a0] w fun v w'=>v= .bool (decide (1≤a0∧a0≤99999))∧St H w' σ:=by
 refine Cl.o Tryz.func106 Tryz.ntmps106 ag1 ?_
 refine .af (.z zg (.nil (.af (.z zm ?_))))
 refine .o (.call cQ rfl (bp hs) ?_);rintro _ w ⟨rfl,hs⟩
 refine .z zg (.nil ?_)
 refine .ret (Fin.bI Tryz.results106 rfl ?_)
 exact ⟨rfl,hs⟩
theorem eg{s:Spc}{vst vwa:Value}(hs:St H w σ)(h1:RI H vst s.st)(h2:RI H vwa s.wa):
  Cl Tryz.prog 41 [.agg #[I s.id,I s.src,vst,vwa,I s.al,I s.up]] w fun v w'=>∃H1 e,HLe H H1∧v=I e∧((ez s∧e=0)∨(¬ez s∧e=30))∧St H1 w' σ:=by
 obtain ⟨ast,cst,rfl⟩:=RI.shape h1
 obtain ⟨awa,cwa,rfl⟩:=RI.shape h2
 refine Cl.o Tryz.func41 Tryz.ntmps41 ag1 ?_
 refine .af ?_
 refine .bx hs fun b1 w hs=>?_
 refine .z zg (.nil (.seq (.af (.z (zfa bu) (.y hs (zld ak) (.z (zfa bn) (.y hs (zld ak) ?_)))))))
 refine .o (.call Tryz.call104 rfl (lO hs h1 h2) ?_);rintro _ w ⟨H1,vo,e,hle1,rfl,hG,hG',hs⟩
 refine .z zm (.z zex (.z zex (.z zg (.z zg (.nil (.af (.z zm (.z fM (.z zm ?_)))))))))
 refine .yU (t':=15) rfl (fun hb15=>?_) (fun hb15=>?_)
 ·refine .gFs 4 2 false rfl rfl rfl ?_
  refine .z zpT (.z zm ?_)
  refine .gFs 4 8 false rfl rfl rfl ?_
  refine .z zpT (.z zm ?_)
  refine .gFs 5 14 false rfl rfl rfl ?_
  refine .z zpT (.z zm ?_)
  refine .gFs 5 21 false rfl rfl rfl ?_
  refine .z zpT (.nil ?_)
  refine (.cT ?_)
  refine .af (.z zg (.nil ?_))
  refine .ret (rT (Fin.bI sN rfl ?_))
  exact ⟨H1,_,hle1,rfl,.inr ⟨fun h=>by have:=(hG ⟨h.st,h.wa⟩).1;simp_all,rfl⟩,hs.out⟩
 ·refine .gT rfl rfl ?_
  refine .z (zfa sD) ?_
  refine .gT rfl rfl ?_
  refine .y hs (zld ae) ?_
  refine .gT rfl rfl ?_
  refine .o (.call cQ rfl (bp hs) ?_);rintro _ w ⟨rfl,hs⟩
  refine .gT rfl rfl ?_
  refine .z iq (.z zpF (.z zm ?_))
  refine .bif (t':=21) rfl (fun hb21=>?_) (fun hb21=>?_)
  ·refine .gFs 4 8 false rfl rfl rfl ?_
   refine .z zpT (.z zm ?_)
   refine .gFs 5 14 false rfl rfl rfl ?_
   refine .z zpT (.z zm ?_)
   refine .gFs 5 21 false rfl rfl rfl ?_
   refine .z zpT (.nil ?_)
   refine (.cT ?_)
   refine .af (.z zg (.nil ?_))
   refine .ret (rT (Fin.bI sN rfl ?_))
   exact ⟨H1,_,hle1,rfl,.inr ⟨fun h=>by have:=h.id;simp_all,rfl⟩,hs.out⟩
  ·refine .gT rfl rfl ?_
   refine .z (zfa dh) ?_
   refine .gT rfl rfl ?_
   refine .y hs (zld ae) ?_
   refine .gT rfl rfl ?_
   refine .o (.call Tryz.call106 rfl (fS hs) ?_);rintro _ w ⟨rfl,hs⟩
   refine .gT rfl rfl ?_
   refine .z iq (.z zpF (.z zm ?_))
   refine .bif (t':=27) rfl (fun hb27=>?_) (fun hb27=>?_)
   ·refine .gFs 5 14 false rfl rfl rfl ?_
    refine .z zpT (.z zm ?_)
    refine .gFs 5 21 false rfl rfl rfl ?_
    refine .z zpT (.nil ?_)
    refine (.cT ?_)
    refine .af (.z zg (.nil ?_))
    refine .ret (rT (Fin.bI sN rfl ?_))
    exact ⟨H1,_,hle1,rfl,.inr ⟨fun h=>by have:=h.src;simp_all,rfl⟩,hs.out⟩
   ·refine .gT rfl rfl ?_
    refine .z (zfa eU) ?_
    refine .gT rfl rfl ?_
    refine .z (zfa kS) ?_
    refine .gT rfl rfl ?_
    refine .y hs (zld ae) ?_
    refine .gT rfl rfl ?_
    refine .o (.call cQ rfl (bp hs) ?_);rintro _ w ⟨rfl,hs⟩
    refine .gT rfl rfl ?_
    refine .z iq (.z zpF (.z zm ?_))
    refine .bif (t':=34) rfl (fun hb34=>?_) (fun hb34=>?_)
    ·refine .gFs 5 21 false rfl rfl rfl ?_
     refine .z zpT (.nil ?_)
     refine (.cT ?_)
     refine .af (.z zg (.nil ?_))
     refine .ret (rT (Fin.bI sN rfl ?_))
     exact ⟨H1,_,hle1,rfl,.inr ⟨fun h=>by have:=h.al;simp_all,rfl⟩,hs.out⟩
    ·refine .gT rfl rfl ?_
     refine .z (zfa eU) ?_
     refine .gT rfl rfl ?_
     refine .z (zfa kR) ?_
     refine .gT rfl rfl ?_
     refine .y hs (zld ae) ?_
     refine .gT rfl rfl ?_
     refine .o (.call cQ rfl (bp hs) ?_);rintro _ w ⟨rfl,hs⟩
     refine .gT rfl rfl ?_
     refine .z iq (.z zpF (.nil ?_))
     refine (.cond rfl (fun hc40=>?_) (fun hc40=>?_))
     ·refine .af (.z zg (.nil ?_))
      refine .ret (rT (Fin.bI sN rfl ?_))
      exact ⟨H1,_,hle1,rfl,.inr ⟨fun h=>by have:=h.up;simp_all,rfl⟩,hs.out⟩
     ·refine .skip ?_
      refine nT ?_
      refine .af (.z zg (.nil ?_))
      refine .ret (Fin.bI sN rfl ?_)
      have hg:=hG' (by simp_all)
      exact ⟨H1,_,hle1,rfl,.inl ⟨⟨hg.1,hg.2,by simp_all,by simp_all,by simp_all,by simp_all⟩,rfl⟩,hs.out⟩
theorem fF{s:Spc}{r:Rdg}{vst vwa:Value}(hs:St H w σ)(h1:RI H vst s.st)(h2:RI H vwa s.wa):
  Cl Tryz.prog 107 [.agg #[I s.id,I s.src,vst,vwa,I s.al,I s.up],.agg #[I r.src,I r.st,I r.wa,I r.val,I r.tol,I r.tape,I r.day]] w fun v w'=>∃b:Bool,v= .bool b∧(b=true↔fN s r)∧St H w' σ:=by
 obtain ⟨ast,cst,rfl⟩:=RI.shape h1
 obtain ⟨awa,cwa,rfl⟩:=RI.shape h2
 have l1:=(RI.len h1).2.2
 have l2:=(RI.len h2).2.2
 refine Cl.o Tryz.func107 Tryz.ntmps107 ag2 ?_
 refine .af ?_
 refine .bx hs fun b2 w hs=>?_
 refine .bx hs fun b3 w hs=>?_
 refine .z zg (.nil (.af (.z (zfa eb) (.y hs (zld ae) ?_))))
 refine .o (.call Tryz.call106 rfl (fS hs) ?_);rintro _ w ⟨rfl,hs⟩
 refine .z zm ?_
 refine .bif (t':=8) rfl (fun hb8=>?_) (fun hb8=>?_)
 ·refine .gT rfl rfl ?_
  refine .z (zfa ea) ?_
  refine .gT rfl rfl ?_
  refine .y hs (zld ae) ?_
  refine .gT rfl rfl ?_
  refine .z (zfa bu) ?_
  refine .gT rfl rfl ?_
  refine .y hs (zld ak) ?_
  refine .gT rfl rfl ?_
  refine .z (c9 ad) ?_
  refine .gT rfl rfl ?_
  refine .z hZ ?_
  refine .gT rfl rfl ?_
  refine .o (.call cQ rfl (bp hs) ?_);rintro _ w ⟨rfl,hs⟩
  refine .z zpT (.z zm ?_)
  refine .bif (t':=17) rfl (fun hb17=>?_) (fun hb17=>?_)
  ·refine .gT rfl rfl ?_
   refine .z (zfa dZ) ?_
   refine .gT rfl rfl ?_
   refine .y hs (zld ae) ?_
   refine .gT rfl rfl ?_
   refine .z (zfa bn) ?_
   refine .gT rfl rfl ?_
   refine .y hs (zld ak) ?_
   refine .gT rfl rfl ?_
   refine .z (c9 ad) ?_
   refine .gT rfl rfl ?_
   refine .z hZ ?_
   refine .gT rfl rfl ?_
   refine .o (.call cQ rfl (bp hs) ?_);rintro _ w ⟨rfl,hs⟩
   refine .z zpT (.z zm ?_)
   refine .bif (t':=26) rfl (fun hb26=>?_) (fun hb26=>?_)
   ·refine .gT rfl rfl ?_
    refine .z (zfa bR) ?_
    refine .gT rfl rfl ?_
    refine .y hs (zld ae) ?_
    refine .gT rfl rfl ?_
    refine .o (.call cQ rfl (bp hs) ?_);rintro _ w ⟨rfl,hs⟩
    refine .z zpT (.z zm ?_)
    refine .bif (t':=31) rfl (fun hb31=>?_) (fun hb31=>?_)
    ·refine .gT rfl rfl ?_
     refine .z (zfa dv) ?_
     refine .gT rfl rfl ?_
     refine .y hs (zld ae) ?_
     refine .gT rfl rfl ?_
     refine .z (zfa bR) ?_
     refine .gT rfl rfl ?_
     refine .y hs (zld ae) ?_
     refine .gT rfl rfl ?_
     have ht:0≤r.tol∧r.tol≤1000:=by simp_all
     refine .z hZ ?_
     refine .gT rfl rfl ?_
     refine .o (.call cQ rfl (bp hs) ?_);rintro _ w ⟨rfl,hs⟩
     refine .z zpT (.z zm ?_)
     refine .bif (t':=39) rfl (fun hb39=>?_) (fun hb39=>?_)
     ·refine .gT rfl rfl ?_
      refine .z (zfa dY) ?_
      refine .gT rfl rfl ?_
      refine .y hs (zld ae) ?_
      refine .gT rfl rfl ?_
      refine .o (.call cQ rfl (bp hs) ?_);rintro _ w ⟨rfl,hs⟩
      refine .z zpT (.z zm ?_)
      refine .bif (t':=44) rfl (fun hb44=>?_) (fun hb44=>?_)
      ·refine .gT rfl rfl ?_
       refine .z (zfa dX) ?_
       refine .gT rfl rfl ?_
       refine .y hs (zld ae) ?_
       refine .gT rfl rfl ?_
       refine .o (.call cQ rfl (bp hs) ?_);rintro _ w ⟨rfl,hs⟩
       refine .z zpT (.z zg (.nil ?_))
       refine .ret (Fin.bI lr rfl ?_)
       first
       |exact ⟨false,rfl,⟨fun h=>(by cases h),fun h=>(by obtain ⟨g1,g2,g3,g4,g5,g6,g7⟩:=h;simp_all;done)⟩,hs.out⟩
       |exact ⟨_,rfl,⟨fun h=>⟨by simp_all,by simp_all,by simp_all,by simp_all,by simp_all,by simp_all,by simpa using h⟩,fun h=>by simpa using h.day⟩,hs.out⟩
      ·refine .gFs 3 39 true rfl rfl rfl ?_
       refine .z zpF (.z zg (.nil ?_))
       refine .ret (Fin.bI lr rfl ?_)
       first
       |exact ⟨false,rfl,⟨fun h=>(by cases h),fun h=>(by obtain ⟨g1,g2,g3,g4,g5,g6,g7⟩:=h;simp_all;done)⟩,hs.out⟩
       |exact ⟨_,rfl,⟨fun h=>⟨by simp_all,by simp_all,by simp_all,by simp_all,by simp_all,by simp_all,by simpa using h⟩,fun h=>by simpa using h.day⟩,hs.out⟩
     ·refine .gFs 3 34 true rfl rfl rfl ?_
      refine .z zpF (.z zm ?_)
      refine .gFs 3 39 true rfl rfl rfl ?_
      refine .z zpF (.z zg (.nil ?_))
      refine .ret (Fin.bI lr rfl ?_)
      first
      |exact ⟨false,rfl,⟨fun h=>(by cases h),fun h=>(by obtain ⟨g1,g2,g3,g4,g5,g6,g7⟩:=h;simp_all;done)⟩,hs.out⟩
      |exact ⟨_,rfl,⟨fun h=>⟨by simp_all,by simp_all,by simp_all,by simp_all,by simp_all,by simp_all,by simpa using h⟩,fun h=>by simpa using h.day⟩,hs.out⟩
    ·refine .gFs 6 26 true rfl rfl rfl ?_
     refine .z zpF (.z zm ?_)
     refine .gFs 3 34 true rfl rfl rfl ?_
     refine .z zpF (.z zm ?_)
     refine .gFs 3 39 true rfl rfl rfl ?_
     refine .z zpF (.z zg (.nil ?_))
     refine .ret (Fin.bI lr rfl ?_)
     first
     |exact ⟨false,rfl,⟨fun h=>(by cases h),fun h=>(by obtain ⟨g1,g2,g3,g4,g5,g6,g7⟩:=h;simp_all;done)⟩,hs.out⟩
     |exact ⟨_,rfl,⟨fun h=>⟨by simp_all,by simp_all,by simp_all,by simp_all,by simp_all,by simp_all,by simpa using h⟩,fun h=>by simpa using h.day⟩,hs.out⟩
   ·refine .gFs 3 21 true rfl rfl rfl ?_
    refine .z zpF (.z zm ?_)
    refine .gFs 6 26 true rfl rfl rfl ?_
    refine .z zpF (.z zm ?_)
    refine .gFs 3 34 true rfl rfl rfl ?_
    refine .z zpF (.z zm ?_)
    refine .gFs 3 39 true rfl rfl rfl ?_
    refine .z zpF (.z zg (.nil ?_))
    refine .ret (Fin.bI lr rfl ?_)
    first
    |exact ⟨false,rfl,⟨fun h=>(by cases h),fun h=>(by obtain ⟨g1,g2,g3,g4,g5,g6,g7⟩:=h;simp_all;done)⟩,hs.out⟩
    |exact ⟨_,rfl,⟨fun h=>⟨by simp_all,by simp_all,by simp_all,by simp_all,by simp_all,by simp_all,by simpa using h⟩,fun h=>by simpa using h.day⟩,hs.out⟩
  ·refine .gFs 7 12 true rfl rfl rfl ?_
   refine .z zpF (.z zm ?_)
   refine .gFs 3 21 true rfl rfl rfl ?_
   refine .z zpF (.z zm ?_)
   refine .gFs 6 26 true rfl rfl rfl ?_
   refine .z zpF (.z zm ?_)
   refine .gFs 3 34 true rfl rfl rfl ?_
   refine .z zpF (.z zm ?_)
   refine .gFs 3 39 true rfl rfl rfl ?_
   refine .z zpF (.z zg (.nil ?_))
   refine .ret (Fin.bI lr rfl ?_)
   first
   |exact ⟨false,rfl,⟨fun h=>(by cases h),fun h=>(by obtain ⟨g1,g2,g3,g4,g5,g6,g7⟩:=h;simp_all;done)⟩,hs.out⟩
   |exact ⟨_,rfl,⟨fun h=>⟨by simp_all,by simp_all,by simp_all,by simp_all,by simp_all,by simp_all,by simpa using h⟩,fun h=>by simpa using h.day⟩,hs.out⟩
 ·refine .gFs 7 3 true rfl rfl rfl ?_
  refine .z zpF (.z zm ?_)
  refine .gFs 7 12 true rfl rfl rfl ?_
  refine .z zpF (.z zm ?_)
  refine .gFs 3 21 true rfl rfl rfl ?_
  refine .z zpF (.z zm ?_)
  refine .gFs 6 26 true rfl rfl rfl ?_
  refine .z zpF (.z zm ?_)
  refine .gFs 3 34 true rfl rfl rfl ?_
  refine .z zpF (.z zm ?_)
  refine .gFs 3 39 true rfl rfl rfl ?_
  refine .z zpF (.z zg (.nil ?_))
  refine .ret (Fin.bI lr rfl ?_)
  first
  |exact ⟨false,rfl,⟨fun h=>(by cases h),fun h=>(by obtain ⟨g1,g2,g3,g4,g5,g6,g7⟩:=h;simp_all;done)⟩,hs.out⟩
  |exact ⟨_,rfl,⟨fun h=>⟨by simp_all,by simp_all,by simp_all,by simp_all,by simp_all,by simp_all,by simpa using h⟩,fun h=>by simpa using h.day⟩,hs.out⟩
theorem lF{c:Cmp}(hs:St H w σ):
  Cl Tryz.prog 108 [.agg #[I c.src,I c.tape,I c.fr,I c.to,I c.lo,I c.hi]] w fun v w'=>∃b:Bool,v= .bool b∧(b=true↔nY c)∧St H w' σ:=by
 refine Cl.o Tryz.func108 Tryz.ntmps108 ag1 ?_
 refine .af ?_
 refine .bx hs fun b1 w hs=>?_
 refine .z zg (.nil (.af (.z (zfa eH) (.y hs (zld ae) ?_))))
 refine .o (.call Tryz.call106 rfl (fS hs) ?_);rintro _ w ⟨rfl,hs⟩
 refine .z zm ?_
 refine .bif (t':=6) rfl (fun hb6=>?_) (fun hb6=>?_)
 ·refine .gT rfl rfl ?_
  refine .z (zfa iX) ?_
  refine .gT rfl rfl ?_
  refine .y hs (zld ae) ?_
  refine .gT rfl rfl ?_
  refine .o (.call cQ rfl (bp hs) ?_);rintro _ w ⟨rfl,hs⟩
  refine .z zpT (.z zm ?_)
  refine .bif (t':=11) rfl (fun hb11=>?_) (fun hb11=>?_)
  ·refine .gT rfl rfl ?_
   refine .z (zfa iW) ?_
   refine .gT rfl rfl ?_
   refine .y hs (zld ae) ?_
   refine .gT rfl rfl ?_
   refine .z (zfa gM) ?_
   refine .gT rfl rfl ?_
   refine .y hs (zld ae) ?_
   refine .gT rfl rfl ?_
   refine .o (.call cQ rfl (bp hs) ?_);rintro _ w ⟨rfl,hs⟩
   refine .z zpT (.z zm ?_)
   refine .bif (t':=18) rfl (fun hb18=>?_) (fun hb18=>?_)
   ·refine .gT rfl rfl ?_
    refine .z (zfa gM) ?_
    refine .gT rfl rfl ?_
    refine .y hs (zld ae) ?_
    refine .gT rfl rfl ?_
    refine .o (.call cQ rfl (bp hs) ?_);rintro _ w ⟨rfl,hs⟩
    refine .z zpT (.z zm ?_)
    refine .bif (t':=23) rfl (fun hb23=>?_) (fun hb23=>?_)
    ·refine .gT rfl rfl ?_
     refine .z (zfa iV) ?_
     refine .gT rfl rfl ?_
     refine .y hs (zld ae) ?_
     refine .gT rfl rfl ?_
     refine .z (zfa gL) ?_
     refine .gT rfl rfl ?_
     refine .y hs (zld ae) ?_
     refine .gT rfl rfl ?_
     refine .o (.call cQ rfl (bp hs) ?_);rintro _ w ⟨rfl,hs⟩
     refine .z zpT (.z zm ?_)
     refine .bif (t':=30) rfl (fun hb30=>?_) (fun hb30=>?_)
     ·refine .gT rfl rfl ?_
      refine .z (zfa gL) ?_
      refine .gT rfl rfl ?_
      refine .y hs (zld ae) ?_
      refine .gT rfl rfl ?_
      refine .o (.call cQ rfl (bp hs) ?_);rintro _ w ⟨rfl,hs⟩
      refine .z zpT (.z zg (.nil ?_))
      refine .ret (Fin.bI qO rfl ?_)
      first
      |exact ⟨false,rfl,⟨fun h=>(by cases h),fun h=>(by obtain ⟨g1,g2,g3,g4,g5,g6⟩:=h;simp_all;omega)⟩,hs.out⟩
      |exact ⟨false,rfl,⟨fun h=>(by cases h),fun h=>(by obtain ⟨g1,g2,g3,g4,g5,g6⟩:=h;simp_all;done)⟩,hs.out⟩
      |exact ⟨_,rfl,⟨fun h=>⟨by simp_all,by simp_all,by simp_all,by simp_all,by simp_all,(by simpa using h:_∧_).2⟩,fun h=>by have:=h.lo;have:=h.hi;simp;omega⟩,hs.out⟩
     ·refine .gFs 3 27 true rfl rfl rfl ?_
      refine .z zpF (.z zg (.nil ?_))
      refine .ret (Fin.bI qO rfl ?_)
      first
      |exact ⟨false,rfl,⟨fun h=>(by cases h),fun h=>(by obtain ⟨g1,g2,g3,g4,g5,g6⟩:=h;simp_all;omega)⟩,hs.out⟩
      |exact ⟨false,rfl,⟨fun h=>(by cases h),fun h=>(by obtain ⟨g1,g2,g3,g4,g5,g6⟩:=h;simp_all;done)⟩,hs.out⟩
      |exact ⟨_,rfl,⟨fun h=>⟨by simp_all,by simp_all,by simp_all,by simp_all,by simp_all,(by simpa using h:_∧_).2⟩,fun h=>by have:=h.lo;have:=h.hi;simp;omega⟩,hs.out⟩
    ·refine .gFs 5 20 true rfl rfl rfl ?_
     refine .z zpF (.z zm ?_)
     refine .gFs 3 27 true rfl rfl rfl ?_
     refine .z zpF (.z zg (.nil ?_))
     refine .ret (Fin.bI qO rfl ?_)
     first
     |exact ⟨false,rfl,⟨fun h=>(by cases h),fun h=>(by obtain ⟨g1,g2,g3,g4,g5,g6⟩:=h;simp_all;omega)⟩,hs.out⟩
     |exact ⟨false,rfl,⟨fun h=>(by cases h),fun h=>(by obtain ⟨g1,g2,g3,g4,g5,g6⟩:=h;simp_all;done)⟩,hs.out⟩
     |exact ⟨_,rfl,⟨fun h=>⟨by simp_all,by simp_all,by simp_all,by simp_all,by simp_all,(by simpa using h:_∧_).2⟩,fun h=>by have:=h.lo;have:=h.hi;simp;omega⟩,hs.out⟩
   ·refine .gFs 3 15 true rfl rfl rfl ?_
    refine .z zpF (.z zm ?_)
    refine .gFs 5 20 true rfl rfl rfl ?_
    refine .z zpF (.z zm ?_)
    refine .gFs 3 27 true rfl rfl rfl ?_
    refine .z zpF (.z zg (.nil ?_))
    refine .ret (Fin.bI qO rfl ?_)
    first
    |exact ⟨false,rfl,⟨fun h=>(by cases h),fun h=>(by obtain ⟨g1,g2,g3,g4,g5,g6⟩:=h;simp_all;omega)⟩,hs.out⟩
    |exact ⟨false,rfl,⟨fun h=>(by cases h),fun h=>(by obtain ⟨g1,g2,g3,g4,g5,g6⟩:=h;simp_all;done)⟩,hs.out⟩
    |exact ⟨_,rfl,⟨fun h=>⟨by simp_all,by simp_all,by simp_all,by simp_all,by simp_all,(by simpa using h:_∧_).2⟩,fun h=>by have:=h.lo;have:=h.hi;simp;omega⟩,hs.out⟩
  ·refine .gFs 5 8 true rfl rfl rfl ?_
   refine .z zpF (.z zm ?_)
   refine .gFs 3 15 true rfl rfl rfl ?_
   refine .z zpF (.z zm ?_)
   refine .gFs 5 20 true rfl rfl rfl ?_
   refine .z zpF (.z zm ?_)
   refine .gFs 3 27 true rfl rfl rfl ?_
   refine .z zpF (.z zg (.nil ?_))
   refine .ret (Fin.bI qO rfl ?_)
   first
   |exact ⟨false,rfl,⟨fun h=>(by cases h),fun h=>(by obtain ⟨g1,g2,g3,g4,g5,g6⟩:=h;simp_all;omega)⟩,hs.out⟩
   |exact ⟨false,rfl,⟨fun h=>(by cases h),fun h=>(by obtain ⟨g1,g2,g3,g4,g5,g6⟩:=h;simp_all;done)⟩,hs.out⟩
   |exact ⟨_,rfl,⟨fun h=>⟨by simp_all,by simp_all,by simp_all,by simp_all,by simp_all,(by simpa using h:_∧_).2⟩,fun h=>by have:=h.lo;have:=h.hi;simp;omega⟩,hs.out⟩
 ·refine .gFs 3 3 true rfl rfl rfl ?_
  refine .z zpF (.z zm ?_)
  refine .gFs 5 8 true rfl rfl rfl ?_
  refine .z zpF (.z zm ?_)
  refine .gFs 3 15 true rfl rfl rfl ?_
  refine .z zpF (.z zm ?_)
  refine .gFs 5 20 true rfl rfl rfl ?_
  refine .z zpF (.z zm ?_)
  refine .gFs 3 27 true rfl rfl rfl ?_
  refine .z zpF (.z zg (.nil ?_))
  refine .ret (Fin.bI qO rfl ?_)
  first
  |exact ⟨false,rfl,⟨fun h=>(by cases h),fun h=>(by obtain ⟨g1,g2,g3,g4,g5,g6⟩:=h;simp_all;omega)⟩,hs.out⟩
  |exact ⟨false,rfl,⟨fun h=>(by cases h),fun h=>(by obtain ⟨g1,g2,g3,g4,g5,g6⟩:=h;simp_all;done)⟩,hs.out⟩
  |exact ⟨_,rfl,⟨fun h=>⟨by simp_all,by simp_all,by simp_all,by simp_all,by simp_all,(by simpa using h:_∧_).2⟩,fun h=>by have:=h.lo;have:=h.hi;simp;omega⟩,hs.out⟩
theorem fa{s:Spc}{vst vwa:Value}(hs:St H w σ)(h1:RI H vst s.st)(h2:RI H vwa s.wa)(hb:s.st.length≤1000∧s.wa.length≤1000):
  Cl Tryz.prog 91 [.agg #[I s.id,I s.src,vst,vwa,I s.al,I s.up]] w fun v w'=>v=I (s.many:Int)∧St H w' σ:=by
 obtain ⟨ast,cst,rfl⟩:=RI.shape h1
 obtain ⟨awa,cwa,rfl⟩:=RI.shape h2
 have hm:=l7 (a:=(s.st.length:Int)) (b:=(s.wa.length:Int)) (A:=1000) (B:=1000) aj aj
 refine Cl.o Tryz.func91 Tryz.ntmps91 ag1 ?_
 refine .af ?_
 refine .bx hs fun b1 w hs=>?_
 refine .z zg (.nil (.af (.z (zfa bu) (.y hs (zld ak) (.z (c9 ad) (.z (zfa bn) (.y hs (zld ak) (.z (c9 ad) (.z kG ?_)))))))))
 refine .z zg (.nil ?_)
 refine .ret (Fin.bI Tryz.results91 rfl ?_)
 exact ⟨by unfold Spc.many;rw [Int.natCast_mul],hs.out⟩
theorem gx{s:Spc}{vst vwa:Value}{a b:Int}(hs:St H w σ)(h2:RI H vwa s.wa)(hb:s.wa.length≤1000)(ha: -1000≤a∧a≤1000)(hb': -1000≤b∧b≤1000):
  Cl Tryz.prog 118 [.agg #[I s.id,I s.src,vst,vwa,I s.al,I s.up],I a,I b] w fun v w'=>v=I (1+a*s.wa.length+b)∧St H w' σ:=by
 obtain ⟨awa,cwa,rfl⟩:=RI.shape h2
 have hm:=l7 (a:=a) (b:=(s.wa.length:Int)) (A:=1000) (B:=1000) aj aj
 refine Cl.o Tryz.func118 Tryz.ntmps118 ag3 ?_
 refine .af ?_
 refine .bx hs fun b3 w hs=>?_
 refine .z zg (.nil (.af (.z zm (.z (zfa bn) (.y hs (zld ak) (.z (c9 ad) (.z kG (.z cC (.z zm ?_)))))))))
 refine .z cC (.z zg (.nil ?_))
 refine .ret (Fin.bI Tryz.results118 rfl ?_)
 exact ⟨rfl,hs.out⟩
theorem ep{r:Rdg}(hs:St H w σ):
  Cl Tryz.prog 114 [.agg #[I r.src,I r.st,I r.wa,I r.val,I r.tol,I r.tape,I r.day]] w fun v w'=>v= .agg #[I r.tape,I r.day]∧St H w' σ:=by
 refine Cl.o Tryz.func114 Tryz.ntmps114 ag1 ?_
 refine .af ?_
 refine .bx hs fun b1 w hs=>?_
 refine .o (.alloc hs kj rfl fun b2 w hs=>?_)
 refine .nil (.af (.z (zfa dY) (.y hs (zld ae) (.z (zfa dX) (.y hs (zld ae) (.z (zbd [_,_] fb) ?_))))))
 refine .o (.aO (vs:=[_,_]) hs rfl rfl bq fun w hs=>?_)
 refine .nil ?_
 refine .ret ?_
 exact Fin.gI [] [] hs fun w hs=>⟨_,results1 Tryz.results114 (di (vs:=[_,_]) hs rfl df bq),rfl,hs.out⟩
theorem kx{a b:Int}(hs:St H w σ)(ha:0≤a∧a≤100000)(hb:0≤b∧b≤100000):
  Cl Tryz.prog 230 [I a,I b] w fun v w'=>v=I (iT a b)∧St H w' σ:=by
 have hm:=l7 (a:=a) (b:=b) (A:=100000) (B:=100000) aj aj
 have h0:=Int.mul_nonneg ha.1 hb.1
 have hq0:0≤(a*b+999).tdiv 1000:=Int.tdiv_nonneg aj aj
 have hq1:(a*b+999).tdiv 1000≤a*b+999:=by rw [Int.tdiv_eq_ediv_of_nonneg aj];omega
 refine Cl.o Tryz.func230 Tryz.ntmps230 ag2 ?_
 refine .af (.z zg (.nil (.af (.z zm (.z zm (.z kG (.z cC ?_)))))))
 refine .q hs (vi rfl rfl aj aj) ?_
 refine .z A3 (.z zg (.nil ?_))
 refine .ret (Fin.bI Tryz.results230 rfl ?_)
 exact ⟨rfl,hs⟩
def tp(s:Spc):List (List Value):=(List.range s.many).map fun p=>[Value.agg #[I ((p/s.wa.length:Nat):Int),I ((p%s.wa.length:Nat):Int),I ((p+1:Nat):Int)]]
theorem dI(s:Spc):(tp s).length=s.many:=by simp [tp]
theorem kY{s:Spc}{p:Nat}(h:p<(tp s).length):(tp s)[p]=[Value.agg #[I ((p/s.wa.length:Nat):Int),I ((p%s.wa.length:Nat):Int),I ((p+1:Nat):Int)]]:=by simp [tp]
theorem oI{H:bP}{b:Nat}{s:Spc}{vst vwa:Value}(hb:Row H b [I s.id,I s.src,vst,vwa,I s.al,I s.up])(h1:RI H vst s.st)(h2:RI H vwa s.wa)(hbd:s.st.length≤1000∧s.wa.length≤1000):
  Iter Tryz.prog 190 [.pointer (some ⟨b,0,none⟩)] H (tp s):=by
 intro ly II Ix hmI _ hy H0 σb0 σf w hle hI0 hs
 obtain ⟨ast,cst,rfl⟩:=RI.shape h1
 obtain ⟨awa,cwa,rfl⟩:=RI.shape h2
 have g2:cellAt H0 b 2=some (.slice ast s.st.length cst):=cellAt.mono (hb.at 2) hle
 have g3:cellAt H0 b 3=some (.slice awa s.wa.length cwa):=cellAt.mono (hb.at 3) hle
 have hm:s.many≤1000000:=Nat.mul_le_mul hbd.1 hbd.2
 refine Cl.o Tryz.func190 Tryz.ntmps190 ag2 ?_
 refine .af (.z zg (.nil (.af (.z (zfa bu) (.y hs (zld ak) (.z (c9 ad) (.z zm (.nil ?_))))))))
 refine .for (N:=s.st.length) (J:=fun i fr w=>fr=[(3,I ((i*s.wa.length:Nat):Int)),(0,.func (.yield ly) #[] #[]),(1,.pointer (some ⟨b,0,none⟩))]∧∃H1 σb,HLe H H1∧HLe H0 H1∧II (i*s.wa.length) H1 σb∧St H1 w (σb++σf)) aj ?_ ?_ ?_
 ·exact .mk ⟨by rw [Nat.zero_mul],H0,σb0,hle,HLe.refl _,by rw [Nat.zero_mul];exact hI0,hs⟩
 ·rintro i fr w hi ⟨rfl,H1,σb,hle1,hle0,hI,hs⟩
  have h23:=cellAt.mono g3 hle0
  refine .block (.af (.z zm (.z zg (.nil (.af (.z (zfa bn) (.y hs (zld ak) (.z (c9 ad) (.z zm ?_)))))))))
  refine .nil ?_
  refine .for (N:=s.wa.length) (J:=fun k fr w=>fr=[(3,I ((i*s.wa.length+k:Nat):Int)),(4,I (i:Int)),(9,I (i:Int)),(8,I (s.st.length:Int)),(0,.func (.yield ly) #[] #[]),(1,.pointer (some ⟨b,0,none⟩))]∧∃H3 σb,HLe H1 H3∧II (i*s.wa.length+k) H3 σb∧St H3 w (σb++σf)) aj ?_ ?_ ?_
  ·exact .mk ⟨rfl,H1,σb,HLe.refl _,hI,hs⟩
  ·rintro k fr w hk ⟨rfl,H3,σb3,hle3,hI3,hs⟩
   obtain ⟨d1,d2⟩:=D4 (nw:=s.wa.length) (i:=i) (k:=k) hk
   have hlt:=FH hi hk
   refine .block (.af (.z zm (.z zg (.nil (.af (.z zm (.z cC (.z zg (.nil ?_)))))))))
   refine .af (.z zm (.z zm (.z zm (.z zm (.z (zbd [_,_,_] pv) ?_)))))
   have hk':i*s.wa.length+k<(tp s).length:=by rw [dI];exact hlt
   have hyd:=hy (i*s.wa.length+k) hk' H3 σb3 σf w (hle1.trans hle3) hI3 hs
   rw [kY hk',d1,d2,show ((i*s.wa.length+k+1:Nat):Int)=((i*s.wa.length+k:Nat):Int)+1 by omega] at hyd
   refine .o (.yield rfl rfl hyd ?_);rintro v25 w ⟨H5,σ5,g1,hs,g3'⟩
   obtain ⟨bb,rfl,gT,gF⟩:=np g3'
   refine .z iq (.nil ?_)
   refine (.cond rfl (fun hc26=>?_) (fun hc26=>?_))
   ·refine .ret (rB (rT (rB (rB (rT (rB (Fin.Ec Tryz.results190 ?_)))))))
    exact ⟨H5,σ5,hle0.trans (hle3.trans g1),hs,.inr (gF (by simpa using hc26))⟩
   ·refine .skip ?_
    refine nB (nT ?_)
    exact .mk ⟨rfl,H5,σ5,hle3.trans g1,gT (by simpa using hc26),hs⟩
  ·rintro fr w ⟨rfl,H3,σb3,hle3,hI3,hs⟩
   have e:i*s.wa.length+s.wa.length=(i+1)*s.wa.length:=by rw [Nat.add_mul,Nat.one_mul]
   rw [e] at hI3 ⊢
   refine nB (nT ?_)
   exact .mk ⟨rfl,H3,σb3,hle1.trans hle3,hle0.trans hle3,hI3,hs⟩
 ·rintro fr w ⟨rfl,H1,σb,hle1,hle0,hI,hs⟩
  exact Fin.wm Tryz.results190 ⟨H1,σb,hle0,hs,.inl (by rw [dI];exact hI)⟩
theorem eG{s:Spc}{vst vwa:Value}(hs:St H w σ)(h1:RI H vst s.st)(h2:RI H vwa s.wa)(hbd:s.st.length≤1000∧s.wa.length≤1000):
  Cl Tryz.prog 103 [.agg #[I s.id,I s.src,vst,vwa,I s.al,I s.up]] w fun u w'=>∃H1 b,HLe H H1∧u= .func (.func 190) #[] #[.pointer (some ⟨b,0,none⟩)]∧Iter Tryz.prog 190 [.pointer (some ⟨b,0,none⟩)] H1 (tp s)∧St H1 w' σ:=by
 obtain ⟨ast,cst,rfl⟩:=RI.shape h1
 obtain ⟨awa,cwa,rfl⟩:=RI.shape h2
 refine Cl.o Tryz.func103 Tryz.ntmps103 ag1 ?_
 refine .af ?_
 refine .bx hs fun b1 w hs=>?_
 refine .z zg (.nil (.af ?_))
 refine .q hs (cU (f:=[]) (c:=[_]) rfl rfl) ?_
 refine .z zg (.nil ?_)
 refine .ret (Fin.bI Tryz.results103 rfl ?_)
 obtain ⟨H1,g1,g2,hs⟩:=hs.cf .here
 exact ⟨H1,b1,g1,rfl,oI g2 (h1.mono g1) (h2.mono g1) hbd,hs⟩
set_option maxRecDepth 100000 in
theorem oo:Tryz.prog.stoodInHeld 49=false:=by kernel_rfl
set_option maxRecDepth 100000 in
theorem oq:Tryz.prog.eqGuardType Tryz.prog.depth 49=false:=by kernel_rfl
theorem ny{v:Value}{en:Ent}{xs:List TD}{g:Nat}{cap:List Value}(q:TD→Bool)(hs:St H w (en::σ))(hO:bS 2 v (tdc xs).flatten en)(hl:xs.length≤1000000)(hc:∀args w,(callFunc g args).run Tryz.prog w= .ok (.enter g args) w)
  (hp:∀w (t:TD),St H w (en::σ)→Cl Tryz.prog g ([.agg #[I t.tape,I t.day]]++cap) w fun u w'=>u= .bool (q t)∧St H w' (en::σ)):
  Cl Tryz.prog 229 [v,.func (.func g) #[] cap.toArray] w fun u w'=>∃i:Int,u=I i∧(0≤i↔∃x∈xs,q x=true)∧St H w' (en::σ):=by
 obtain ⟨a,c,rfl⟩:=hO.fj (j5 xs) aj
 rw [da] at hO ⊢
 refine Cl.o Tryz.func229 Tryz.ntmps229 ag2 ?_
 refine .af (.z zg (.nil (.seq (.af (.z zm (.z (c9 aP) (.z zm (.nil ?_))))))))
 refine .for (N:=xs.length) (J:=fun k fr w=>fr=[(1,.func (.func g) #[] cap.toArray),(0,.slice a xs.length c)]∧(∀j<k,∀y,xs[j]? =some y→¬q y=true)∧St H w (en::σ)) aj ?_ ?_ ?_
 ·exact .mk ⟨rfl,fun j hj=>by omega,hs⟩
 ·rintro k fr w hk ⟨rfl,hno,hs⟩
  obtain ⟨x,hx⟩:=nth hk
  obtain ⟨b,c',sp,hv,rfl,_⟩:=hO.CO (j5 xs) aj (by rw [da];omega)
  rw [da] at hv
  cases hv
  refine .block (.af (.z zm (.z zg (.nil (.af (.z zm (.z zm (.z zm (.z (sO aP bq) ?_)))))))))
  refine .q hs (gU (vs:=x.c) rfl df bq .here (qh (j5 xs) (wB hx) sp)) ?_
  refine .o (.kT (first:=[]) (cap:=cap) rfl rfl hc (hp _ x hs) ?_);rintro _ w ⟨rfl,hs⟩
  refine .nil ?_
  refine (.cond rfl (fun hc16=>?_) (fun hc16=>?_))
  ·refine .af (.z zm (.z zg (.nil ?_)))
   refine .ret (rB (rT (rB (rT (Fin.bI Tryz.results229 rfl ?_)))))
   exact ⟨_,rfl,⟨fun _=>⟨x,List.mem_of_getElem? hx,hc16⟩,fun _=>by omega⟩,hs⟩
  ·refine .skip ?_
   refine nB (nT ?_)
   exact .mk ⟨rfl,ed hno hx (by simpa using hc16),hs⟩
 ·rintro fr w ⟨rfl,hno,hs⟩
  refine nT ?_
  refine .af (.z zg (.nil ?_))
  refine .ret (Fin.bI Tryz.results229 rfl ?_)
  exact ⟨_,rfl,⟨fun h=>by omega,fun ⟨x,h1,h2⟩=>by
   obtain ⟨j,hj⟩:=List.getElem?_of_mem h1
   exact (hno j (List.getElem?_eq_some_iff.1 hj).1 x hj h2).elim⟩,hs⟩
theorem lB{v:Value}{en:Ent}{xs:List TD}{g:Nat}{cap:List Value}(q:TD→Bool)(hs:St H w (en::σ))(hO:bS 2 v (tdc xs).flatten en)(hl:xs.length≤1000000)(hc:∀args w,(callFunc g args).run Tryz.prog w= .ok (.enter g args) w)
  (hp:∀w (t:TD),St H w (en::σ)→Cl Tryz.prog g ([.agg #[I t.tape,I t.day]]++cap) w fun u w'=>u= .bool (q t)∧St H w' (en::σ)):
  Cl Tryz.prog 172 [v,.func (.func g) #[] cap.toArray] w fun u w'=>∃b:Bool,u= .bool b∧(b=true↔∃x∈xs,q x=true)∧St H w' (en::σ):=by
 refine Cl.o Tryz.func172 Tryz.ntmps172 ag2 ?_
 refine .af (.z zg (.nil (.af (.z zm (.z zm ?_)))))
 refine .o (.call Tryz.call229 rfl (ny q hs hO hl hc hp) ?_);rintro _ w ⟨i,rfl,hi,hs⟩
 refine .z zk (.z zg (.nil ?_))
 refine .ret (Fin.bI Tryz.results172 rfl ?_)
 exact ⟨_,rfl,by simp only [decide_eq_true_eq];exact hi,hs⟩
theorem lS{v:Value}{xs:List TD}{t:TD}(hs:St H w σ)(hr:RTd H v xs)(hl:xs.length≤1000000):
  Cl Tryz.prog 89 [v,.agg #[I t.tape,I t.day]] w fun u w'=>u=I (gS xs t)∧St H w' σ:=by
 obtain ⟨a,c,rfl⟩:=RTd.shape hr
 refine Cl.o Tryz.func89 Tryz.ntmps89 ag2 ?_
 refine .af ?_
 refine .bx hs fun b3 w hs=>?_
 refine .z zg (.nil (.seq (.af (.z zm (.z (c9 aP) (.z zm (.nil ?_)))))))
 refine .for (N:=xs.length) (J:=fun k fr w=>fr=[(0,.slice a xs.length c),(3,.pointer (some ⟨b3,0,none⟩))]∧(∀j<k,∀y,xs[j]? =some y→¬y=t)∧St H w (.blk b3 [I t.tape,I t.day]::σ)) aj ?_ ?_ ?_
 ·exact .mk ⟨rfl,fun j hj=>by omega,hs⟩
 ·rintro k fr w hk ⟨rfl,hno,hs⟩
  obtain ⟨x,hx⟩:=nth hk
  refine .block (.af (.z zm (.z zg (.nil ?_))))
  refine .seq (.draw mix rfl hs fun w hs=>?_)
  refine .ys 0 rfl hs [_,_] df bq ?_;refine .z 1 rfl zm ?_;refine .z 2 rfl zm ?_
  refine .ixX (enc:=TD.c) (i:=3) hs rfl au .none hr rfl rfl aP bq hx dx ?_;intro b14 o14 hc14
  refine .r (i:=4) hs rfl au .none (cd (vs:=x.c) rfl df bq hc14) ?_
  refine .z 5 rfl (ld oo oq fh (fun f hf=>by
   simp only [List.mem_cons,List.not_mem_nil,or_false] at hf
   rcases hf with rfl|rfl<;>exact ⟨by decide,aQ,ae⟩) rfl rfl) ?_
  refine .D hs ?_
  refine (.cond rfl (fun hc16=>?_) (fun hc16=>?_))
  ·refine .af (.z zm (.z zg (.nil ?_)))
   refine .ret (rB (rT (rB (rT (Fin.bI Tryz.results89 rfl ?_)))))
   have e:x=t:=zw.1 (by have:=of_decide_eq_true hc16;exact ⟨this.1.symm,this.2.symm⟩)
   subst e
   exact ⟨by rw [lP hx fun j hj h=>hno j hj _ h rfl],hs.tail⟩
  ·refine .skip ?_
   refine nB (nT ?_)
   exact .mk ⟨rfl,ed hno hx (fun e=>by subst e;simp at hc16),hs⟩
 ·rintro fr w ⟨rfl,hno,hs⟩
  refine nT ?_
  refine .af (.z zg (.nil ?_))
  refine .ret (Fin.bI Tryz.results89 rfl ?_)
  exact ⟨by rw [qR hno],hs.tail⟩
theorem mL{t:TD}{r:Rdg}{b:Nat}(hs:St H w σ)(hb:Row H b r.c):
  Cl Tryz.prog 173 [.agg #[I t.tape,I t.day],.pointer (some ⟨b,0,none⟩)] w fun u w'=>u= .bool (decide (t=r.td))∧St H w' σ:=by
 have hb0:bQ H b 0 r.c:=hb.cells 0 r.c
 refine Cl.o Tryz.func173 Tryz.ntmps173 ag2 ?_
 refine .af ?_
 refine .bx hs fun b2 w hs=>?_
 refine .z zg (.nil ?_)
 refine .seq (.draw mix rfl hs fun w hs=>?_)
 refine .ys 0 rfl hs [_,_] df bq ?_;refine .ys 1 rfl hs [_,_,_,_,_,_,_] cg aD ?_
 refine .E 2 hs ?_
 refine .call FD rfl (ep hs) ?_;rintro _ w ⟨rfl,hs⟩
 refine .go ?_
 refine .z 3 rfl (ld oo oq fh (fun f hf=>by
  simp only [List.mem_cons,List.not_mem_nil,or_false] at hf
  rcases hf with rfl|rfl<;>exact ⟨by decide,aQ,ae⟩) rfl rfl) ?_
 refine .z 4 rfl zg ?_;refine .D hs ?_
 refine .ret (Fin.bI Tryz.results173 rfl ?_)
 exact ⟨by congr 1;rw [decide_eq_decide];exact zw (t:=t) (u:=r.td),hs.tail⟩
set_option maxHeartbeats 1000000 in
theorem kv{s:Srv}{vst vwa vr vc:Value}(hs:St H w σ)(hr:RRd H vr s.rs)(hl:s.rs.length≤1000000):
  Cl Tryz.prog 90 [.agg #[I s.sp.id,I s.sp.src,vst,vwa,I s.sp.al,I s.sp.up,vr,vc]] w fun u w'=>∃H1 en,HLe H H1∧bS 2 u (tdc s.bg).flatten en∧St H1 w' (en::σ):=by
 obtain ⟨ar,cr,rfl⟩:=RRd.shape hr
 refine Cl.o Tryz.func90 Tryz.ntmps90 ag1 ?_
 refine .af ?_
 refine .bx hs fun b1 w hs=>?_
 refine .z zg (.nil (.af (.z zg (.nil (.seq (.af (.z (zfa aZ) (.y hs (zld bZ) (.z (c9 aF) ?_)))))))))
 refine .z zm (.nil ?_)
 refine .for (N:=s.rs.length) (J:=fun k fr w=>∃vo en H1,fr=[(7,.slice ar s.rs.length cr),(3,vo)]∧HLe H H1∧bS 2 vo (tdc (aS (s.rs.take k))).flatten en∧St H1 w (en::σ)) aj ?_ ?_ ?_
 ·exact .mk ⟨_,.nul,H,rfl,HLe.refl _,.nil 2 none,hs.tail.nul⟩
 ·rintro k fr w hk ⟨vo,en,H1,rfl,hle1,hO,hs⟩
  obtain ⟨r,hx⟩:=nth hk
  have htk:=gY hx
  have htl:=js s.rs k aj
  obtain ⟨ao,co,rfl⟩:=hO.fj (j5 _) aj
  rw [da] at hO ⊢
  refine .block (.af ?_)
  refine .ixX (enc:=Rdg.c) hs (hr.mono hle1) rfl rfl aF aD hx dx ?_;intro b11 o11 hc11
  refine .q hs (cd (vs:=(Rdg.c r)) rfl cg aD hc11) ?_
  refine .o (.alloc hs bH rfl fun b5 w hs=>?_)
  refine .o (.aO (vs:=r.c) hs rfl rfl aD fun w hs=>?_)
  obtain ⟨H2,hle2,r5,hs⟩:=hs.cf (b:=b5) (c:=r.c) .here
  have c5:bQ H2 b5 0 r.c:=r5.cells 0 r.c
  refine .nil (.af (.z zm ?_))
  refine .q hs (cU (f:=[]) (c:=[_]) rfl rfl) ?_
  refine .o (.call Tryz.call172 rfl (lB (g:=173) (cap:=[.pointer (some ⟨b5,0,none⟩)]) (fun t=>decide (t=r.td)) hs hO aj Tryz.call173 (fun w t hs=>mL hs r5)) ?_);rintro _ w ⟨b15,rfl,hb15,hs⟩
  refine .z iq (.nil ?_)
  refine (.cond rfl (fun hc16=>?_) (fun hc16=>?_))
  ·refine .region (.z zm ?_)
   refine .q hs (cd (vs:=r.c) rfl cg aD c5) ?_
   refine .o (.call FD rfl (ep (r:=r) hs) ?_);rintro _ w ⟨rfl,hs⟩
   refine .o (.buildSlice (cells:=[_,_]) hs eY rfl rfl fun b20 w hs=>?_)
   refine .o (.append (ys:=r.td.c) hs dm rfl rfl hO (.own .here rfl rfl) (by simp [TD.c,Value.oneCell']) (fun l h=>by rw [bE _ (j5 _),da] at h;omega) ?_);intro v21 en21 w hO2 hs
   refine .z zg (.nil ?_)
   refine nB (nT ?_)
   have hn:r.td∉aS (s.rs.take k):=fun hm=>by
    rw [hb15.2 ⟨_,hm,cm⟩] at hc16;cases hc16
   rw [←qQ,show aS (s.rs.take k)++[r.td]=aS (s.rs.take (k+1)) by rw [htk];unfold mW;rw [if_neg hn]] at hO2
   exact .mk ⟨_,_,H2,rfl,hle1.trans hle2,hO2,hs.sb⟩
  ·refine .skip ?_
   refine nB (nT ?_)
   have hm:r.td∈aS (s.rs.take k):=by
    obtain ⟨x,h1,h2⟩:=hb15.1 (by simpa using hc16)
    rw [←of_decide_eq_true h2];exact h1
   exact .mk ⟨_,_,H2,rfl,hle1.trans hle2,by rw [htk];unfold mW;rw [if_pos hm];exact hO,hs⟩
 ·rintro fr w ⟨vo,en,H1,rfl,hle1,hO,hs⟩
  rw [List.take_length] at hO
  refine nT ?_
  refine .af (.z zm (.z zg (.nil ?_)))
  refine .ret (Fin.bI Tryz.results90 rfl ?_)
  exact ⟨H1,en,hle1,hO,hs⟩
theorem fJ{s:Srv}{vst vwa vr vc:Value}(hs:St H w σ)(hr:RRd H vr s.rs)(hl:s.rs.length≤1000000):
  Cl Tryz.prog 90 [.agg #[I s.sp.id,I s.sp.src,vst,vwa,I s.sp.al,I s.sp.up,vr,vc]] w fun u w'=>∃H1,HLe H H1∧RTd H1 u s.bg∧St H1 w' σ:=by
 refine (kv hs hr hl).mono ?_
 rintro u w' ⟨H1,en,hle1,hO,hs⟩
 have htl:=cH s.rs
 have htl':s.bg.length≤1000000:=by unfold Srv.bg;omega
 obtain ⟨H2,hle2,hR,hs⟩:=bS.cf (m:=2) hO (j5 _) aj (by rw [da];omega) hs .here
 exact ⟨H2,hle1.trans hle2,hR,hs⟩
theorem oz{v:Value}{en:Ent}{xs:List TD}{t:TD}(hs:St H w (en::σ))(hO:bS 2 v (tdc xs).flatten en)(hl:xs.length≤1000000):
  Cl Tryz.prog 89 [v,.agg #[I t.tape,I t.day]] w fun u w'=>u=I (gS xs t)∧St H w' (en::σ):=by
 obtain ⟨a,c,rfl⟩:=hO.fj (j5 xs) aj
 rw [da] at hO ⊢
 refine Cl.o Tryz.func89 Tryz.ntmps89 ag2 ?_
 refine .af ?_
 refine .bx hs fun b3 w hs=>?_
 refine .z zg (.nil (.seq (.af (.z zm (.z (c9 aP) (.z zm (.nil ?_)))))))
 refine .for (N:=xs.length) (J:=fun k fr w=>fr=[(0,.slice a xs.length c),(3,.pointer (some ⟨b3,0,none⟩))]∧(∀j<k,∀y,xs[j]? =some y→¬y=t)∧St H w (.blk b3 [I t.tape,I t.day]::en::σ)) aj ?_ ?_ ?_
 ·exact .mk ⟨rfl,fun j hj=>by omega,hs⟩
 ·rintro k fr w hk ⟨rfl,hno,hs⟩
  obtain ⟨x,hx⟩:=nth hk
  obtain ⟨b,c',sp,hv,rfl,_⟩:=hO.CO (j5 xs) aj (by rw [da];omega)
  rw [da] at hv
  cases hv
  refine .block (.af (.z zm (.z zg (.nil ?_))))
  refine .seq (.draw mix rfl hs fun w hs=>?_)
  refine .ys 0 rfl hs [_,_] df bq ?_;refine .z 1 rfl zm ?_;refine .z 2 rfl zm ?_;refine .z 3 rfl (sO aP bq) ?_
  refine .wS (i:=4) (vs:=x.c) hs rfl au .none rfl df bq ?_ (hv:=qh (j5 xs) (wB hx) sp)
  refine .z 5 rfl (ld oo oq fh (fun f hf=>by
   simp only [List.mem_cons,List.not_mem_nil,or_false] at hf
   rcases hf with rfl|rfl<;>exact ⟨by decide,aQ,ae⟩) rfl rfl) ?_
  refine .D hs ?_
  refine (.cond rfl (fun hc16=>?_) (fun hc16=>?_))
  ·refine .af (.z zm (.z zg (.nil ?_)))
   refine .ret (rB (rT (rB (rT (Fin.bI Tryz.results89 rfl ?_)))))
   have e:x=t:=zw.1 (by have:=of_decide_eq_true hc16;exact ⟨this.1.symm,this.2.symm⟩)
   subst e
   exact ⟨by rw [lP hx fun j hj h=>hno j hj _ h rfl],hs.tail⟩
  ·refine .skip ?_
   refine nB (nT ?_)
   exact .mk ⟨rfl,ed hno hx (fun e=>by subst e;simp at hc16),hs⟩
 ·rintro fr w ⟨rfl,hno,hs⟩
  refine nT ?_
  refine .af (.z zg (.nil ?_))
  refine .ret (Fin.bI Tryz.results89 rfl ?_)
  exact ⟨by rw [qR hno],hs.tail⟩
theorem eS{x0 x1 x2 x3 x4 x5 x6 x7 x8 vl:Value}{en:Ent}{bm:Nat}{ls:List Lim}{a b hi lo by_:Int}(hs:St H w (.blk bm [x0,x1,x2,x3,x4,x5,x6,x7,x8,vl]::en::σ))(hO:bS 4 vl (fy ls) en)(hl:ls.length≤100000):
  Cl Tryz.prog 115 [.pointer (some ⟨bm,0,none⟩),I a,I b,I hi,I lo,I by_] w fun _ w'=>∃vl' en',bS 4 vl' (fy (ls++two a b hi lo by_)) en'∧St H w' (.blk bm [x0,x1,x2,x3,x4,x5,x6,x7,x8,vl']::en'::σ):=by
 obtain ⟨al,ll,cl,rfl,h⟩:=hO.shape
 refine Cl.of Tryz.func115 rfl Tryz.ntmps115 cm (du (k:=0) rfl (du (k:=1) rfl (du (k:=2) rfl (du (k:=3) rfl (du (k:=4) rfl (du (k:=5) rfl (uz))))))) ?_
 refine .region (.z zm (.z zm (.z znc (.z (zfa fK) (.y hs (zld cA) (.z zm (.z zm (.z zm (.z zm ?_)))))))))
 refine .z (zbd [_,_,_,_] dQ) (.z zm (.z zm (.z zm (.z zm (.z (zbd [_,_,_,_] dQ) ?_)))))
 refine .o (.buildSlice (cells:=fy (two a b hi lo by_)) hs eO rfl au fun b27 w hs=>?_)
 refine .o (.append (ys:=fy (two a b hi lo by_)) hs bO rfl rfl hO (.own .here rfl rfl) (iR _) (fun l h=>by rw [dj] at h;omega) ?_);intro v28 en28 w hO2 hs
 rw [←fw] at hO2
 obtain ⟨a28,l28,c28,rfl,h28⟩:=hO2.shape
 refine .z znc (.z (zfa fK) ?_)
 refine .o (.store hs rfl rfl k7 fun w hs=>?_)
 refine .nil ?_
 exact Fin.wm Tryz.results115 ⟨_,_,hO2,hs.sb⟩
theorem ib{s:Spc}{vst vwa x6 x7 x8 vl:Value}{bm:Nat}{j:Int}(hs:St H w σ)(hm:Mem σ (.blk bm [I s.id,I s.src,vst,vwa,I s.al,I s.up,x6,x7,x8,vl]))(h1:RI H vst s.st)(h2:RI H vwa s.wa)(hb:s.st.length≤1000∧s.wa.length≤1000)(hj: -1≤j∧j≤1000):
  Cl Tryz.prog 116 [.pointer (some ⟨bm,0,none⟩),I j] w fun u w'=>u=I ((s.many:Int)+1+j)∧St H w' σ:=by
 have hmm:s.many≤1000000:=Nat.mul_le_mul hb.1 hb.2
 refine Cl.o Tryz.func116 Tryz.ntmps116 ag2 ?_
 refine .af (.z zg (.nil (.af (.z zm (.z znc (.z (zfa dd) (.z (zfa aK) ?_)))))))
 refine .q hs (gU (vs:=[I s.id,I s.src,vst,vwa,I s.al,I s.up]) rfl aM aE hm) ?_
 refine .o (.call Tryz.call91 rfl (fa (s:=s) hs h1 h2 hb) ?_);rintro _ w ⟨rfl,hs⟩
 refine .z cC (.z zm (.z cC (.z zg (.nil ?_))))
 refine .ret (Fin.bI Tryz.results116 rfl ?_)
 exact ⟨rfl,hs⟩
theorem dB{s:Spc}(h:ez s):s.st.length≤1000∧s.wa.length≤1000∧0<s.wa.length∧s.many≤63:=by
 have h1:=h.st.many;have h2:=h.wa.many;have h3:=h.wa.two
 have:s.many≤9*7:=Nat.mul_le_mul h1 h2
 omega
theorem nJ{s:Srv}{ts:List TD}{vst vwa vr vc vt vl:Value}{en:Ent}{bm:Nat}{ls:List Lim}(hs:St H w (.blk bm [I s.sp.id,I s.sp.src,vst,vwa,I s.sp.al,I s.sp.up,vr,vc,vt,vl]::en::σ))(hk:MkK H s ts vst vwa vr vc vt)(hO:bS 4 vl (fy ls) en)(hl:ls.length≤10000)(hok:ez s.sp):
  Cl Tryz.prog 174 [.pointer (some ⟨bm,0,none⟩)] w fun _ w'=>∃H1 vl' en',HLe H H1∧bS 4 vl' (fy (ls++dM (pb s.sp) s.sp.wa.length s.sp.st.length)) en'∧St H1 w' (.blk bm [I s.sp.id,I s.sp.src,vst,vwa,I s.sp.al,I s.sp.up,vr,vc,vt,vl']::en'::σ):=by
 have hsm:=dB hok
 refine Cl.o Tryz.func174 Tryz.ntmps174 ag1 ?_
 refine .af ?_
 refine .bx hs fun b1 w hs=>?_
 refine .nil (.af (.y hs (zld pD) (.z znc (.z (zfa dd) (.z (zfa aK) (.y hs (zls [_,_,_,_,_,_] aM aE) ?_))))))
 refine .o (.call zb rfl (eG (s:=s.sp) hs hk.st hk.wa ⟨aj,aj⟩) ?_);rintro _ w ⟨H1,ba,hle1,rfl,hit,hs⟩
 refine .nil (.block ?_)
 refine .rangeFunc (gf:=190) (cap:=[.pointer (some ⟨ba,0,none⟩)]) (xs:=tp s.sp) (σb:=[.blk bm [I s.sp.id,I s.sp.src,vst,vwa,I s.sp.al,I s.sp.up,vr,vc,vt,vl],en,.blk b1 [.pointer (some ⟨bm,0,none⟩)]]) (σf:=σ) (hs.sb) trivial rfl hit za (fun x hx=>by
   simp only [tp,List.mem_map] at hx
   obtain ⟨j,_,rfl⟩:=hx;rfl) rfl
  (I:=fun p H' σb=>∃vl en,σb=[.blk bm [I s.sp.id,I s.sp.src,vst,vwa,I s.sp.al,I s.sp.up,vr,vc,vt,vl],en,.blk b1 [.pointer (some ⟨bm,0,none⟩)]]∧bS 4 vl (fy (ls++oO (pb s.sp) s.sp.wa.length p)) en) (Ix:=fun _ _ _=>False)
  (fun j _ _ σ g1 g2=>g2) (fun _ _ _ _ _ h=>h) ⟨vl,en,rfl,by rw [mz,List.append_nil];exact hO⟩ ?_ ?_ (fun D c H' σb w _ h _=>h.elim)
 ·rintro ly p hp H2 σb2 σf2 w hle2 ⟨vl,en,rfl,hO⟩ hs ⟨rr,hrr⟩
  have hpm:p<s.sp.many:=by rw [dI] at hp;exact hp
  have hsucc:=mA (pb s.sp) (p:=p) hsm.2.2.1
  have hpl:=iK (kU s.sp) hsm.2.2.1 p
  have hin:p/s.sp.wa.length<s.sp.st.length:=Nat.div_lt_of_lt_mul (by rw [Nat.mul_comm];exact hpm)
  have hkm:=Nat.mod_lt p hsm.2.2.1
  have hdm:=Nat.div_add_mod p s.sp.wa.length
  rw [Nat.mul_comm] at hdm
  have hu:(s.sp.u (p/s.sp.wa.length) (p%s.sp.wa.length):Int)=(p:Int)+1:=by unfold Spc.u;omega
  rw [kY hp]
  obtain ⟨al,ll,cl,rfl,hll⟩:=hO.shape
  generalize p/s.sp.wa.length=i at*
  generalize p%s.sp.wa.length=k at*
  have hk2:=hk.mono (hle1.trans hle2)
  refine .region ?_
  refine .o (.alloc hs jn rfl fun b2 w hs=>?_)
  refine .o (.aO (vs:=[_,_,_]) hs rfl rfl mX fun w hs=>?_)
  refine .nil ?_
  refine nT ?_
  refine ⟨H2,[.blk b2 [I (i:Int),I (k:Int),I ((p+1:Nat):Int)],.blk bm [I s.sp.id,I s.sp.src,vst,vwa,I s.sp.al,I s.sp.up,vr,vc,vt,.slice al ll cl],en,.blk b1 [.pointer (some ⟨bm,0,none⟩)]],HLe.refl _,hs,?_⟩;rintro w σf4 - hs
  refine .block ?_
  refine .draw mix rfl hs fun w hs=>?_
  refine .y 0 rfl hs pD ?_;refine .z 1 rfl (zfa dN) ?_;refine .y 2 rfl hs ae ?_;refine .y 3 rfl hs pD ?_;refine .z 4 rfl znc ?_;refine .z 5 rfl (zfa dd) ?_;refine .z 6 rfl (zfa aK) ?_;refine .z 7 rfl (zfa dh) ?_;refine .y 8 rfl hs ae ?_
  refine .E 9 hs ?_
  refine .call so rfl (eS (ls:=ls++oO (pb s.sp) s.sp.wa.length p) (hs.sb:St H2 w (.blk bm _::en:: .blk b1 _::σf4)) hO (by rw [List.length_append];omega)) ?_;rintro _ w ⟨vl3,en3,hO3,hs⟩
  rw [show two 0 ((p+1:Nat):Int) 20000 0 s.sp.src=pb s.sp i k by unfold pb;rw [hu];rfl,List.append_assoc,←hsucc] at hO3
  refine .go ?_
  refine .D hs ?_
  refine nB ?_
  exact ⟨H2,_,HLe.refl _,hs,_,_,rfl,hO3⟩
 ·rintro D H2 σb2 w hle2 ⟨vl,en,rfl,hO⟩ hs
  rw [dI,show s.sp.many=s.sp.st.length*s.sp.wa.length from rfl,oN _ hsm.2.2.1] at hO
  refine nB ?_
  exact Fin.EY [D] [] hs fun w hs=>⟨_,results0 Tryz.results174,H2,vl,en,hle1.trans hle2,hO,(hs.sb:St H2 w (.blk bm _::en::σ))⟩
theorem qD{s:Srv}{ts:List TD}{vst vwa vr vc vt vl:Value}{en:Ent}{bm:Nat}{ls:List Lim}(hs:St H w (.blk bm [I s.sp.id,I s.sp.src,vst,vwa,I s.sp.al,I s.sp.up,vr,vc,vt,vl]::en::σ))(hk:MkK H s ts vst vwa vr vc vt)(hO:bS 4 vl (fy ls) en)(hl:ls.length≤10000)(hok:ez s.sp):
  Cl Tryz.prog 175 [.pointer (some ⟨bm,0,none⟩)] w fun _ w'=>∃H1 vl' en',HLe H H1∧bS 4 vl' (fy (ls++dM (alL s.sp) s.sp.wa.length s.sp.st.length)) en'∧St H1 w' (.blk bm [I s.sp.id,I s.sp.src,vst,vwa,I s.sp.al,I s.sp.up,vr,vc,vt,vl']::en'::σ):=by
 have hsm:=dB hok
 obtain ⟨ast,cst,rfl⟩:=RI.shape hk.st
 obtain ⟨awa,cwa,rfl⟩:=RI.shape hk.wa
 refine Cl.o Tryz.func175 Tryz.ntmps175 ag1 ?_
 refine .af ?_
 refine .bx hs fun b1 w hs=>?_
 refine .nil (.af (.y hs (zld pD) (.z znc (.z (zfa dd) (.z (zfa aK) (.y hs (zls [_,_,_,_,_,_] aM aE) ?_))))))
 refine .o (.alloc hs im rfl fun b2 w hs=>?_)
 refine .o (.aO (vs:=[_,_,_,_,_,_]) hs rfl rfl aE fun w hs=>?_)
 refine .nil (.af (.y hs (zls [_,_,_,_,_,_] aM aE) ?_))
 refine .o (.call zb rfl (eG (s:=s.sp) hs hk.st hk.wa ⟨aj,aj⟩) ?_);rintro _ w ⟨H1,ba,hle1,rfl,hit,hs⟩
 refine .nil (.block ?_)
 refine .rangeFunc (gf:=190) (cap:=[.pointer (some ⟨ba,0,none⟩)]) (xs:=tp s.sp) (σb:=[.blk bm [I s.sp.id,I s.sp.src,.slice ast s.sp.st.length cst,.slice awa s.sp.wa.length cwa,I s.sp.al,I s.sp.up,vr,vc,vt,vl],en,.blk b1 [.pointer (some ⟨bm,0,none⟩)],.blk b2 [I s.sp.id,I s.sp.src,.slice ast s.sp.st.length cst,.slice awa s.sp.wa.length cwa,I s.sp.al,I s.sp.up]]) (σf:=σ) (hs.sb) trivial rfl hit za (fun x hx=>by
   simp only [tp,List.mem_map] at hx
   obtain ⟨j,_,rfl⟩:=hx;rfl) rfl
  (I:=fun p H' σb=>∃vl en,σb=[.blk bm [I s.sp.id,I s.sp.src,.slice ast s.sp.st.length cst,.slice awa s.sp.wa.length cwa,I s.sp.al,I s.sp.up,vr,vc,vt,vl],en,.blk b1 [.pointer (some ⟨bm,0,none⟩)],.blk b2 [I s.sp.id,I s.sp.src,.slice ast s.sp.st.length cst,.slice awa s.sp.wa.length cwa,I s.sp.al,I s.sp.up]]∧bS 4 vl (fy (ls++oO (alL s.sp) s.sp.wa.length p)) en) (Ix:=fun _ _ _=>False)
  (fun j _ _ σ g1 g2=>g2) (fun _ _ _ _ _ h=>h) ⟨vl,en,rfl,by rw [mz,List.append_nil];exact hO⟩ ?_ ?_ (fun D c H' σb w _ h _=>h.elim)
 ·rintro ly p hp H2 σb2 σf2 w hle2 ⟨vl,en,rfl,hO⟩ hs ⟨rr,hrr⟩
  have hpm:p<s.sp.many:=by rw [dI] at hp;exact hp
  have hsucc:=mA (alL s.sp) (p:=p) hsm.2.2.1
  have hpl:=iK (nR s.sp) hsm.2.2.1 p
  have hin:p/s.sp.wa.length<s.sp.st.length:=Nat.div_lt_of_lt_mul (by rw [Nat.mul_comm];exact hpm)
  have hkm:=Nat.mod_lt p hsm.2.2.1
  have hdm:=Nat.div_add_mod p s.sp.wa.length
  rw [Nat.mul_comm] at hdm
  have hu:(s.sp.u (p/s.sp.wa.length) (p%s.sp.wa.length):Int)=(p:Int)+1:=by unfold Spc.u;omega
  rw [kY hp]
  obtain ⟨al,ll,cl,rfl,hll⟩:=hO.shape
  generalize p/s.sp.wa.length=i at*
  generalize p%s.sp.wa.length=k at*
  have hk2:=hk.mono (hle1.trans hle2)
  refine .region ?_
  refine .o (.alloc hs jn rfl fun b3 w hs=>?_)
  refine .o (.aO (vs:=[_,_,_]) hs rfl rfl mX fun w hs=>?_)
  refine .nil ?_
  refine nT ?_
  refine ⟨H2,[.blk b3 [I (i:Int),I (k:Int),I ((p+1:Nat):Int)],.blk bm [I s.sp.id,I s.sp.src,.slice ast s.sp.st.length cst,.slice awa s.sp.wa.length cwa,I s.sp.al,I s.sp.up,vr,vc,vt,.slice al ll cl],en,.blk b1 [.pointer (some ⟨bm,0,none⟩)],.blk b2 [I s.sp.id,I s.sp.src,.slice ast s.sp.st.length cst,.slice awa s.sp.wa.length cwa,I s.sp.al,I s.sp.up]],HLe.refl _,hs,?_⟩;rintro w σf4 - hs
  refine .block (.af (.z (zfa cZ) (.y hs (zld ae) (.z cC (.z (zfa bu) (.y hs (zld ak) (.z (c9 ad) (.z gp (.nil ?_)))))))))
  refine (.ck rfl (fun hc19=>?_) (fun hc19=>?_))
  ·refine .seq (.draw mix rfl hs fun w hs=>?_)
   refine .z 0 rfl (zfa eU) ?_;refine .z 1 rfl (zfa kS) ?_;refine .y 2 rfl hs ae ?_;refine .z 3 rfl (zfa bu) ?_;refine .y 4 rfl hs ak ?_;refine .z 5 rfl (zfa cZ) ?_;refine .y 6 rfl hs ae ?_;refine .z 7 rfl cC ?_
   have hris:=hok.st.rise i aj
   have hq0:=hok.st.bd (i:=i) aj
   have hq1:=hok.st.bd (i:=i+1) aj
   have hal:=hok.al
   refine .ixX (enc:=fun x=>[I x]) (i:=8) hs rfl au .none hk2.st rfl rfl ad ai (bJ (l:=s.sp.st) (i:=(i+1)) aj) dx ?_;intro b28 o28 hc28;replace hc28:=bQ.one hc28
   refine .r (i:=9) hs rfl au .none (bh rfl ae hc28) ?_
   refine .z 10 rfl (zfa bu) ?_;refine .y 11 rfl hs ak ?_;refine .z 12 rfl (zfa cZ) ?_;refine .y 13 rfl hs ae ?_
   refine .ixX (enc:=fun x=>[I x]) (i:=14) hs rfl au .none hk2.st rfl rfl ad ai (bJ (l:=s.sp.st) (i:=i) aj) dx ?_;intro b34 o34 hc34;replace hc34:=bQ.one hc34
   refine .r (i:=15) hs rfl au .none (bh rfl ae hc34) ?_
   refine .z 16 rfl hZ ?_
   refine .E 17 hs ?_
   refine .call Tryz.call230 rfl (kx hs aj aj) ?_;rintro _ w ⟨rfl,hs⟩
   refine .go ?_
   refine .z 18 rfl zg ?_;refine .D hs ?_
   refine .region (.y hs (zld pD) (.z (zfa dN) (.y hs (zld ae) (.z (zfa dN) (.y hs (zld ae) (.z (zfa bn) (.y hs (zld ak) (.z (c9 ad) (.z cC ?_)))))))))
   refine .z zm (.z zm (.z (zfa dh) (.y hs (zld ae) ?_)))
   refine .o (.call so rfl (eS (ls:=ls++oO (alL s.sp) s.sp.wa.length p) (hs.sb:St H2 w (.blk bm _::en:: .blk b1 _:: .blk b2 _::σf4)) hO (by rw [List.length_append];omega)) ?_);rintro _ w ⟨vl3,en3,hO3,hs⟩
   have hu2:(s.sp.u (i+1) k:Int)=((p+1:Nat):Int)+(s.sp.wa.length:Int):=by unfold Spc.u at hu ⊢;rw [Nat.add_mul];omega
   rw [show two ((p+1:Nat):Int) (((p+1:Nat):Int)+(s.sp.wa.length:Int)) (iT s.sp.al (gi s.sp.st (i+1) - gi s.sp.st i)) (iT s.sp.al (gi s.sp.st (i+1) - gi s.sp.st i)) s.sp.src=alL s.sp i k by unfold alL;rw [if_pos aj,hu,hu2];rfl,List.append_assoc,←hsucc] at hO3
   refine .nil ?_
   refine nB ?_
   exact ⟨H2,_,HLe.refl _,hs,_,_,rfl,hO3⟩
  ·refine .skip ?_
   refine nB ?_
   rw [show alL s.sp i k=[] by unfold alL;rw [if_neg aj],List.append_nil] at hsucc
   exact ⟨H2,_,HLe.refl _,(hs.sb:St H2 w (.blk bm _::en:: .blk b1 _:: .blk b2 _::σf4)),_,_,rfl,by rw [hsucc];exact hO⟩
 ·rintro D H2 σb2 w hle2 ⟨vl,en,rfl,hO⟩ hs
  rw [dI,show s.sp.many=s.sp.st.length*s.sp.wa.length from rfl,oN _ hsm.2.2.1] at hO
  refine nB ?_
  exact Fin.EY [D] [] hs fun w hs=>⟨_,results0 Tryz.results175,H2,vl,en,hle1.trans hle2,hO,(hs.sb:St H2 w (.blk bm _::en::σ))⟩
theorem tP{s:Srv}{ts:List TD}{vst vwa vr vc vt vl:Value}{en:Ent}{bm:Nat}{ls:List Lim}(hs:St H w (.blk bm [I s.sp.id,I s.sp.src,vst,vwa,I s.sp.al,I s.sp.up,vr,vc,vt,vl]::en::σ))(hk:MkK H s ts vst vwa vr vc vt)(hO:bS 4 vl (fy ls) en)(hl:ls.length≤10000)(hok:ez s.sp):
  Cl Tryz.prog 176 [.pointer (some ⟨bm,0,none⟩)] w fun _ w'=>∃H1 vl' en',HLe H H1∧bS 4 vl' (fy (ls++dM (upL s.sp) s.sp.wa.length s.sp.st.length)) en'∧St H1 w' (.blk bm [I s.sp.id,I s.sp.src,vst,vwa,I s.sp.al,I s.sp.up,vr,vc,vt,vl']::en'::σ):=by
 have hsm:=dB hok
 obtain ⟨ast,cst,rfl⟩:=RI.shape hk.st
 obtain ⟨awa,cwa,rfl⟩:=RI.shape hk.wa
 refine Cl.o Tryz.func176 Tryz.ntmps176 ag1 ?_
 refine .af ?_
 refine .bx hs fun b1 w hs=>?_
 refine .nil (.af (.y hs (zld pD) (.z znc (.z (zfa dd) (.z (zfa aK) (.y hs (zls [_,_,_,_,_,_] aM aE) ?_))))))
 refine .o (.alloc hs im rfl fun b2 w hs=>?_)
 refine .o (.aO (vs:=[_,_,_,_,_,_]) hs rfl rfl aE fun w hs=>?_)
 refine .nil (.af (.y hs (zls [_,_,_,_,_,_] aM aE) ?_))
 refine .o (.call zb rfl (eG (s:=s.sp) hs hk.st hk.wa ⟨aj,aj⟩) ?_);rintro _ w ⟨H1,ba,hle1,rfl,hit,hs⟩
 refine .nil (.block ?_)
 refine .rangeFunc (gf:=190) (cap:=[.pointer (some ⟨ba,0,none⟩)]) (xs:=tp s.sp) (σb:=[.blk bm [I s.sp.id,I s.sp.src,.slice ast s.sp.st.length cst,.slice awa s.sp.wa.length cwa,I s.sp.al,I s.sp.up,vr,vc,vt,vl],en,.blk b1 [.pointer (some ⟨bm,0,none⟩)],.blk b2 [I s.sp.id,I s.sp.src,.slice ast s.sp.st.length cst,.slice awa s.sp.wa.length cwa,I s.sp.al,I s.sp.up]]) (σf:=σ) (hs.sb) trivial rfl hit za (fun x hx=>by
   simp only [tp,List.mem_map] at hx
   obtain ⟨j,_,rfl⟩:=hx;rfl) rfl
  (I:=fun p H' σb=>∃vl en,σb=[.blk bm [I s.sp.id,I s.sp.src,.slice ast s.sp.st.length cst,.slice awa s.sp.wa.length cwa,I s.sp.al,I s.sp.up,vr,vc,vt,vl],en,.blk b1 [.pointer (some ⟨bm,0,none⟩)],.blk b2 [I s.sp.id,I s.sp.src,.slice ast s.sp.st.length cst,.slice awa s.sp.wa.length cwa,I s.sp.al,I s.sp.up]]∧bS 4 vl (fy (ls++oO (upL s.sp) s.sp.wa.length p)) en) (Ix:=fun _ _ _=>False)
  (fun j _ _ σ g1 g2=>g2) (fun _ _ _ _ _ h=>h) ⟨vl,en,rfl,by rw [mz,List.append_nil];exact hO⟩ ?_ ?_ (fun D c H' σb w _ h _=>h.elim)
 ·rintro ly p hp H2 σb2 σf2 w hle2 ⟨vl,en,rfl,hO⟩ hs ⟨rr,hrr⟩
  have hpm:p<s.sp.many:=by rw [dI] at hp;exact hp
  have hsucc:=mA (upL s.sp) (p:=p) hsm.2.2.1
  have hpl:=iK (nu s.sp) hsm.2.2.1 p
  have hin:p/s.sp.wa.length<s.sp.st.length:=Nat.div_lt_of_lt_mul (by rw [Nat.mul_comm];exact hpm)
  have hkm:=Nat.mod_lt p hsm.2.2.1
  have hdm:=Nat.div_add_mod p s.sp.wa.length
  rw [Nat.mul_comm] at hdm
  have hu:(s.sp.u (p/s.sp.wa.length) (p%s.sp.wa.length):Int)=(p:Int)+1:=by unfold Spc.u;omega
  rw [kY hp]
  obtain ⟨al,ll,cl,rfl,hll⟩:=hO.shape
  generalize p/s.sp.wa.length=i at*
  generalize p%s.sp.wa.length=k at*
  have hk2:=hk.mono (hle1.trans hle2)
  refine .region ?_
  refine .o (.alloc hs jn rfl fun b3 w hs=>?_)
  refine .o (.aO (vs:=[_,_,_]) hs rfl rfl mX fun w hs=>?_)
  refine .nil ?_
  refine nT ?_
  refine ⟨H2,[.blk b3 [I (i:Int),I (k:Int),I ((p+1:Nat):Int)],.blk bm [I s.sp.id,I s.sp.src,.slice ast s.sp.st.length cst,.slice awa s.sp.wa.length cwa,I s.sp.al,I s.sp.up,vr,vc,vt,.slice al ll cl],en,.blk b1 [.pointer (some ⟨bm,0,none⟩)],.blk b2 [I s.sp.id,I s.sp.src,.slice ast s.sp.st.length cst,.slice awa s.sp.wa.length cwa,I s.sp.al,I s.sp.up]],HLe.refl _,hs,?_⟩;rintro w σf4 - hs
  refine .block (.af (.z (zfa cI) (.y hs (zld ae) (.z cC (.z (zfa bn) (.y hs (zld ak) (.z (c9 ad) (.z gp (.nil ?_)))))))))
  refine (.ck rfl (fun hc19=>?_) (fun hc19=>?_))
  ·refine .seq (.draw mix rfl hs fun w hs=>?_)
   refine .z 0 rfl (zfa eU) ?_;refine .z 1 rfl (zfa kR) ?_;refine .y 2 rfl hs ae ?_;refine .z 3 rfl (zfa bn) ?_;refine .y 4 rfl hs ak ?_;refine .z 5 rfl (zfa cI) ?_;refine .y 6 rfl hs ae ?_;refine .z 7 rfl cC ?_
   have hris:=hok.wa.rise k aj
   have hq0:=hok.wa.bd (i:=k) aj
   have hq1:=hok.wa.bd (i:=k+1) aj
   have hal:=hok.up
   refine .ixX (enc:=fun x=>[I x]) (i:=8) hs rfl au .none hk2.wa rfl rfl ad ai (bJ (l:=s.sp.wa) (i:=(k+1)) aj) dx ?_;intro b28 o28 hc28;replace hc28:=bQ.one hc28
   refine .r (i:=9) hs rfl au .none (bh rfl ae hc28) ?_
   refine .z 10 rfl (zfa bn) ?_;refine .y 11 rfl hs ak ?_;refine .z 12 rfl (zfa cI) ?_;refine .y 13 rfl hs ae ?_
   refine .ixX (enc:=fun x=>[I x]) (i:=14) hs rfl au .none hk2.wa rfl rfl ad ai (bJ (l:=s.sp.wa) (i:=k) aj) dx ?_;intro b34 o34 hc34;replace hc34:=bQ.one hc34
   refine .r (i:=15) hs rfl au .none (bh rfl ae hc34) ?_
   refine .z 16 rfl hZ ?_
   refine .E 17 hs ?_
   refine .call Tryz.call230 rfl (kx hs aj aj) ?_;rintro _ w ⟨rfl,hs⟩
   refine .go ?_
   refine .z 18 rfl zg ?_;refine .D hs ?_
   refine .region (.y hs (zld pD) (.z (zfa dN) (.y hs (zld ae) (.z (zfa dN) (.y hs (zld ae) (.z cC (.z zm (.z zm (.z (zfa dh) ?_)))))))))
   refine .y hs (zld ae) ?_
   refine .o (.call so rfl (eS (ls:=ls++oO (upL s.sp) s.sp.wa.length p) (hs.sb:St H2 w (.blk bm _::en:: .blk b1 _:: .blk b2 _::σf4)) hO (by rw [List.length_append];omega)) ?_);rintro _ w ⟨vl3,en3,hO3,hs⟩
   have hu2:(s.sp.u i (k+1):Int)=((p+1:Nat):Int)+1:=by unfold Spc.u at hu ⊢;omega
   rw [show two ((p+1:Nat):Int) (((p+1:Nat):Int)+1) (iT s.sp.up (gi s.sp.wa (k+1) - gi s.sp.wa k)) (iT s.sp.up (gi s.sp.wa (k+1) - gi s.sp.wa k)) s.sp.src=upL s.sp i k by unfold upL;rw [if_pos aj,hu,hu2];rfl,List.append_assoc,←hsucc] at hO3
   refine .nil ?_
   refine nB ?_
   exact ⟨H2,_,HLe.refl _,hs,_,_,rfl,hO3⟩
  ·refine .skip ?_
   refine nB ?_
   rw [show upL s.sp i k=[] by unfold upL;rw [if_neg aj],List.append_nil] at hsucc
   exact ⟨H2,_,HLe.refl _,(hs.sb:St H2 w (.blk bm _::en:: .blk b1 _:: .blk b2 _::σf4)),_,_,rfl,by rw [hsucc];exact hO⟩
 ·rintro D H2 σb2 w hle2 ⟨vl,en,rfl,hO⟩ hs
  rw [dI,show s.sp.many=s.sp.st.length*s.sp.wa.length from rfl,oN _ hsm.2.2.1] at hO
  refine nB ?_
  exact Fin.EY [D] [] hs fun w hs=>⟨_,results0 Tryz.results176,H2,vl,en,hle1.trans hle2,hO,(hs.sb:St H2 w (.blk bm _::en::σ))⟩
theorem pY{s:Srv}{ts:List TD}{vst vwa vr vc vt vl:Value}{en:Ent}{bm:Nat}{ls:List Lim}(hs:St H w (.blk bm [I s.sp.id,I s.sp.src,vst,vwa,I s.sp.al,I s.sp.up,vr,vc,vt,vl]::en::σ))(hk:MkK H s ts vst vwa vr vc vt)(hO:bS 4 vl (fy ls) en)(hl:ls.length≤10000)(hok:ez s.sp)(htl:ts.length≤100):
  Cl Tryz.prog 177 [.pointer (some ⟨bm,0,none⟩)] w fun _ w'=>∃H1 vl' en',HLe H H1∧bS 4 vl' (fy (ls++ti s.sp ts.length)) en'∧St H1 w' (.blk bm [I s.sp.id,I s.sp.src,vst,vwa,I s.sp.al,I s.sp.up,vr,vc,vt,vl']::en'::σ):=by
 have hsm:=dB hok
 obtain ⟨at_,ct,rfl⟩:=RTd.shape hk.ts
 refine Cl.o Tryz.func177 Tryz.ntmps177 ag1 ?_
 refine .af (.z zm (.z znc (.z (zfa eL) (.y hs (zld Fz) (.z (c9 aP) (.z zm (.nil ?_)))))))
 refine .for (N:=ts.length) (J:=fun j fr w=>fr=[(0,.pointer (some ⟨bm,0,none⟩))]∧∃vl en,bS 4 vl (fy (ls++ti s.sp j)) en∧St H w (.blk bm [I s.sp.id,I s.sp.src,vst,vwa,I s.sp.al,I s.sp.up,vr,vc,.slice at_ ts.length ct,vl]::en::σ)) aj ?_ ?_ ?_
 ·exact .mk ⟨rfl,vl,en,by show bS 4 vl (fy (ls++[])) en;rw [List.append_nil];exact hO,hs⟩
 ·rintro j fr w hj ⟨rfl,vl,en,hO,hs⟩
  have hel:=fu s.sp j
  obtain ⟨al,ll,cl,rfl,hll⟩:=hO.shape
  refine .block (.af (.z zm (.z zg (.nil ?_))))
  refine .draw mix rfl hs fun w hs=>?_
  refine .z 0 rfl zm ?_;refine .z 1 rfl zm ?_;refine .z 2 rfl zm ?_;refine .z 4 rfl zm ?_;refine .z 5 rfl znc ?_;refine .z 6 rfl (zfa dd) ?_;refine .z 7 rfl (zfa aK) ?_;refine .z 8 rfl (zfa dh) ?_;refine .y 9 rfl hs ae ?_
  refine .E 3 hs ?_
  refine .call Tryz.call116 rfl (ib (s:=s.sp) hs .here hk.st hk.wa ⟨aj,aj⟩ ⟨aj,aj⟩) ?_;rintro _ w ⟨rfl,hs⟩
  refine .go ?_
  refine .E 10 hs ?_
  refine .call so rfl (eS (ls:=ls++ti s.sp j) hs hO (by rw [List.length_append];omega)) ?_;rintro _ w ⟨vl3,en3,hO3,hs⟩
  rw [show (s.sp.many:Int)+1+(j:Int)=((s.sp.many+1+j:Nat):Int) by omega,List.append_assoc] at hO3
  refine .go ?_
  refine .D hs ?_
  refine nB (nT ?_)
  exact .mk ⟨rfl,vl3,en3,hO3,hs⟩
 ·rintro fr w ⟨rfl,vl,en,hO,hs⟩
  exact Fin.wm Tryz.results177 ⟨H,vl,en,HLe.refl _,hO,hs⟩
set_option maxHeartbeats 1000000 in
theorem jA{s:Srv}{ts:List TD}{vst vwa vr vc vt vl:Value}{en:Ent}{bm:Nat}{ls:List Lim}(hs:St H w (.blk bm [I s.sp.id,I s.sp.src,vst,vwa,I s.sp.al,I s.sp.up,vr,vc,vt,vl]::en::σ))(hk:MkK H s ts vst vwa vr vc vt)(hO:bS 4 vl (fy ls) en)(hl:ls.length≤10000)(hok:ez s.sp)(htl:ts.length≤100)(hcl:s.cs.length≤20)(hc:∀c∈s.cs,nY c){j0:Nat}(hj0:j0≤ts.length):
  Cl Tryz.prog 117 [.pointer (some ⟨bm,0,none⟩),I (j0:Int)] w fun _ w'=>∃H1 vl' en',HLe H H1∧bS 4 vl' (fy (ls++nM s.sp ts s.cs j0 s.cs.length)) en'∧St H1 w' (.blk bm [I s.sp.id,I s.sp.src,vst,vwa,I s.sp.al,I s.sp.up,vr,vc,vt,vl']::en'::σ):=by
 have hsm:=dB hok
 obtain ⟨at_,ct,rfl⟩:=RTd.shape hk.ts
 obtain ⟨ac,cc,rfl⟩:=RCm.shape hk.cs
 refine Cl.o Tryz.func117 Tryz.ntmps117 ag2 ?_
 refine .af (.z zm (.z znc (.z (zfa dd) (.z (zfa bT) (.y hs (zld fO) (.z (c9 bk) (.z zm (.nil ?_))))))))
 refine .for (N:=s.cs.length) (J:=fun i fr w=>fr=[(12,.slice ac s.cs.length cc),(0,.pointer (some ⟨bm,0,none⟩)),(1,I (j0:Int))]∧∃vl en,bS 4 vl (fy (ls++nM s.sp ts s.cs j0 i)) en∧St H w (.blk bm [I s.sp.id,I s.sp.src,vst,vwa,I s.sp.al,I s.sp.up,vr,.slice ac s.cs.length cc,.slice at_ ts.length ct,vl]::en::σ)) aj ?_ ?_ ?_
 ·exact .mk ⟨rfl,vl,en,by show bS 4 vl (fy (ls++[])) en;rw [List.append_nil];exact hO,hs⟩
 ·rintro i fr w hi ⟨rfl,vl,en,hO,hs⟩
  obtain ⟨c,hx⟩:=nth hi
  obtain ⟨g1,g2,g3,g4,g5,g6⟩:=hc c (List.mem_of_getElem? hx)
  have hcl1:=fW s.sp ts s.cs j0 i
  have hcl2:i*(2*(ts.length - j0))≤20*(2*100):=Nat.mul_le_mul aj aj
  refine .block (.af ?_)
  refine .ixX (enc:=Cmp.c) hs hk.cs rfl rfl bk bG hx dx ?_;intro b16 o16 hc16
  refine .q hs (cd (vs:=(Cmp.c c)) rfl jh bG hc16) ?_
  refine .o (.alloc hs fB rfl fun b5 w hs=>?_)
  refine .o (.aO (vs:=c.c) hs rfl rfl bG fun w hs=>?_)
  replace hs:St H w (.blk bm [I s.sp.id,I s.sp.src,vst,vwa,I s.sp.al,I s.sp.up,vr,.slice ac s.cs.length cc,.slice at_ ts.length ct,vl]::en:: .blk b5 [I c.src,I c.tape,I c.fr,I c.to,I c.lo,I c.hi]::σ):=hs.sb
  refine .nil (.af (.z zm (.z zg (.nil (.block ?_)))))
  refine .loop (fun j:Nat=>⟨62,[],[(6,I ((j0+j:Nat):Int)),(5,.pointer (some ⟨b5,0,none⟩)),(14,I (i:Int)),(13,I (s.cs.length:Int)),(12,.slice ac s.cs.length cc),(0,.pointer (some ⟨bm,0,none⟩)),(1,I (j0:Int))]⟩)
   (fun j w=>j0+j≤ts.length∧∃vl en,bS 4 vl (fy (ls++nM s.sp ts s.cs j0 i++iP s.sp ts c j0 j)) en∧St H w (.blk bm [I s.sp.id,I s.sp.src,vst,vwa,I s.sp.al,I s.sp.up,vr,.slice ac s.cs.length cc,.slice at_ ts.length ct,vl]::en:: .blk b5 [I c.src,I c.tape,I c.fr,I c.to,I c.lo,I c.hi]::σ)) (fun j=>ts.length - (j0+j)) 0 bD
   ⟨aj,vl,en,by show bS 4 vl (fy (_++[])) en;rw [List.append_nil];exact hO,hs⟩ ?_
  clear hO hs
  rintro j w ⟨hj,vl,en,hO,hs⟩
  have hl1:=jV s.sp ts c j0 j
  obtain ⟨al,ll,cl,rfl,hll⟩:=hO.shape
  refine .seq (.af (.z zm (.z zm (.z znc (.z (zfa eL) (.y hs (zld Fz) (.z (c9 aP) (.z gp (.nil ?_)))))))))
  refine (.ck rfl (fun hc25=>?_) (fun hc25=>?_))
  ·refine .skip ?_
   refine nT ?_
   refine .seq (.block (.af (.z zm (.z znc (.z (zfa eL) (.y hs (zld Fz) (.z zm ?_)))))))
   obtain ⟨t,ht⟩:=nth (l:=ts) (k:=j0+j) aj
   have ht0:=Cy ht
   refine .ixX (enc:=TD.c) hs hk.ts rfl rfl aP bq ht dx ?_;intro b33 o33 hc33
   refine .q hs (cd (vs:=(TD.c t)) rfl df bq hc33) ?_
   refine .o (.alloc hs kj rfl fun b7 w hs=>?_)
   refine .o (.aO (vs:=t.c) hs rfl rfl bq fun w hs=>?_)
   change St _ _ (.blk b7 [I t.tape,I t.day]::_) at hs
   refine .nil (.af (.z (zfa iU) (.y hs (zld ae) (.z (zfa iX) (.y hs (zld ae) (.z ir (.z zm ?_)))))))
   refine .kf (t':=40) rfl (fun hb40=>?_) (fun hb40=>?_)
   ·refine .gT rfl rfl ?_
    refine .z (zfa gK) ?_
    refine .gT rfl rfl ?_
    refine .y hs (zld ae) ?_
    refine .gT rfl rfl ?_
    refine .z (zfa iW) ?_
    refine .gT rfl rfl ?_
    refine .y hs (zld ae) ?_
    refine .gT rfl rfl ?_
    refine .z (zfa gM) ?_
    refine .gT rfl rfl ?_
    refine .y hs (zld ae) ?_
    refine .gT rfl rfl ?_
    refine .o (.call cQ rfl (bp hs) ?_);rintro _ w ⟨rfl,hs⟩
    refine .z zpT (.nil ?_)
    refine (.cond rfl (fun hc48=>?_) (fun hc48=>?_))
    ·refine .draw mix rfl hs fun w hs=>?_
     refine .z 0 rfl zm ?_;refine .z 1 rfl zm ?_;refine .z 2 rfl zm ?_;refine .z 4 rfl (zfa iV) ?_;refine .y 5 rfl hs ae ?_;refine .z 6 rfl zj ?_;refine .z 7 rfl (zfa gL) ?_;refine .y 8 rfl hs ae ?_;refine .z 9 rfl (zfa eH) ?_;refine .y 10 rfl hs ae ?_
     refine .E 3 hs ?_
     refine .call Tryz.call116 rfl (ib (s:=s.sp) hs (.there .here) hk.st hk.wa ⟨aj,aj⟩ ⟨aj,aj⟩) ?_;rintro _ w ⟨rfl,hs⟩
     refine .go ?_
     refine .E 11 hs ?_
     refine .call so rfl (eS (ls:=ls++nM s.sp ts s.cs j0 i++iP s.sp ts c j0 j) (hs.tail:St H w (.blk bm _::en:: .blk b5 _::σ)) hO (by rw [List.length_append,List.length_append];omega)) ?_;rintro _ w ⟨vl3,en3,hO3,hs⟩
     refine .go ?_
     refine .D hs ?_
     refine nB (nT ?_)
     refine .region (.z zm (.z cC (.z zg (.nil ?_))))
     refine nT ?_
     have e:iP s.sp ts c j0 (j+1)=iP s.sp ts c j0 j++two 0 ((s.sp.many:Int)+1+((j0+j:Nat):Int)) (-c.lo) c.hi c.src:=by
      show _++jr c (td0 ts (j0+j)) _=_
      rw [ht0];unfold jr;rw [if_pos (by simp at hc48;omega)]
      rw [show ((s.sp.many+1+(j0+j):Nat):Int)=(s.sp.many:Int)+1+((j0+j:Nat):Int) by omega]
     rw [List.append_assoc _ (iP _ _ _ _ _),←e] at hO3
     exact ⟨j+1,.de rfl (by simp;omega) bD,⟨aj,vl3,en3,hO3,hs⟩,aj⟩
    ·refine .skip ?_
     refine nB (nT ?_)
     refine .region (.z zm (.z cC (.z zg (.nil ?_))))
     refine nT ?_
     have e:iP s.sp ts c j0 (j+1)=iP s.sp ts c j0 j:=by
      show _++jr c (td0 ts (j0+j)) _=_
      rw [ht0];unfold jr;rw [if_neg (by simp at hc48;omega),List.append_nil]
     exact ⟨j+1,.de rfl (by simp;omega) bD,⟨aj,_,en,by rw [e];exact hO,hs.tail⟩,aj⟩
   ·refine .gFs 7 5 true rfl rfl rfl ?_
    refine .z zpF (.nil ?_)
    refine (.cF ?_)
    refine .skip ?_
    refine nB (nT ?_)
    refine .region (.z zm (.z cC (.z zg (.nil ?_))))
    refine nT ?_
    have e:iP s.sp ts c j0 (j+1)=iP s.sp ts c j0 j:=by
     show _++jr c (td0 ts (j0+j)) _=_
     rw [ht0];unfold jr;rw [if_neg aj,List.append_nil]
    exact ⟨j+1,.de rfl (by simp;omega) bD,⟨aj,_,en,by rw [e];exact hO,hs.tail⟩,aj⟩
  ·refine .exit ?_
   refine xT (xT (xB (nB (nT ?_))))
   obtain rfl:j=ts.length - j0:=by omega
   rw [List.append_assoc,show nM s.sp ts s.cs j0 i++iP s.sp ts c j0 (ts.length - j0)=nM s.sp ts s.cs j0 (i+1) by rw [←AI hx];rfl] at hO
   exact .mk ⟨rfl,_,en,hO,hs.sb⟩
 ·rintro fr w ⟨rfl,vl,en,hO,hs⟩
  exact Fin.wm Tryz.results117 ⟨H,vl,en,HLe.refl _,hO,hs⟩
theorem lH{s:Srv}{ts:List TD}{vst vwa vr vc vt vl:Value}{en:Ent}{bm:Nat}{ls:List Lim}(hs:St H w (.blk bm [I s.sp.id,I s.sp.src,vst,vwa,I s.sp.al,I s.sp.up,vr,vc,vt,vl]::en::σ))(hk:MkK H s ts vst vwa vr vc vt)(hO:bS 4 vl (fy ls) en)(hl:ls.length≤10000)(hok:ez s.sp)(htl:ts.length≤100)(hcl:s.cs.length≤20)(hc:∀c∈s.cs,nY c):
  Cl Tryz.prog 178 [.pointer (some ⟨bm,0,none⟩)] w fun _ w'=>∃H1 vl' en',HLe H H1∧bS 4 vl' (fy (ls++nM s.sp ts s.cs 0 s.cs.length)) en'∧St H1 w' (.blk bm [I s.sp.id,I s.sp.src,vst,vwa,I s.sp.al,I s.sp.up,vr,vc,vt,vl']::en'::σ):=by
 refine Cl.o Tryz.func178 Tryz.ntmps178 ag1 ?_
 refine .region (.z zm ?_)
 refine .o (.call Tryz.call117 rfl (jA (s:=s) (ts:=ts) (j0:=0) hs hk hO hl hok htl hcl hc aj) ?_);rintro _ w hs
 refine .nil ?_
 exact Fin.wm Tryz.results178 hs
set_option maxHeartbeats 1000000 in
theorem nI{s:Srv}{ts:List TD}{vst vwa vr vc vt vl:Value}{en:Ent}{bm:Nat}{ls:List Lim}(hs:St H w (.blk bm [I s.sp.id,I s.sp.src,vst,vwa,I s.sp.al,I s.sp.up,vr,vc,vt,vl]::en::σ))(hk:MkK H s ts vst vwa vr vc vt)(hO:bS 4 vl (fy ls) en)(hl:ls.length≤10000)(hok:ez s.sp)(htl:ts.length≤100)(hrl:s.rs.length≤60)(hr:∀r∈s.rs,fN s.sp r)(hmem:∀r∈s.rs,r.td∈ts):
  Cl Tryz.prog 179 [.pointer (some ⟨bm,0,none⟩)] w fun _ w'=>∃H1 vl' en',HLe H H1∧bS 4 vl' (fy (ls++rI s.sp ts s.rs s.rs.length)) en'∧St H1 w' (.blk bm [I s.sp.id,I s.sp.src,vst,vwa,I s.sp.al,I s.sp.up,vr,vc,vt,vl']::en'::σ):=by
 have hsm:=dB hok
 obtain ⟨at_,ct,rfl⟩:=RTd.shape hk.ts
 obtain ⟨ar,cr,rfl⟩:=RRd.shape hk.rs
 refine Cl.o Tryz.func179 Tryz.ntmps179 ag1 ?_
 refine .af (.z zm (.z znc (.z (zfa dd) (.z (zfa aZ) (.y hs (zld bZ) (.z (c9 aF) (.z zm (.nil ?_))))))))
 refine .for (N:=s.rs.length) (J:=fun i fr w=>fr=[(9,.slice ar s.rs.length cr),(0,.pointer (some ⟨bm,0,none⟩))]∧∃vl en,bS 4 vl (fy (ls++rI s.sp ts s.rs i)) en∧St H w (.blk bm [I s.sp.id,I s.sp.src,vst,vwa,I s.sp.al,I s.sp.up,.slice ar s.rs.length cr,vc,.slice at_ ts.length ct,vl]::en::σ)) aj ?_ ?_ ?_
 ·exact .mk ⟨rfl,vl,en,by show bS 4 vl (fy (ls++[])) en;rw [List.append_nil];exact hO,hs⟩
 ·rintro i fr w hi ⟨rfl,vl,en,hO,hs⟩
  obtain ⟨r,hx⟩:=nth hi
  obtain ⟨g1,g2,g3,g4,g5,g6,g7⟩:=hr r (List.mem_of_getElem? hx)
  obtain ⟨k,k1,k2,k3⟩:=ee (hmem r (List.mem_of_getElem? hx))
  have hrl1:=fq s.sp ts s.rs i
  obtain ⟨al,ll,cl,rfl,hll⟩:=hO.shape
  refine .block (.af ?_)
  refine .ixX (enc:=Rdg.c) hs hk.rs rfl rfl aF aD hx dx ?_;intro b13 o13 hc13
  refine .q hs (cd (vs:=(Rdg.c r)) rfl cg aD hc13) ?_
  refine .o (.alloc hs bH rfl fun b3 w hs=>?_)
  refine .o (.aO (vs:=r.c) hs rfl rfl aD fun w hs=>?_)
  change St _ _ (.blk b3 [I r.src,I r.st,I r.wa,I r.val,I r.tol,I r.tape,I r.day]::_) at hs
  refine .nil ?_
  refine .seq (.draw mix rfl hs fun w hs=>?_)
  refine .z 0 rfl zm ?_;refine .z 1 rfl znc ?_;refine .z 2 rfl (zfa eL) ?_;refine .y 3 rfl hs Fz ?_;refine .ys 4 rfl hs [_,_,_,_,_,_,_] cg aD ?_
  refine .E 5 hs ?_
  refine .call FD rfl (ep hs) ?_;rintro _ w ⟨rfl,hs⟩
  refine .go ?_
  refine .E 6 hs ?_
  refine .call Tryz.call89 rfl (lS (t:=r.td) hs hk.ts aj) ?_;rintro _ w ⟨rfl,hs⟩
  refine .go ?_
  refine .z 7 rfl zg ?_;refine .D hs ?_
  refine .draw mix rfl hs fun w hs=>?_
  refine .z 0 rfl zm ?_;refine .z 1 rfl zm ?_;refine .z 2 rfl zm ?_;refine .z 4 rfl zm ?_;refine .z 5 rfl znc ?_;refine .z 6 rfl (zfa dd) ?_;refine .z 7 rfl (zfa aK) ?_;refine .ys 8 rfl hs [_,_,_,_,_,_] aM aE ?_;refine .z 9 rfl (zfa ea) ?_;refine .y 10 rfl hs ae ?_
  refine .z 11 rfl (zfa dZ) ?_;refine .y 12 rfl hs ae ?_;refine .z 14 rfl (zfa dv) ?_;refine .y 15 rfl hs ae ?_;refine .z 16 rfl (zfa bR) ?_;refine .y 17 rfl hs ae ?_;refine .z 18 rfl cC ?_;refine .z 19 rfl (zfa bR) ?_;refine .y 20 rfl hs ae ?_;refine .z 21 rfl (zfa dv) ?_
  refine .y 22 rfl hs ae ?_;refine .z 23 rfl hZ ?_;refine .z 24 rfl (zfa eb) ?_;refine .y 25 rfl hs ae ?_
  refine .E 3 hs ?_
  refine .call Tryz.call116 rfl (ib (s:=s.sp) hs (.there .here) hk.st hk.wa ⟨aj,aj⟩ ⟨aj,aj⟩) ?_;rintro _ w ⟨rfl,hs⟩
  refine .go ?_
  refine .E 13 hs ?_
  refine .call Tryz.call118 rfl (gx (s:=s.sp) hs hk.wa aj ⟨aj,aj⟩ ⟨aj,aj⟩) ?_;rintro _ w ⟨rfl,hs⟩
  refine .go ?_
  refine .E 26 hs ?_
  refine .call so rfl (eS (ls:=ls++rI s.sp ts s.rs i) (hs.sb:St H w (.blk bm _::en:: .blk b3 _::σ)) hO (by rw [List.length_append];omega)) ?_;rintro _ w ⟨vl3,en3,hO3,hs⟩
  refine .go ?_
  refine .D hs ?_
  refine nB (nT ?_)
  rw [List.append_assoc,show rI s.sp ts s.rs i++two ((s.sp.many:Int)+1+gS ts r.td) (1+r.st*s.sp.wa.length+r.wa) (r.val+r.tol) (r.tol - r.val) r.src=rI s.sp ts s.rs (i+1) by rw [←zI hx];rfl] at hO3
  exact .mk ⟨rfl,vl3,en3,hO3,hs.sb⟩
 ·rintro fr w ⟨rfl,vl,en,hO,hs⟩
  exact Fin.wm Tryz.results179 ⟨H,vl,en,HLe.refl _,hO,hs⟩
def fnK:Nat→Nat
 |0=>174
 |1=>175
 |2=>176
 |3=>177
 |4=>178
 |_=>179
theorem B9{k:Nat}(hk:k<6):∀args w,(callFunc (fnK k) args).run Tryz.prog w= .ok (.enter (fnK k) args) w:=by
 have h:k=0∨k=1∨k=2∨k=3∨k=4∨k=5:=by omega
 rcases h with rfl|rfl|rfl|rfl|rfl|rfl
 ·exact Tryz.call174
 ·exact Tryz.call175
 ·exact Tryz.call176
 ·exact Tryz.call177
 ·exact Tryz.call178
 ·exact Tryz.call179
theorem zX{s:Srv}{vst vwa vr vc vt vl:Value}{en:Ent}{bm k:Nat}(hs:St H w (.blk bm [I s.sp.id,I s.sp.src,vst,vwa,I s.sp.al,I s.sp.up,vr,vc,vt,vl]::en::σ))(hk:MkK H s s.bg vst vwa vr vc vt)(hO:bS 4 vl (fy (s.parts k)) en)(he:s.early)(hk6:k<6):
  Cl Tryz.prog (fnK k) [.pointer (some ⟨bm,0,none⟩)] w fun _ w'=>∃H1 vl' en',HLe H H1∧bS 4 vl' (fy (s.parts (k+1))) en'∧St H1 w' (.blk bm [I s.sp.id,I s.sp.src,vst,vwa,I s.sp.al,I s.sp.up,vr,vc,vt,vl']::en'::σ):=by
 have hl:=jQ he k aj
 obtain ⟨hok,h1,h2,h3,h4⟩:=he
 have htl:s.bg.length≤100:=by have:=cH s.rs;unfold Srv.bg;omega
 have h:k=0∨k=1∨k=2∨k=3∨k=4∨k=5:=by omega
 rcases h with rfl|rfl|rfl|rfl|rfl|rfl
 ·exact nJ hs hk hO (Nat.le_trans hl fG) hok
 ·exact qD hs hk hO (Nat.le_trans hl fG) hok
 ·exact tP hs hk hO (Nat.le_trans hl fG) hok
 ·exact pY hs hk hO (Nat.le_trans hl fG) hok htl
 ·exact lH hs hk hO (Nat.le_trans hl fG) hok htl h2 h4
 ·exact nI hs hk hO (Nat.le_trans hl fG) hok htl h1 h3 fun r hr=>dV.2 ⟨r,hr,rfl⟩
def fnV(b:Nat)(k:Nat):Value:= .func (.func (fnK k)) #[.pointer (some ⟨b,0,none⟩)] #[]
theorem Dl(b:Nat){k:Nat}(hk:k<6):[fnV b 0,fnV b 1,fnV b 2,fnV b 3,fnV b 4,fnV b 5][k]? =some (fnV b k):=by
 have h:k=0∨k=1∨k=2∨k=3∨k=4∨k=5:=by omega
 rcases h with rfl|rfl|rfl|rfl|rfl|rfl<;>rfl
set_option maxHeartbeats 1000000 in
theorem jR{s:Srv}{vst vwa vr vc:Value}(hs:St H w σ)(h1:RI H vst s.sp.st)(h2:RI H vwa s.sp.wa)(h3:RRd H vr s.rs)(h4:RCm H vc s.cs)(he:s.early):
  Cl Tryz.prog 92 [.agg #[I s.sp.id,I s.sp.src,vst,vwa,I s.sp.al,I s.sp.up,vr,vc]] w fun u w'=>∃H1 vl en,HLe H H1∧u= .agg #[I s.sys.many,vl]∧bS 4 vl (fy s.bV) en∧St H1 w' (en::σ):=by
 have hsm:=dB he.1
 have htl:s.bg.length≤60:=by have:=cH s.rs;have:=he.2.1;unfold Srv.bg;omega
 refine Cl.o Tryz.func92 Tryz.ntmps92 ag1 ?_
 refine .af ?_
 refine .bx hs fun b1 w hs=>?_
 refine .o (.alloc hs cu rfl fun b2 w hs=>?_)
 refine .nil ?_
 refine .seq (.draw mix rfl hs fun w hs=>?_)
 refine .ys 0 rfl hs [_,_,_,_,_,_,_,_] aq an ?_;refine .ys 1 rfl hs [_,_,_,_,_,_,_,_] aq an ?_
 refine .E 2 hs ?_
 refine .call Tryz.call90 rfl (fJ hs h3 (by have:=he.2.1;omega)) ?_;rintro v8 w ⟨H1,hle1,hT,hs⟩
 obtain ⟨at_,ct,rfl⟩:=RTd.shape hT
 have hk0:MkK H1 s s.bg vst vwa vr vc (.slice at_ s.bg.length ct):=⟨h1.mono hle1,h2.mono hle1,h3.mono hle1,h4.mono hle1,hT⟩
 refine .go ?_
 refine .z 3 rfl (zbd (vs:=[(0,.agg #[I s.sp.id,I s.sp.src,vst,vwa,I s.sp.al,I s.sp.up,vr,vc]),(1,.slice at_ s.bg.length ct)]) [I s.sp.id,I s.sp.src,vst,vwa,I s.sp.al,I s.sp.up,vr,vc,.slice at_ s.bg.length ct,.slice none 0 0] kD rfl au) ?_
 refine .E 4 hs ?_
 refine .box hs rfl rfl ?_;intro b10 w hs
 refine .go ?_
 refine .z 5 rfl zg ?_;refine .D hs ?_
 refine .seq (.af (.z zm ?_))
 refine .q hs (cU (f:=[_]) (c:=[]) rfl rfl) ?_
 refine .z zm ?_
 refine .q hs (cU (f:=[_]) (c:=[]) rfl rfl) ?_
 refine .z zm ?_
 refine .q hs (cU (f:=[_]) (c:=[]) rfl rfl) ?_
 refine .z zm ?_
 refine .q hs (cU (f:=[_]) (c:=[]) rfl rfl) ?_
 refine .z zm ?_
 refine .q hs (cU (f:=[_]) (c:=[]) rfl rfl) ?_
 refine .z zm ?_
 refine .q hs (cU (f:=[_]) (c:=[]) rfl rfl) ?_
 refine .o (.buildSlice (cells:=[fnV b10 0,fnV b10 1,fnV b10 2,fnV b10 3,fnV b10 4,fnV b10 5]) hs uv rfl au fun b23 w hs=>?_)
 refine .z (c9 Tryz.runUnderlying223) ?_
 refine .z zm (.nil ?_)
 refine .for (N:=6) (J:=fun k fr w=>fr=[(23,.slice (some ⟨b23,0,none⟩) 6 6),(3,.pointer (some ⟨b10,0,none⟩)),(2,.pointer (some ⟨b2,0,none⟩)),(1,.pointer (some ⟨b1,0,none⟩))]∧∃H2 vl en,HLe H1 H2∧bS 4 vl (fy (s.parts k)) en∧St H2 w (.blk b10 [I s.sp.id,I s.sp.src,vst,vwa,I s.sp.al,I s.sp.up,vr,vc,.slice at_ s.bg.length ct,vl]::en:: .blk b23 [fnV b10 0,fnV b10 1,fnV b10 2,fnV b10 3,fnV b10 4,fnV b10 5]:: .blk b2 [I 0,.slice none 0 0]:: .blk b1 [I s.sp.id,I s.sp.src,vst,vwa,I s.sp.al,I s.sp.up,vr,vc]::σ)) aj ?_ ?_ ?_
 ·exact .mk ⟨rfl,H1,.slice none 0 0,.nul,HLe.refl _,.nil 4 none,hs.nul.sb⟩
 ·rintro k fr w hk ⟨rfl,H2,vl,en,hle2,hO,hs⟩
  refine .block (.af ?_)
  refine .z (zix Tryz.runUnderlying223 Tryz.sizeOf1) ?_
  refine .q hs (fR rfl Tryz.isAgg1 (hv:=Dl b10 hk)) ?_
  refine .z zg (.nil (.region (.z zm ?_)))
  refine .o (.kT (first:=[.pointer (some ⟨b10,0,none⟩)]) (cap:=[]) rfl rfl (B9 hk) (zX hs (hk0.mono hle2) hO he hk) ?_);rintro _ w ⟨H3,vl3,en3,hle3,hO3,hs⟩
  refine .nil ?_
  refine nB (nT ?_)
  exact .mk ⟨rfl,H3,vl3,en3,hle2.trans hle3,hO3,hs⟩
 ·rintro fr w ⟨rfl,H2,vl,en,hle2,hO,hs⟩
  rw [s.tH] at hO
  obtain ⟨al,ll,cl,rfl,hll⟩:=hO.shape
  refine nT ?_
  refine .seq (.draw mix rfl hs fun w hs=>?_)
  refine .z 0 rfl (zfa aK) ?_;refine .ys 1 rfl hs [_,_,_,_,_,_] aM aE ?_;refine .z 3 rfl zm ?_;refine .z 4 rfl znc ?_;refine .z 5 rfl (zfa eL) ?_;refine .y 6 rfl hs Fz ?_;refine .z 7 rfl (c9 aP) ?_;refine .z 9 rfl zm ?_;refine .z 10 rfl znc ?_;refine .z 11 rfl (zfa fK) ?_
  refine .y 12 rfl hs cA ?_
  refine .E 2 hs ?_
  refine .call Tryz.call91 rfl (fa (s:=s.sp) hs (h1.mono (hle1.trans hle2)) (h2.mono (hle1.trans hle2)) ⟨aj,aj⟩) ?_;rintro _ w ⟨rfl,hs⟩
  refine .go ?_
  refine .z 8 rfl cC ?_;refine .z 13 rfl (zbd [_,_] iF) ?_
  refine .E 14 hs ?_
  refine .aO (vs:=[_,_]) hs rfl rfl aC ?_;intro w hs
  refine .go ?_
  refine .D hs ?_
  refine .ret ?_
  replace hs:St H2 w (.blk b2 [I ((s.sp.many:Int)+(s.bg.length:Int)),.slice al ll cl]::en::σ):=hs.sb
  exact Fin.gI [] [] hs fun w hs=>⟨_,results1 Tryz.results92 (di (vs:=[_,_]) hs rfl a8 aC),H2,_,en,hle1.trans hle2,by show _=Value.agg #[I ((s.sp.many+s.bg.length:Nat):Int),_];rw [Int.natCast_add],hO,hs.tail⟩
theorem dz{s:Srv}{vst vwa vr vc:Value}(hs:St H w σ)(h1:RI H vst s.sp.st)(h2:RI H vwa s.sp.wa)(h3:RRd H vr s.rs)(h4:RCm H vc s.cs)(he:s.early):
  Cl Tryz.prog 92 [.agg #[I s.sp.id,I s.sp.src,vst,vwa,I s.sp.al,I s.sp.up,vr,vc]] w fun u w'=>∃H1,HLe H H1∧RSy H1 u s.sys∧St H1 w' σ:=by
 refine (jR hs h1 h2 h3 h4 he).mono ?_
 rintro u w' ⟨H1,vl,en,hle,rfl,hO,hs⟩
 have hl:=jQ he 6 aj
 rw [s.tH] at hl
 obtain ⟨H2,hle2,hR,hs⟩:=bS.cf (m:=4) (cs:=s.bV.map Lim.c) hO (fun c hc=>by simp only [List.mem_map] at hc;obtain ⟨x,_,rfl⟩:=hc;rfl) aj (by rw [List.length_map];omega) hs .here
 exact ⟨H2,hle.trans hle2,⟨vl,rfl,hR⟩,hs⟩
set_option maxHeartbeats 1000000 in
theorem cD{s:Srv}{vst vwa vr vc:Value}(hs:St H w σ)(h1:RI H vst s.sp.st)(h2:RI H vwa s.sp.wa)(h3:RRd H vr s.rs)(h4:RCm H vc s.cs):
  Cl Tryz.prog 42 [.agg #[I s.sp.id,I s.sp.src,vst,vwa,I s.sp.al,I s.sp.up,vr,vc]] w fun u w'=>∃H1 e,HLe H H1∧u=I e∧se s e∧St H1 w' σ:=by
 obtain ⟨ast,cst,rfl⟩:=RI.shape h1
 obtain ⟨awa,cwa,rfl⟩:=RI.shape h2
 obtain ⟨ar,cr,rfl⟩:=RRd.shape h3
 obtain ⟨ac,cc,rfl⟩:=RCm.shape h4
 refine Cl.o Tryz.func42 Tryz.ntmps42 ag1 ?_
 refine .af ?_
 refine .bx hs fun b1 w hs=>?_
 refine .z zg (.nil (.seq (.af (.z (zfa aK) (.y hs (zls [_,_,_,_,_,_] aM aE) ?_)))))
 refine .o (.call Tryz.call41 rfl (eg (s:=s.sp) hs h1 h2) ?_);rintro _ w ⟨H1,e,hle1,rfl,he,hs⟩
 refine .z zg (.nil (.af (.z zm (.z fM (.nil ?_)))))
 refine (.eD rfl (fun hc13=>?_) (fun hc13=>?_))
 ·refine .af (.z zm (.z zg (.nil ?_)))
  refine .ret (rT (Fin.bI jI rfl ?_))
  have hq:¬ez s.sp∧e=30:=he.resolve_left fun h=>hc13 h.2
  exact ⟨H1,_,hle1,rfl,by rw [hq.2];exact .space hq.1,hs.out⟩
 ·refine .skip ?_
  refine nT ?_
  refine .seq (.af (.z (zfa aZ) ?_))
  have hok:ez s.sp:=(he.resolve_right fun h=>by omega).1
  refine .y hs (zld bZ) (.z (c9 aF) (.z od (.z zm ?_)))
  refine .kf (t':=19) rfl (fun hb19=>?_) (fun hb19=>?_)
  ·refine .gFs 4 4 false rfl rfl rfl ?_
   refine .z zpT (.nil ?_)
   refine (.cT ?_)
   refine .af (.z zg (.nil ?_))
   refine .ret (rT (Fin.bI jI rfl ?_))
   exact ⟨H1,_,hle1,rfl,.long hok aj,hs.out⟩
  ·refine .gT rfl rfl ?_
   refine .z (zfa bT) ?_
   refine .gT rfl rfl ?_
   refine .y hs (zld fO) ?_
   refine .gT rfl rfl ?_
   refine .z (c9 bk) ?_
   refine .gT rfl rfl ?_
   refine .z od (.z zpF (.nil ?_))
   refine (.ck rfl (fun hc24=>?_) (fun hc24=>?_))
   ·refine .af (.z zg (.nil ?_))
    refine .ret (rT (Fin.bI jI rfl ?_))
    exact ⟨H1,_,hle1,rfl,.long hok aj,hs.out⟩
   ·refine .skip ?_
    refine nT ?_
    refine .seq (.af (.z (zfa aZ) (.y hs (zld bZ) (.z (c9 aF) (.z zm (.nil ?_))))))
    refine .for (N:=s.rs.length) (J:=fun k fr w=>fr=[(26,.slice ar s.rs.length cr),(1,.pointer (some ⟨b1,0,none⟩))]∧(∀j<k,∀y,s.rs[j]? =some y→fN s.sp y)∧St H1 w (.blk b1 [I s.sp.id,I s.sp.src,.slice ast s.sp.st.length cst,.slice awa s.sp.wa.length cwa,I s.sp.al,I s.sp.up,.slice ar s.rs.length cr,.slice ac s.cs.length cc]::σ)) aj ?_ ?_ ?_
    ·exact .mk ⟨rfl,fun j hj=>by omega,hs⟩
    ·rintro k fr w hk ⟨rfl,hno,hs⟩
     obtain ⟨r,hx⟩:=nth hk
     refine .block (.af ?_)
     refine .ixX (enc:=Rdg.c) hs (h3.mono hle1) rfl rfl aF aD hx dx ?_;intro b30 o30 hc30
     refine .q hs (cd (vs:=(Rdg.c r)) rfl cg aD hc30) ?_
     refine .o (.alloc hs bH rfl fun b5 w hs=>?_)
     refine .o (.aO (vs:=r.c) hs rfl rfl aD fun w hs=>?_)
     change St _ _ (.blk b5 [I r.src,I r.st,I r.wa,I r.val,I r.tol,I r.tape,I r.day]::_) at hs
     refine .nil (.af (.z (zfa aK) (.y hs (zls [_,_,_,_,_,_] aM aE) (.y hs (zls [_,_,_,_,_,_,_] cg aD) ?_))))
     refine .o (.call Tryz.call107 rfl (fF (s:=s.sp) (r:=r) hs (h1.mono hle1) (h2.mono hle1)) ?_);rintro _ w ⟨b35,rfl,hb35,hs⟩
     refine .z iq (.nil ?_)
     refine (.cond rfl (fun hc36=>?_) (fun hc36=>?_))
     ·refine .af (.z zg (.nil ?_))
      refine .ret (rB (rT (rB (rT (Fin.bI jI rfl ?_)))))
      exact ⟨H1,_,hle1,rfl,.rdg hok aj (fun h=>by rw [hb35.2 (h r (List.mem_of_getElem? hx))] at hc36;cases hc36),hs.out⟩
     ·refine .skip ?_
      refine nB (nT ?_)
      exact .mk ⟨rfl,ed hno hx (hb35.1 (by simpa using hc36)),hs.tail⟩
    ·rintro fr w ⟨rfl,hno,hs⟩
     have hrs:∀r∈s.rs,fN s.sp r:=fun r hr=>by
      obtain ⟨j,hj⟩:=List.getElem?_of_mem hr
      exact hno j (List.getElem?_eq_some_iff.1 hj).1 r hj
     clear hno
     refine nT ?_
     refine .seq (.af (.z (zfa bT) (.y hs (zld fO) (.z (c9 bk) (.z zm (.nil ?_))))))
     refine .for (N:=s.cs.length) (J:=fun k fr w=>fr=[(39,.slice ac s.cs.length cc),(1,.pointer (some ⟨b1,0,none⟩))]∧(∀j<k,∀y,s.cs[j]? =some y→nY y)∧St H1 w (.blk b1 [I s.sp.id,I s.sp.src,.slice ast s.sp.st.length cst,.slice awa s.sp.wa.length cwa,I s.sp.al,I s.sp.up,.slice ar s.rs.length cr,.slice ac s.cs.length cc]::σ)) aj ?_ ?_ ?_
     ·exact .mk ⟨rfl,fun j hj=>by omega,hs⟩
     ·rintro k fr w hk ⟨rfl,hno,hs⟩
      obtain ⟨c,hx⟩:=nth hk
      refine .block (.af ?_)
      refine .ixX (enc:=Cmp.c) hs (h4.mono hle1) rfl rfl bk bG hx dx ?_;intro b43 o43 hc43
      refine .q hs (cd (vs:=(Cmp.c c)) rfl jh bG hc43) ?_
      refine .o (.alloc hs fB rfl fun b7 w hs=>?_)
      refine .o (.aO (vs:=c.c) hs rfl rfl bG fun w hs=>?_)
      change St _ _ (.blk b7 [I c.src,I c.tape,I c.fr,I c.to,I c.lo,I c.hi]::_) at hs
      refine .nil (.af (.y hs (zls [_,_,_,_,_,_] jh bG) ?_))
      refine .o (.call Tryz.call108 rfl (lF (c:=c) hs) ?_);rintro _ w ⟨b46,rfl,hb46,hs⟩
      refine .z iq (.nil ?_)
      refine (.cond rfl (fun hc47=>?_) (fun hc47=>?_))
      ·refine .af (.z zg (.nil ?_))
       refine .ret (rB (rT (rB (rT (Fin.bI jI rfl ?_)))))
       exact ⟨H1,_,hle1,rfl,.cmp hok aj hrs (fun h=>by rw [hb46.2 (h c (List.mem_of_getElem? hx))] at hc47;cases hc47),hs.out⟩
      ·refine .skip ?_
       refine nB (nT ?_)
       exact .mk ⟨rfl,ed hno hx (hb46.1 (by simpa using hc47)),hs.tail⟩
     ·rintro fr w ⟨rfl,hno,hs⟩
      have hcs:∀c∈s.cs,nY c:=fun c hc=>by
       obtain ⟨j,hj⟩:=List.getElem?_of_mem hc
       exact hno j (List.getElem?_eq_some_iff.1 hj).1 c hj
      have hea:s.early:=⟨hok,aj,aj,hrs,hcs⟩
      have hsm:=dB hok
      have htl:s.bg.length≤60:=by have:=cH s.rs;have:=hea.2.1;unfold Srv.bg;omega
      have hll:=jQ hea 6 aj
      rw [s.tH] at hll
      have hsm2:s.sys.many=((s.sp.many+s.bg.length:Nat):Int):=rfl
      refine nT ?_
      refine .seq (.af (.y hs (zls [_,_,_,_,_,_,_,_] aq an) ?_))
      refine .o (.call qd rfl (dz (s:=s) hs (h1.mono hle1) (h2.mono hle1) (h3.mono hle1) (h4.mono hle1) hea) ?_);rintro _ w ⟨H2,hle2,⟨ul,rfl,hL⟩,hs⟩
      obtain ⟨al,cl,rfl⟩:=RL.shape hL
      have hsl:s.sys.bV.length=s.bV.length:=rfl
      refine .o (.alloc hs cu rfl fun b8 w hs=>?_)
      refine .o (.aO (vs:=[_,_]) hs rfl rfl aC fun w hs=>?_)
      refine .nil (.af (.z (zfa bB) (.y hs (zld ae) (.z od (.z zm ?_)))))
      refine .kf (t':=54) rfl (fun hb54=>?_) (fun hb54=>?_)
      ·refine .gFs 4 3 false rfl rfl rfl ?_
       refine .z zpT (.nil ?_)
       refine (.cT ?_)
       refine .af (.z zg (.nil ?_))
       refine .ret (rT (Fin.bI jI rfl ?_))
       exact ⟨H2,_,hle1.trans hle2,rfl,.big hea aj,hs.out⟩
      ·refine .gT rfl rfl ?_
       refine .z (zfa bF) ?_
       refine .gT rfl rfl ?_
       refine .y hs (zld cA) ?_
       refine .gT rfl rfl ?_
       refine .z (c9 aN) ?_
       refine .gT rfl rfl ?_
       refine .z od (.z zpF (.nil ?_))
       refine (.ck rfl (fun hc59=>?_) (fun hc59=>?_))
       ·refine .af (.z zg (.nil ?_))
        refine .ret (rT (Fin.bI jI rfl ?_))
        exact ⟨H2,_,hle1.trans hle2,rfl,.big hea aj,hs.out⟩
       ·refine .skip ?_
        refine nT ?_
        refine .af (.z zg (.nil ?_))
        refine .ret (Fin.bI jI rfl ?_)
        exact ⟨H2,_,hle1.trans hle2,rfl,.ok hea ⟨aj,aj⟩,hs.out⟩
theorem fp{a0 a1 a2:Int}(hs:St H w σ):Cl Tryz.prog 83 [I a0,I a1,I a2] w fun v w'=>v= .bool (decide (a1≤a0∧a0≤a2))∧St H w' σ:=by
 refine Cl.o Tryz.func83 Tryz.ntmps83 ag3 ?_
 refine .af (.z zg (.nil (.af (.z zm (.z zm (.z zk (.z zm ?_)))))))
 refine .kf (t':=10) rfl (fun hb10=>?_) (fun hb10=>?_)
 ·refine .gT rfl rfl ?_
  refine .z zm ?_
  refine .gT rfl rfl ?_
  refine .z zm ?_
  refine .gT rfl rfl ?_
  refine .z wv (.z zpT (.z zg (.nil ?_)))
  refine .ret (Fin.bI Tryz.results83 rfl ?_)
  exact ⟨by simp [*],hs.out⟩
 ·refine .gFs 3 3 true rfl rfl rfl ?_
  refine .z zpF (.z zg (.nil ?_))
  refine .ret (Fin.bI Tryz.results83 rfl ?_)
  exact ⟨by simp [*],hs.out⟩
theorem C6{s:Spc}(h:ez s):fZ 9 100000 s.wa:=⟨h.wa.two,by have:=h.wa.many;omega,h.wa.low,by have:=h.wa.high;omega,h.wa.rise⟩
theorem kL{s:Spc}{r:Rdg}{vst vwa:Value}(hs:St H w σ)(h1:RI H vst s.st)(h2:RI H vwa s.wa):
  Cl Tryz.prog 109 [.agg #[I s.id,I s.src,vst,vwa,I s.al,I s.up],.agg #[I r.src,I r.st,I r.wa,I r.val,I r.tol,I r.tape,I r.day]] w fun v w'=>∃b:Bool,v= .bool b∧(b=true↔fN s r)∧St H w' σ:=by
 obtain ⟨ast,cst,rfl⟩:=RI.shape h1
 obtain ⟨awa,cwa,rfl⟩:=RI.shape h2
 have l1:=(RI.len h1).2.2
 have l2:=(RI.len h2).2.2
 refine Cl.o Tryz.func109 Tryz.ntmps109 ag2 ?_
 refine .af ?_
 refine .bx hs fun b2 w hs=>?_
 refine .bx hs fun b3 w hs=>?_
 refine .z zg (.nil (.af (.z (zfa eb) (.y hs (zld ae) ?_))))
 refine .o (.call uN rfl (fp hs) ?_);rintro _ w ⟨rfl,hs⟩
 refine .z zm ?_
 refine .bif (t':=8) rfl (fun hb8=>?_) (fun hb8=>?_)
 ·refine .gT rfl rfl ?_
  refine .z (zfa ea) ?_
  refine .gT rfl rfl ?_
  refine .y hs (zld ae) ?_
  refine .gT rfl rfl ?_
  refine .z (zfa bu) ?_
  refine .gT rfl rfl ?_
  refine .y hs (zld ak) ?_
  refine .gT rfl rfl ?_
  refine .z (c9 ad) ?_
  refine .gT rfl rfl ?_
  refine .z hZ ?_
  refine .gT rfl rfl ?_
  refine .o (.call uN rfl (fp hs) ?_);rintro _ w ⟨rfl,hs⟩
  refine .z zpT (.z zm ?_)
  refine .bif (t':=17) rfl (fun hb17=>?_) (fun hb17=>?_)
  ·refine .gT rfl rfl ?_
   refine .z (zfa dZ) ?_
   refine .gT rfl rfl ?_
   refine .y hs (zld ae) ?_
   refine .gT rfl rfl ?_
   refine .z (zfa bn) ?_
   refine .gT rfl rfl ?_
   refine .y hs (zld ak) ?_
   refine .gT rfl rfl ?_
   refine .z (c9 ad) ?_
   refine .gT rfl rfl ?_
   refine .z hZ ?_
   refine .gT rfl rfl ?_
   refine .o (.call uN rfl (fp hs) ?_);rintro _ w ⟨rfl,hs⟩
   refine .z zpT (.z zm ?_)
   refine .bif (t':=26) rfl (fun hb26=>?_) (fun hb26=>?_)
   ·refine .gT rfl rfl ?_
    refine .z (zfa bR) ?_
    refine .gT rfl rfl ?_
    refine .y hs (zld ae) ?_
    refine .gT rfl rfl ?_
    refine .o (.call uN rfl (fp hs) ?_);rintro _ w ⟨rfl,hs⟩
    refine .z zpT (.z zm ?_)
    refine .bif (t':=31) rfl (fun hb31=>?_) (fun hb31=>?_)
    ·refine .gT rfl rfl ?_
     refine .z (zfa dv) ?_
     refine .gT rfl rfl ?_
     refine .y hs (zld ae) ?_
     refine .gT rfl rfl ?_
     refine .z (zfa bR) ?_
     refine .gT rfl rfl ?_
     refine .y hs (zld ae) ?_
     refine .gT rfl rfl ?_
     have ht:0≤r.tol∧r.tol≤1000:=by simp_all
     refine .z hZ ?_
     refine .gT rfl rfl ?_
     refine .o (.call uN rfl (fp hs) ?_);rintro _ w ⟨rfl,hs⟩
     refine .z zpT (.z zm ?_)
     refine .bif (t':=39) rfl (fun hb39=>?_) (fun hb39=>?_)
     ·refine .gT rfl rfl ?_
      refine .z (zfa dY) ?_
      refine .gT rfl rfl ?_
      refine .y hs (zld ae) ?_
      refine .gT rfl rfl ?_
      refine .o (.call uN rfl (fp hs) ?_);rintro _ w ⟨rfl,hs⟩
      refine .z zpT (.z zm ?_)
      refine .bif (t':=44) rfl (fun hb44=>?_) (fun hb44=>?_)
      ·refine .gT rfl rfl ?_
       refine .z (zfa dX) ?_
       refine .gT rfl rfl ?_
       refine .y hs (zld ae) ?_
       refine .gT rfl rfl ?_
       refine .o (.call uN rfl (fp hs) ?_);rintro _ w ⟨rfl,hs⟩
       refine .z zpT (.z zg (.nil ?_))
       refine .ret (Fin.bI lq rfl ?_)
       first
       |exact ⟨false,rfl,⟨fun h=>(by cases h),fun h=>(by obtain ⟨g1,g2,g3,g4,g5,g6,g7⟩:=h;simp_all;done)⟩,hs.out⟩
       |exact ⟨_,rfl,⟨fun h=>⟨by simp_all,by simp_all,by simp_all,by simp_all,by simp_all,by simp_all,by simpa using h⟩,fun h=>by simpa using h.day⟩,hs.out⟩
      ·refine .gFs 3 39 true rfl rfl rfl ?_
       refine .z zpF (.z zg (.nil ?_))
       refine .ret (Fin.bI lq rfl ?_)
       first
       |exact ⟨false,rfl,⟨fun h=>(by cases h),fun h=>(by obtain ⟨g1,g2,g3,g4,g5,g6,g7⟩:=h;simp_all;done)⟩,hs.out⟩
       |exact ⟨_,rfl,⟨fun h=>⟨by simp_all,by simp_all,by simp_all,by simp_all,by simp_all,by simp_all,by simpa using h⟩,fun h=>by simpa using h.day⟩,hs.out⟩
     ·refine .gFs 3 34 true rfl rfl rfl ?_
      refine .z zpF (.z zm ?_)
      refine .gFs 3 39 true rfl rfl rfl ?_
      refine .z zpF (.z zg (.nil ?_))
      refine .ret (Fin.bI lq rfl ?_)
      first
      |exact ⟨false,rfl,⟨fun h=>(by cases h),fun h=>(by obtain ⟨g1,g2,g3,g4,g5,g6,g7⟩:=h;simp_all;done)⟩,hs.out⟩
      |exact ⟨_,rfl,⟨fun h=>⟨by simp_all,by simp_all,by simp_all,by simp_all,by simp_all,by simp_all,by simpa using h⟩,fun h=>by simpa using h.day⟩,hs.out⟩
    ·refine .gFs 6 26 true rfl rfl rfl ?_
     refine .z zpF (.z zm ?_)
     refine .gFs 3 34 true rfl rfl rfl ?_
     refine .z zpF (.z zm ?_)
     refine .gFs 3 39 true rfl rfl rfl ?_
     refine .z zpF (.z zg (.nil ?_))
     refine .ret (Fin.bI lq rfl ?_)
     first
     |exact ⟨false,rfl,⟨fun h=>(by cases h),fun h=>(by obtain ⟨g1,g2,g3,g4,g5,g6,g7⟩:=h;simp_all;done)⟩,hs.out⟩
     |exact ⟨_,rfl,⟨fun h=>⟨by simp_all,by simp_all,by simp_all,by simp_all,by simp_all,by simp_all,by simpa using h⟩,fun h=>by simpa using h.day⟩,hs.out⟩
   ·refine .gFs 3 21 true rfl rfl rfl ?_
    refine .z zpF (.z zm ?_)
    refine .gFs 6 26 true rfl rfl rfl ?_
    refine .z zpF (.z zm ?_)
    refine .gFs 3 34 true rfl rfl rfl ?_
    refine .z zpF (.z zm ?_)
    refine .gFs 3 39 true rfl rfl rfl ?_
    refine .z zpF (.z zg (.nil ?_))
    refine .ret (Fin.bI lq rfl ?_)
    first
    |exact ⟨false,rfl,⟨fun h=>(by cases h),fun h=>(by obtain ⟨g1,g2,g3,g4,g5,g6,g7⟩:=h;simp_all;done)⟩,hs.out⟩
    |exact ⟨_,rfl,⟨fun h=>⟨by simp_all,by simp_all,by simp_all,by simp_all,by simp_all,by simp_all,by simpa using h⟩,fun h=>by simpa using h.day⟩,hs.out⟩
  ·refine .gFs 7 12 true rfl rfl rfl ?_
   refine .z zpF (.z zm ?_)
   refine .gFs 3 21 true rfl rfl rfl ?_
   refine .z zpF (.z zm ?_)
   refine .gFs 6 26 true rfl rfl rfl ?_
   refine .z zpF (.z zm ?_)
   refine .gFs 3 34 true rfl rfl rfl ?_
   refine .z zpF (.z zm ?_)
   refine .gFs 3 39 true rfl rfl rfl ?_
   refine .z zpF (.z zg (.nil ?_))
   refine .ret (Fin.bI lq rfl ?_)
   first
   |exact ⟨false,rfl,⟨fun h=>(by cases h),fun h=>(by obtain ⟨g1,g2,g3,g4,g5,g6,g7⟩:=h;simp_all;done)⟩,hs.out⟩
   |exact ⟨_,rfl,⟨fun h=>⟨by simp_all,by simp_all,by simp_all,by simp_all,by simp_all,by simp_all,by simpa using h⟩,fun h=>by simpa using h.day⟩,hs.out⟩
 ·refine .gFs 7 3 true rfl rfl rfl ?_
  refine .z zpF (.z zm ?_)
  refine .gFs 7 12 true rfl rfl rfl ?_
  refine .z zpF (.z zm ?_)
  refine .gFs 3 21 true rfl rfl rfl ?_
  refine .z zpF (.z zm ?_)
  refine .gFs 6 26 true rfl rfl rfl ?_
  refine .z zpF (.z zm ?_)
  refine .gFs 3 34 true rfl rfl rfl ?_
  refine .z zpF (.z zm ?_)
  refine .gFs 3 39 true rfl rfl rfl ?_
  refine .z zpF (.z zg (.nil ?_))
  refine .ret (Fin.bI lq rfl ?_)
  first
  |exact ⟨false,rfl,⟨fun h=>(by cases h),fun h=>(by obtain ⟨g1,g2,g3,g4,g5,g6,g7⟩:=h;simp_all;done)⟩,hs.out⟩
  |exact ⟨_,rfl,⟨fun h=>⟨by simp_all,by simp_all,by simp_all,by simp_all,by simp_all,by simp_all,by simpa using h⟩,fun h=>by simpa using h.day⟩,hs.out⟩
theorem fI{s:Spc}{vst vwa:Value}(hs:St H w σ)(h1:RI H vst s.st)(h2:RI H vwa s.wa)(hb:s.st.length≤1000∧s.wa.length≤1000):
  Cl Tryz.prog 97 [.agg #[I s.id,I s.src,vst,vwa,I s.al,I s.up]] w fun v w'=>v=I (s.many:Int)∧St H w' σ:=by
 obtain ⟨ast,cst,rfl⟩:=RI.shape h1
 obtain ⟨awa,cwa,rfl⟩:=RI.shape h2
 have hm:=l7 (a:=(s.st.length:Int)) (b:=(s.wa.length:Int)) (A:=1000) (B:=1000) aj aj
 refine Cl.o Tryz.func97 Tryz.ntmps97 ag1 ?_
 refine .af ?_
 refine .bx hs fun b1 w hs=>?_
 refine .z zg (.nil (.af (.z (zfa bu) (.y hs (zld ak) (.z (c9 ad) (.z (zfa bn) (.y hs (zld ak) (.z (c9 ad) (.z kG ?_)))))))))
 refine .z zg (.nil ?_)
 refine .ret (Fin.bI Tryz.results97 rfl ?_)
 exact ⟨by unfold Spc.many;rw [Int.natCast_mul],hs.out⟩
theorem dC{s:Spc}{vst vwa:Value}{a b:Int}(hs:St H w σ)(h2:RI H vwa s.wa)(hb:s.wa.length≤1000)(ha: -1000≤a∧a≤1000)(hb': -1000≤b∧b≤1000):
  Cl Tryz.prog 121 [.agg #[I s.id,I s.src,vst,vwa,I s.al,I s.up],I a,I b] w fun v w'=>v=I (1+a*s.wa.length+b)∧St H w' σ:=by
 obtain ⟨awa,cwa,rfl⟩:=RI.shape h2
 have hm:=l7 (a:=a) (b:=(s.wa.length:Int)) (A:=1000) (B:=1000) aj aj
 refine Cl.o Tryz.func121 Tryz.ntmps121 ag3 ?_
 refine .af ?_
 refine .bx hs fun b3 w hs=>?_
 refine .z zg (.nil (.af (.z zm (.z (zfa bn) (.y hs (zld ak) (.z (c9 ad) (.z kG (.z cC (.z zm ?_)))))))))
 refine .z cC (.z zg (.nil ?_))
 refine .ret (Fin.bI Tryz.results121 rfl ?_)
 exact ⟨rfl,hs.out⟩
theorem ks{a b:Int}(hs:St H w σ)(ha:0≤a∧a≤100000)(hb:0≤b∧b≤100000):
  Cl Tryz.prog 193 [I a,I b] w fun v w'=>v=I (iT a b)∧St H w' σ:=by
 have hm:=l7 (a:=a) (b:=b) (A:=100000) (B:=100000) aj aj
 have h0:=Int.mul_nonneg ha.1 hb.1
 have hq0:0≤(a*b+999).tdiv 1000:=Int.tdiv_nonneg aj aj
 have hq1:(a*b+999).tdiv 1000≤a*b+999:=by rw [Int.tdiv_eq_ediv_of_nonneg aj];omega
 refine Cl.o Tryz.func193 Tryz.ntmps193 ag2 ?_
 refine .af (.z zg (.nil (.af (.z zm (.z zm (.z kG (.z cC ?_)))))))
 refine .q hs (vi rfl rfl aj aj) ?_
 refine .z A3 (.z zg (.nil ?_))
 refine .ret (Fin.bI Tryz.results193 rfl ?_)
 exact ⟨rfl,hs⟩
theorem jw{a b m s:Int}(hs:St H w σ):
  Cl Tryz.prog 119 [I a,I b,I m,I s] w fun v w'=>∃b0,v= .slice (some ⟨b0,0,none⟩) 2 2∧St H w' (.blk b0 (fy (two a b m m s))::σ):=by
 refine Cl.o Tryz.func119 Tryz.ntmps119 ag4 ?_
 refine .af (.z zg (.nil (.af (.z zm (.z zm (.z zm (.z zm (.z (zbd [_,_,_,_] dQ) (.z zm ?_)))))))))
 refine .z zm (.z zm (.z zm (.z (zbd [_,_,_,_] dQ) ?_)))
 refine .o (.buildSlice (cells:=fy (two a b m m s)) hs eO rfl au fun b19 w hs=>?_)
 refine .z zg (.nil ?_)
 refine .ret (Fin.bI Tryz.results119 rfl ?_)
 exact ⟨b19,rfl,hs⟩
theorem rz{c:Cmp}{t:TD}{f:Int}(hs:St H w σ)(hlo: -1000000≤c.lo∧c.lo≤1000000):
  Cl Tryz.prog 194 [.agg #[I c.src,I c.tape,I c.fr,I c.to,I c.lo,I c.hi],.agg #[I t.tape,I t.day],I f] w fun v w'=>∃en,bS 4 v (fy (jr c t f)) en∧St H w' (en::σ):=by
 refine Cl.o Tryz.func194 Tryz.ntmps194 ag3 ?_
 refine .af ?_
 refine .bx hs fun b3 w hs=>?_
 refine .bx hs fun b4 w hs=>?_
 refine .z zg (.nil (.seq (.af (.z (zfa iX) (.y hs (zld ae) (.z (zfa iU) (.y hs (zld ae) (.z fM (.z zm ?_)))))))))
 refine .yU (t':=12) rfl (fun hb12=>?_) (fun hb12=>?_)
 ·refine .gFs 5 5 false rfl rfl rfl ?_
  refine .z zpT (.z zm ?_)
  refine .gFs 5 12 false rfl rfl rfl ?_
  refine .z zpT (.nil ?_)
  refine (.cT ?_)
  refine .af (.z zg (.nil ?_))
  refine .ret (rT (Fin.bI Tryz.results194 rfl ?_))
  exact ⟨.nul,by unfold jr;rw [if_neg aj];exact .nil 4 none,hs.tail.tail.nul⟩
 ·refine .gT rfl rfl ?_
  refine .z (zfa gK) ?_
  refine .gT rfl rfl ?_
  refine .y hs (zld ae) ?_
  refine .gT rfl rfl ?_
  refine .z (zfa iW) ?_
  refine .gT rfl rfl ?_
  refine .y hs (zld ae) ?_
  refine .gT rfl rfl ?_
  refine .z gp (.z zpF (.z zm ?_))
  refine .kf (t':=19) rfl (fun hb19=>?_) (fun hb19=>?_)
  ·refine .gFs 5 12 false rfl rfl rfl ?_
   refine .z zpT (.nil ?_)
   refine (.cT ?_)
   refine .af (.z zg (.nil ?_))
   refine .ret (rT (Fin.bI Tryz.results194 rfl ?_))
   exact ⟨.nul,by unfold jr;rw [if_neg aj];exact .nil 4 none,hs.tail.tail.nul⟩
  ·refine .gT rfl rfl ?_
   refine .z (zfa gK) ?_
   refine .gT rfl rfl ?_
   refine .y hs (zld ae) ?_
   refine .gT rfl rfl ?_
   refine .z (zfa gM) ?_
   refine .gT rfl rfl ?_
   refine .y hs (zld ae) ?_
   refine .gT rfl rfl ?_
   refine .z od (.z zpF (.nil ?_))
   refine (.ck rfl (fun hc25=>?_) (fun hc25=>?_))
   ·refine .af (.z zg (.nil ?_))
    refine .ret (rT (Fin.bI Tryz.results194 rfl ?_))
    exact ⟨.nul,by unfold jr;rw [if_neg aj];exact .nil 4 none,hs.tail.tail.nul⟩
   ·refine .skip ?_
    refine nT ?_
    refine .af (.z zm (.z (zfa iV) (.y hs (zld ae) (.z zj (.z (zfa eH) (.y hs (zld ae) (.z (zbd [_,_,_,_] dQ) (.z zm (.z (zfa gL) ?_)))))))))
    refine .y hs (zld ae) (.z (zfa eH) (.y hs (zld ae) (.z (zbd [_,_,_,_] dQ) ?_)))
    refine .o (.buildSlice (cells:=fy (two 0 f (-c.lo) c.hi c.src)) hs eO rfl au fun b39 w hs=>?_)
    refine .z zg (.nil ?_)
    refine .ret (Fin.bI Tryz.results194 rfl ?_)
    exact ⟨_,by unfold jr;rw [if_pos aj];exact .full (by simp [two,dj]),hs.sb⟩
theorem iS{v:Value}{xs:List TD}{t:TD}(hs:St H w σ)(hr:RTd H v xs)(hl:xs.length≤1000000):
  Cl Tryz.prog 93 [v,.agg #[I t.tape,I t.day]] w fun u w'=>u=I (gS xs t)∧St H w' σ:=by
 obtain ⟨a,c,rfl⟩:=RTd.shape hr
 refine Cl.o Tryz.func93 Tryz.ntmps93 ag2 ?_
 refine .af ?_
 refine .bx hs fun b3 w hs=>?_
 refine .z zg (.nil (.seq (.af (.z zg (.nil (.block ?_))))))
 refine .loop (fun k:Nat=>⟨19,[],[(5,I (k:Int)),(3,.pointer (some ⟨b3,0,none⟩)),(0,.slice a xs.length c)]⟩)
  (fun k w=>k≤xs.length∧(∀j<k,∀y,xs[j]? =some y→¬y=t)∧St H w (.blk b3 [I t.tape,I t.day]::σ)) (fun k=>xs.length - k) 0 (.de rfl cm bD)
  ⟨Nat.zero_le _,fun j hj=>by omega,hs⟩ ?_
 rintro k w ⟨hk,hno,hs⟩
 refine .seq (.af (.z zm (.z zm (.z (c9 aP) (.z gp (.nil ?_))))))
 refine (.ck rfl (fun hc9=>?_) (fun hc9=>?_))
 ·refine .skip ?_
  refine nT ?_
  refine .seq (.block ?_)
  refine .seq (.draw mix rfl hs fun w hs=>?_)
  refine .z 0 rfl zm ?_;refine .z 1 rfl zm ?_
  obtain ⟨x,hx⟩:=nth (l:=xs) (k:=k) aj
  refine .ixX (enc:=TD.c) (i:=2) hs rfl au .none hr rfl rfl aP bq hx dx ?_;intro b14 o14 hc14
  refine .r (i:=3) hs rfl au .none (cd (vs:=x.c) rfl df bq hc14) ?_
  refine .ys 4 rfl hs [_,_] df bq ?_
  refine .z 5 rfl (ld oo oq fh (fun f hf=>by
   simp only [List.mem_cons,List.not_mem_nil,or_false] at hf
   rcases hf with rfl|rfl<;>exact ⟨by decide,aQ,ae⟩) rfl rfl) ?_
  refine .D hs ?_
  refine (.cond rfl (fun hc17=>?_) (fun hc17=>?_))
  ·refine .af (.z zm (.z zg (.nil ?_)))
   refine .ret (rB (rT (rT (rB (rT (Fin.bI Tryz.results93 rfl ?_))))))
   have e:x=t:=zw.1 (of_decide_eq_true hc17)
   subst e
   exact ⟨by rw [lP hx fun j hj h=>hno j hj _ h rfl],hs.tail⟩
  ·refine .skip ?_
   refine nB (nT ?_)
   refine .region (.z zm (.z cC (.z zg (.nil ?_))))
   refine nT ?_
   exact ⟨k+1,.de rfl cm bD,⟨aj,ed hno hx (fun e=>by subst e;simp at hc17),hs⟩,aj⟩
 ·refine .exit ?_
  refine xT (xT (xB (nT ?_)))
  refine .af (.z zg (.nil ?_))
  refine .ret (Fin.bI Tryz.results93 rfl ?_)
  obtain rfl:k=xs.length:=by omega
  exact ⟨by rw [qR hno],hs.tail⟩
theorem lX{v:Value}{en:Ent}{xs:List TD}{t:TD}(hs:St H w (en::σ))(hO:bS 2 v (tdc xs).flatten en)(hl:xs.length≤1000000):
  Cl Tryz.prog 93 [v,.agg #[I t.tape,I t.day]] w fun u w'=>u=I (gS xs t)∧St H w' (en::σ):=by
 obtain ⟨a,c,rfl⟩:=hO.fj (j5 xs) aj
 rw [da] at hO ⊢
 refine Cl.o Tryz.func93 Tryz.ntmps93 ag2 ?_
 refine .af ?_
 refine .bx hs fun b3 w hs=>?_
 refine .z zg (.nil (.seq (.af (.z zg (.nil (.block ?_))))))
 refine .loop (fun k:Nat=>⟨19,[],[(5,I (k:Int)),(3,.pointer (some ⟨b3,0,none⟩)),(0,.slice a xs.length c)]⟩)
  (fun k w=>k≤xs.length∧(∀j<k,∀y,xs[j]? =some y→¬y=t)∧St H w (.blk b3 [I t.tape,I t.day]::en::σ)) (fun k=>xs.length - k) 0 (.de rfl cm bD)
  ⟨Nat.zero_le _,fun j hj=>by omega,hs⟩ ?_
 rintro k w ⟨hk,hno,hs⟩
 refine .seq (.af (.z zm (.z zm (.z (c9 aP) (.z gp (.nil ?_))))))
 refine (.ck rfl (fun hc9=>?_) (fun hc9=>?_))
 ·refine .skip ?_
  refine nT ?_
  refine .seq (.block ?_)
  refine .seq (.draw mix rfl hs fun w hs=>?_)
  refine .z 0 rfl zm ?_;refine .z 1 rfl zm ?_
  obtain ⟨x,hx⟩:=nth (l:=xs) (k:=k) aj
  obtain ⟨b,c',sp,hv,rfl,_⟩:=hO.CO (j5 xs) aj (by rw [da];omega)
  rw [da] at hv
  cases hv
  refine .z 2 rfl (sO aP bq) ?_
  refine .wS (i:=3) (vs:=x.c) hs rfl au .none rfl df bq ?_ (hv:=qh (j5 xs) (wB hx) sp)
  refine .ys 4 rfl hs [_,_] df bq ?_
  refine .z 5 rfl (ld oo oq fh (fun f hf=>by
   simp only [List.mem_cons,List.not_mem_nil,or_false] at hf
   rcases hf with rfl|rfl<;>exact ⟨by decide,aQ,ae⟩) rfl rfl) ?_
  refine .D hs ?_
  refine (.cond rfl (fun hc17=>?_) (fun hc17=>?_))
  ·refine .af (.z zm (.z zg (.nil ?_)))
   refine .ret (rB (rT (rT (rB (rT (Fin.bI Tryz.results93 rfl ?_))))))
   have e:x=t:=zw.1 (of_decide_eq_true hc17)
   subst e
   exact ⟨by rw [lP hx fun j hj h=>hno j hj _ h rfl],hs.tail⟩
  ·refine .skip ?_
   refine nB (nT ?_)
   refine .region (.z zm (.z cC (.z zg (.nil ?_))))
   refine nT ?_
   exact ⟨k+1,.de rfl cm bD,⟨aj,ed hno hx (fun e=>by subst e;simp at hc17),hs⟩,aj⟩
 ·refine .exit ?_
  refine xT (xT (xB (nT ?_)))
  refine .af (.z zg (.nil ?_))
  refine .ret (Fin.bI Tryz.results93 rfl ?_)
  obtain rfl:k=xs.length:=by omega
  exact ⟨by rw [qR hno],hs.tail⟩
set_option maxHeartbeats 1000000 in
theorem gJ{vr:Value}{rs:List Rdg}(hs:St H w σ)(hr:RRd H vr rs)(hl:rs.length≤1000000):
  Cl Tryz.prog 94 [vr] w fun u w'=>∃H1,HLe H H1∧RTd H1 u (aS rs)∧St H1 w' σ:=by
 obtain ⟨ar,cr,rfl⟩:=RRd.shape hr
 refine Cl.o Tryz.func94 Tryz.ntmps94 ag1 ?_
 refine .af (.z zg (.nil (.af (.z zg (.nil (.seq (.af (.z zg (.nil ?_)))))))))
 refine .block ?_
 refine .loop (fun p:Nat×Value=>⟨32,[],[(4,I (p.1:Int)),(3,p.2),(0,.slice ar rs.length cr)]⟩)
  (fun p w=>p.1≤rs.length∧∃en,bS 2 p.2 (tdc (aS (rs.take p.1))).flatten en∧St H w (en::σ)) (fun p=>rs.length - p.1) (0,.slice none 0 0) bD
  ⟨Nat.zero_le _,_,.nil 2 none,hs.nul⟩ ?_
 rintro ⟨k,vo⟩ w ⟨hk,en,hO,hs⟩
 dsimp only at hk hO ⊢
 have htl:=js rs k aj
 obtain ⟨ao,co,rfl⟩:=hO.fj (j5 _) aj
 rw [da] at hO ⊢
 refine .seq (.af (.z zm (.z zm (.z (c9 aF) (.z gp (.nil ?_))))))
 refine (.ck rfl (fun hc9=>?_) (fun hc9=>?_))
 ·refine .skip ?_
  refine nT ?_
  refine .seq (.block ?_)
  refine .seq (.draw mix rfl hs fun w hs=>?_)
  refine .z 0 rfl zm ?_;refine .z 1 rfl zm ?_
  obtain ⟨r,hx⟩:=nth (l:=rs) (k:=k) aj
  have htk:=gY hx
  refine .ixX (enc:=Rdg.c) (i:=2) hs rfl au .none hr rfl rfl aF aD hx dx ?_;intro b14 o14 hc14
  have d14:cellAt H b14 (o14+5)=some (I r.tape):=hc14 5 _ rfl
  refine .z 3 rfl (zfa dY) ?_;refine .y 4 rfl hs ae ?_;refine .z 5 rfl zm ?_;refine .z 6 rfl zm ?_
  refine .ixX (enc:=Rdg.c) (i:=7) hs rfl au .none hr rfl rfl aF aD hx dx ?_;intro b19 o19 hc19
  have d19:cellAt H b19 (o19+6)=some (I r.day):=hc19 6 _ rfl
  refine .z 8 rfl (zfa dX) ?_;refine .y 9 rfl hs ae ?_;refine .z 10 rfl (zbd [_,_] fb) ?_
  refine .E 11 hs ?_
  refine .alloc hs kj rfl ?_;intro b5 w hs
  refine .go ?_
  refine .E 12 hs ?_
  refine .aO (vs:=[_,_]) hs rfl rfl bq ?_;intro w hs
  refine .go ?_
  refine .D hs ?_
  refine .af (.z zm (.y hs (zls [_,_] df bq) ?_))
  refine .o (.call Tryz.call93 rfl (lX (t:=r.td) (hs.sb:St H w (en:: .blk b5 [I r.tape,I r.day]::σ)) hO aj) ?_);rintro _ w ⟨rfl,hs⟩
  have hnn:=jK (l:=aS (rs.take k)) (t:=r.td)
  refine .z gp (.nil ?_)
  refine (.ck rfl (fun hc26=>?_) (fun hc26=>?_))
  ·refine .region (.z zm (.y hs (zls [_,_] df bq) ?_))
   refine .o (.buildSlice (cells:=[_,_]) hs eY rfl rfl fun b29 w hs=>?_)
   refine .o (.append (ys:=r.td.c) hs dm rfl rfl hO (.own .here rfl rfl) (by simp [TD.c,Value.oneCell']) (fun l h=>by rw [bE _ (j5 _),da] at h;omega) ?_);intro v30 en30 w hO2 hs
   refine .z zg (.nil ?_)
   refine nB (nT ?_)
   refine .region (.z zm (.z cC (.z zg (.nil ?_))))
   refine nT ?_
   have hn:r.td∉aS (rs.take k):=fun hm=>by have:=hnn.2 hm;omega
   rw [←qQ,show aS (rs.take k)++[r.td]=aS (rs.take (k+1)) by rw [htk];unfold mW;rw [if_neg hn]] at hO2
   exact ⟨(k+1,v30),.de rfl cm bD,⟨by dsimp only;omega,_,hO2,hs.sb⟩,by dsimp only;omega⟩
  ·refine .skip ?_
   refine nB (nT ?_)
   refine .region (.z zm (.z cC (.z zg (.nil ?_))))
   refine nT ?_
   have hm:r.td∈aS (rs.take k):=hnn.1 aj
   exact ⟨(k+1,_),.de rfl cm bD,⟨by dsimp only;omega,en,by dsimp only;rw [htk];unfold mW;rw [if_pos hm];exact hO,hs.sb⟩,by dsimp only;omega⟩
 ·refine .exit ?_
  refine xT (xT (xB (nT ?_)))
  refine .af (.z zm (.z zg (.nil ?_)))
  refine .ret (Fin.bI Tryz.results94 rfl ?_)
  obtain rfl:k=rs.length:=by omega
  rw [List.take_length] at hO
  have htl:=cH rs
  obtain ⟨H2,hle2,hR,hs⟩:=bS.cf (m:=2) (cs:=tdc (aS rs)) hO (j5 _) aj (by rw [da];omega) hs .here
  rw [List.take_length]
  exact ⟨H2,hle2,hR,hs⟩
theorem zo(s:Spc)(i k:Nat):1+(i:Int)*(s.wa.length:Int)+(k:Int)=(s.u i k:Int):=by
 unfold Spc.u;rw [Int.natCast_add,Int.natCast_add,Int.natCast_mul];rfl
theorem D6(s:Spc)(i k:Nat):1+((i:Int)+1)*(s.wa.length:Int)+(k:Int)=(s.u (i+1) k:Int):=by
 rw [←zo];rfl
theorem D5(s:Spc)(i k:Nat):1+(i:Int)*(s.wa.length:Int)+((k:Int)+1)=(s.u i (k+1):Int):=by
 rw [←zo];rfl
theorem jT{f:Nat→Nat→List Lim}(hf:∀i k,(f i k).length≤2)(i:Nat):∀k,(kB f i k).length≤2*k
 |0=>by simp [kB]
 |k+1=>by have:=jT hf i k;have:=hf i k;simp only [kB,List.length_append];omega
theorem kA{f:Nat→Nat→List Lim}(hf:∀i k,(f i k).length≤2){m n:Nat}(hm:m≤7)(hn:n≤9)(h0:0<m):(dM f m n).length≤126:=by
 have h1:=eh hf (n:=n) h0
 have:n*m≤9*7:=Nat.mul_le_mul hn hm
 omega
theorem DD{s:Spc}(h0:0<s.st.length):dM (alL s) s.wa.length s.st.length=dM (alL s) s.wa.length (s.st.length - 1):=by
 obtain ⟨n,hn⟩:∃n,s.st.length=n+1:=⟨s.st.length - 1,aj⟩
 have key:∀k,kB (alL s) n k=[]:=by
  intro k
  induction k with
  |zero=>rfl
  |succ k ih=>simp only [kB];rw [ih];unfold alL;rw [if_neg aj];rfl
 rw [hn,Nat.add_sub_cancel]
 simp only [dM]
 rw [key,List.append_nil]
theorem CW{s:Spc}(i:Nat)(h0:0<s.wa.length):kB (upL s) i s.wa.length=kB (upL s) i (s.wa.length - 1):=by
 obtain ⟨n,hn⟩:∃n,s.wa.length=n+1:=⟨s.wa.length - 1,aj⟩
 have e:upL s i n=[]:=by unfold upL;rw [if_neg aj]
 rw [hn,Nat.add_sub_cancel]
 simp only [kB]
 rw [e,List.append_nil]
set_option maxHeartbeats 4000000 in
theorem qz{s:Srv}{vst vwa vr vc:Value}(hs:St H w σ)(h1:RI H vst s.sp.st)(h2:RI H vwa s.sp.wa)(h3:RRd H vr s.rs)(h4:RCm H vc s.cs)(he:s.early):
  Cl Tryz.prog 111 [.agg #[I s.sp.id,I s.sp.src,vst,vwa,I s.sp.al,I s.sp.up,vr,vc]] w fun u w'=>∃H1 en,HLe H H1∧bS 4 u (fy s.bV) en∧St H1 w' (en::σ):=by
 obtain ⟨ast,cst,rfl⟩:=RI.shape h1
 obtain ⟨awa,cwa,rfl⟩:=RI.shape h2
 obtain ⟨ar,cr,rfl⟩:=RRd.shape h3
 obtain ⟨ac,cc,rfl⟩:=RCm.shape h4
 obtain ⟨hok,hrl,hcl,hrs,hcs⟩:=he
 have hsm:=dB hok
 have hn1:=hok.st.many
 have hn2:=hok.wa.many
 have hn3:=hok.st.two
 have hn4:=hok.wa.two
 have ha:=kA (kU s.sp) (m:=s.sp.wa.length) (n:=s.sp.st.length) aj aj aj
 have hb:=kA (nR s.sp) (m:=s.sp.wa.length) (n:=s.sp.st.length) aj aj aj
 have hc:=kA (nu s.sp) (m:=s.sp.wa.length) (n:=s.sp.st.length) aj aj aj
 have hal:=hok.al
 have hup:=hok.up
 refine Cl.o Tryz.func111 Tryz.ntmps111 ag1 ?_
 refine .af ?_
 refine .bx hs fun b1 w hs=>?_
 refine .z zg (.nil (.af (.z (zfa aK) (.y hs (zls [_,_,_,_,_,_] aM aE) ?_))))
 refine .o (.alloc hs im rfl fun b3 w hs=>?_)
 refine .o (.aO (vs:=[_,_,_,_,_,_]) hs rfl rfl aE fun w hs=>?_)
 refine .nil (.af (.z zg (.nil (.seq (.af (.z zg (.nil (.block ?_))))))))
 refine .loop (fun p:Nat×Value=>⟨243,[],[(5,I (p.1:Int)),(4,p.2),(3,.pointer (some ⟨b3,0,none⟩)),(1,.pointer (some ⟨b1,0,none⟩))]⟩)
  (fun p w=>p.1≤s.sp.st.length∧∃en,bS 4 p.2 (fy (dM (pb s.sp) s.sp.wa.length p.1)) en∧St H w (en:: .blk b3 [I s.sp.id,I s.sp.src,.slice ast s.sp.st.length cst,.slice awa s.sp.wa.length cwa,I s.sp.al,I s.sp.up]:: .blk b1 [I s.sp.id,I s.sp.src,.slice ast s.sp.st.length cst,.slice awa s.sp.wa.length cwa,I s.sp.al,I s.sp.up,.slice ar s.rs.length cr,.slice ac s.cs.length cc]::σ)) (fun p=>s.sp.st.length - p.1) (0,.slice none 0 0) bD
  ⟨by first|omega|exact Nat.zero_le _,_,.nil 4 none,hs.nul⟩ ?_
 rintro ⟨i,vo⟩ w ⟨hi,en,hO,hs⟩
 dsimp only at hi hO ⊢
 refine .seq (.af (.z zm (.z (zfa bu) (.y hs (zld ak) (.z (c9 ad) (.z gp (.nil ?_)))))))
 refine (.ck rfl (fun hc27=>?_) (fun hc27=>?_))
 ·refine .skip ?_
  refine nT ?_
  refine .seq (.block (.af (.z zg (.nil (.block ?_)))))
  refine .loop (fun p:Nat×Value=>⟨243,[],[(6,I (p.1:Int)),(4,p.2),(5,I (i:Int)),(3,.pointer (some ⟨b3,0,none⟩)),(1,.pointer (some ⟨b1,0,none⟩))]⟩)
   (fun p w=>p.1≤s.sp.wa.length∧∃en,bS 4 p.2 (fy (dM (pb s.sp) s.sp.wa.length i++kB (pb s.sp) i p.1)) en∧St H w (en:: .blk b3 [I s.sp.id,I s.sp.src,.slice ast s.sp.st.length cst,.slice awa s.sp.wa.length cwa,I s.sp.al,I s.sp.up]:: .blk b1 [I s.sp.id,I s.sp.src,.slice ast s.sp.st.length cst,.slice awa s.sp.wa.length cwa,I s.sp.al,I s.sp.up,.slice ar s.rs.length cr,.slice ac s.cs.length cc]::σ)) (fun p=>s.sp.wa.length - p.1) (0,vo) bD
   ⟨by first|omega|exact Nat.zero_le _,en,by show bS 4 vo (fy (_++[])) en;rw [List.append_nil];exact hO,hs⟩ ?_
  clear hO hs
  rintro ⟨k,vo⟩ w ⟨hk,en,hO,hs⟩
  dsimp only at hk hO ⊢
  have hl1:=kA (kU s.sp) (m:=s.sp.wa.length) (n:=i) aj aj aj
  have hl2:=jT (kU s.sp) i k
  refine .seq (.af (.z zm (.z (zfa bn) (.y hs (zld ak) (.z (c9 ad) (.z gp (.nil ?_)))))))
  refine (.ck rfl (fun hc34=>?_) (fun hc34=>?_))
  ·refine .skip ?_
   refine nT ?_
   refine .seq (.block (.af (.y hs (zls [_,_,_,_,_,_] aM aE) (.z zm (.z zm ?_)))))
   refine .o (.call m8 rfl (dC (s:=s.sp) hs h2 aj ⟨aj,aj⟩ ⟨aj,aj⟩) ?_);rintro _ w ⟨rfl,hs⟩
   rw [zo]
   refine .z zg (.nil (.region (.z zm (.z zm (.z (zfa dh) (.y hs (zld ae) (.z (zbd [_,_,_,_] dQ) (.z zm (.z (zfa dh) ?_)))))))))
   refine .y hs (zld ae) (.z (zbd [_,_,_,_] dQ) ?_)
   refine .o (.buildSlice (cells:=fy (pb s.sp i k)) hs eO rfl au fun b50 w hs=>?_)
   refine .o (.append (ys:=fy (pb s.sp i k)) hs bO rfl rfl hO (.own .here rfl rfl) (iR _) (fun l h=>by rw [dj,List.length_append] at h;omega) ?_);intro v51 en51 w hO2 hs
   rw [←fw,List.append_assoc] at hO2
   refine .z zg (.nil ?_)
   refine nB (nT ?_)
   refine .region (.z zm (.z cC (.z zg (.nil ?_))))
   refine nT ?_
   exact ⟨(k+1,v51),.de rfl cm bD,⟨by dsimp only;omega,_,hO2,hs.sb⟩,by dsimp only;omega⟩
  ·refine .exit ?_
   refine xT (xT (xB (nB (nT ?_))))
   refine .region (.z zm (.z cC (.z zg (.nil ?_))))
   refine nT ?_
   obtain rfl:k=s.sp.wa.length:=by omega
   exact ⟨(i+1,_),.de rfl cm bD,⟨by dsimp only;omega,en,hO,hs⟩,by dsimp only;omega⟩
 ·refine .exit ?_
  refine xT (xT (xB (nT ?_)))
  refine .seq (.af (.z zg (.nil (.block ?_))))
  refine .loop (fun p:Nat×Value=>⟨243,[],[(8,I (p.1:Int)),(4,p.2),(3,.pointer (some ⟨b3,0,none⟩)),(1,.pointer (some ⟨b1,0,none⟩))]⟩)
   (fun p w=>p.1+1≤s.sp.st.length∧∃en,bS 4 p.2 (fy (dM (pb s.sp) s.sp.wa.length s.sp.st.length++dM (alL s.sp) s.sp.wa.length p.1)) en∧St H w (en:: .blk b3 [I s.sp.id,I s.sp.src,.slice ast s.sp.st.length cst,.slice awa s.sp.wa.length cwa,I s.sp.al,I s.sp.up]:: .blk b1 [I s.sp.id,I s.sp.src,.slice ast s.sp.st.length cst,.slice awa s.sp.wa.length cwa,I s.sp.al,I s.sp.up,.slice ar s.rs.length cr,.slice ac s.cs.length cc]::σ)) (fun p=>s.sp.st.length - p.1) (0,vo) bD
   ⟨by first|omega|exact Nat.zero_le _,en,by show bS 4 vo (fy (_++[])) en;rw [List.append_nil,←show i=s.sp.st.length by omega];exact hO,hs⟩ ?_
  clear hO hs
  rintro ⟨i,vo⟩ w ⟨hi,en,hO,hs⟩
  dsimp only at hi hO ⊢
  refine .seq (.af (.z zm (.z cC (.z (zfa bu) (.y hs (zld ak) (.z (c9 ad) (.z gp (.nil ?_))))))))
  refine (.ck rfl (fun hc57=>?_) (fun hc57=>?_))
  ·refine .skip ?_
   refine nT ?_
   refine .seq (.block (.af (.z zg (.nil (.block ?_)))))
   refine .loop (fun p:Nat×Value=>⟨243,[],[(9,I (p.1:Int)),(4,p.2),(8,I (i:Int)),(3,.pointer (some ⟨b3,0,none⟩)),(1,.pointer (some ⟨b1,0,none⟩))]⟩)
    (fun p w=>p.1≤s.sp.wa.length∧∃en,bS 4 p.2 (fy (dM (pb s.sp) s.sp.wa.length s.sp.st.length++dM (alL s.sp) s.sp.wa.length i++kB (alL s.sp) i p.1)) en∧St H w (en:: .blk b3 [I s.sp.id,I s.sp.src,.slice ast s.sp.st.length cst,.slice awa s.sp.wa.length cwa,I s.sp.al,I s.sp.up]:: .blk b1 [I s.sp.id,I s.sp.src,.slice ast s.sp.st.length cst,.slice awa s.sp.wa.length cwa,I s.sp.al,I s.sp.up,.slice ar s.rs.length cr,.slice ac s.cs.length cc]::σ)) (fun p=>s.sp.wa.length - p.1) (0,vo) bD
    ⟨by first|omega|exact Nat.zero_le _,en,by show bS 4 vo (fy (_++[])) en;rw [List.append_nil];exact hO,hs⟩ ?_
   clear hO hs
   rintro ⟨k,vo⟩ w ⟨hk,en,hO,hs⟩
   dsimp only at hk hO ⊢
   have hl1:=kA (nR s.sp) (m:=s.sp.wa.length) (n:=i) aj aj aj
   have hl2:=jT (nR s.sp) i k
   refine .seq (.af (.z zm (.z (zfa bn) (.y hs (zld ak) (.z (c9 ad) (.z gp (.nil ?_)))))))
   refine (.ck rfl (fun hc64=>?_) (fun hc64=>?_))
   ·refine .skip ?_
    refine nT ?_
    refine .seq (.block ?_)
    refine .draw mix rfl hs fun w hs=>?_
    refine .z 0 rfl zm ?_;refine .ys 1 rfl hs [_,_,_,_,_,_] aM aE ?_;refine .z 2 rfl zm ?_;refine .z 3 rfl zm ?_;refine .ys 5 rfl hs [_,_,_,_,_,_] aM aE ?_;refine .z 6 rfl zm ?_;refine .z 7 rfl cC ?_;refine .z 8 rfl zm ?_;refine .z 10 rfl (zfa eU) ?_;refine .z 11 rfl (zfa kS) ?_
    refine .y 12 rfl hs ae ?_;refine .z 13 rfl (zfa bu) ?_;refine .y 14 rfl hs ak ?_;refine .z 15 rfl zm ?_;refine .z 16 rfl cC ?_
    have hris:=hok.st.rise i aj
    have hq0:=hok.st.bd (i:=i) aj
    have hq1:=hok.st.bd (i:=i+1) aj
    refine .ixX (enc:=fun x=>[I x]) (i:=17) hs rfl au .none h1 rfl rfl ad ai (bJ (l:=s.sp.st) (i:=(i+1)) aj) dx ?_;intro b84 o84 hc84;replace hc84:=bQ.one hc84
    refine .r (i:=18) hs rfl au .none (bh rfl ae hc84) ?_
    refine .z 19 rfl (zfa bu) ?_;refine .y 20 rfl hs ak ?_;refine .z 21 rfl zm ?_
    refine .ixX (enc:=fun x=>[I x]) (i:=22) hs rfl au .none h1 rfl rfl ad ai (bJ (l:=s.sp.st) (i:=i) aj) dx ?_;intro b89 o89 hc89;replace hc89:=bQ.one hc89
    refine .r (i:=23) hs rfl au .none (bh rfl ae hc89) ?_
    refine .z 24 rfl hZ ?_;refine .z 26 rfl (zfa dh) ?_;refine .y 27 rfl hs ae ?_
    refine .E 4 hs ?_
    refine .call m8 rfl (dC (s:=s.sp) hs h2 aj ⟨aj,aj⟩ ⟨aj,aj⟩) ?_;rintro _ w ⟨rfl,hs⟩
    rw [zo]
    refine .go ?_
    refine .E 9 hs ?_
    refine .call m8 rfl (dC (s:=s.sp) hs h2 aj ⟨aj,aj⟩ ⟨aj,aj⟩) ?_;rintro _ w ⟨rfl,hs⟩
    rw [D6]
    refine .go ?_
    refine .E 25 hs ?_
    refine .call Tryz.call193 rfl (ks hs aj aj) ?_;rintro _ w ⟨rfl,hs⟩
    refine .go ?_
    refine .E 28 hs ?_
    refine .call Tryz.call119 rfl (jw hs) ?_;rintro _ w ⟨b95,rfl,hs⟩
    rw [show two (s.sp.u i k:Int) _ _ _ _=alL s.sp i k by unfold alL;rw [if_pos aj]] at hs
    refine .go ?_
    refine .E 29 hs ?_
    refine .append (ys:=fy (alL s.sp i k)) hs bO rfl rfl hO (.own .here cm (by rw [dj];unfold alL;rw [if_pos aj];rfl)) (iR _) (fun l h=>by rw [dj] at h;simp only [List.length_append] at h;omega) ?_;intro v96 en96 w hO2 hs
    rw [←fw,List.append_assoc _ (kB _ _ _)] at hO2
    refine .go ?_
    refine .z 30 rfl zg ?_;refine .D hs ?_
    refine nB (nT ?_)
    refine .region (.z zm (.z cC (.z zg (.nil ?_))))
    refine nT ?_
    exact ⟨(k+1,v96),.de rfl cm bD,⟨by dsimp only;omega,_,hO2,hs.sb⟩,by dsimp only;omega⟩
   ·refine .exit ?_
    refine xT (xT (xB (nB (nT ?_))))
    refine .region (.z zm (.z cC (.z zg (.nil ?_))))
    refine nT ?_
    obtain rfl:k=s.sp.wa.length:=by omega
    rw [List.append_assoc] at hO
    exact ⟨(i+1,_),.de rfl cm bD,⟨by dsimp only;omega,en,hO,hs⟩,by dsimp only;omega⟩
  ·refine .exit ?_
   refine xT (xT (xB (nT ?_)))
   refine .seq (.af (.z zg (.nil (.block ?_))))
   refine .loop (fun p:Nat×Value=>⟨243,[],[(10,I (p.1:Int)),(4,p.2),(3,.pointer (some ⟨b3,0,none⟩)),(1,.pointer (some ⟨b1,0,none⟩))]⟩)
    (fun p w=>p.1≤s.sp.st.length∧∃en,bS 4 p.2 (fy (dM (pb s.sp) s.sp.wa.length s.sp.st.length++dM (alL s.sp) s.sp.wa.length s.sp.st.length++dM (upL s.sp) s.sp.wa.length p.1)) en∧St H w (en:: .blk b3 [I s.sp.id,I s.sp.src,.slice ast s.sp.st.length cst,.slice awa s.sp.wa.length cwa,I s.sp.al,I s.sp.up]:: .blk b1 [I s.sp.id,I s.sp.src,.slice ast s.sp.st.length cst,.slice awa s.sp.wa.length cwa,I s.sp.al,I s.sp.up,.slice ar s.rs.length cr,.slice ac s.cs.length cc]::σ)) (fun p=>s.sp.st.length - p.1) (0,vo) bD
    ⟨by first|omega|exact Nat.zero_le _,en,by show bS 4 vo (fy (_++[])) en;rw [List.append_nil,DD aj,←show i=s.sp.st.length - 1 by omega];exact hO,hs⟩ ?_
   clear hO hs
   rintro ⟨i,vo⟩ w ⟨hi,en,hO,hs⟩
   dsimp only at hi hO ⊢
   refine .seq (.af (.z zm (.z (zfa bu) (.y hs (zld ak) (.z (c9 ad) (.z gp (.nil ?_)))))))
   refine (.ck rfl (fun hc101=>?_) (fun hc101=>?_))
   ·refine .skip ?_
    refine nT ?_
    refine .seq (.block (.af (.z zg (.nil (.block ?_)))))
    refine .loop (fun p:Nat×Value=>⟨243,[],[(11,I (p.1:Int)),(4,p.2),(10,I (i:Int)),(3,.pointer (some ⟨b3,0,none⟩)),(1,.pointer (some ⟨b1,0,none⟩))]⟩)
     (fun p w=>p.1+1≤s.sp.wa.length∧∃en,bS 4 p.2 (fy (dM (pb s.sp) s.sp.wa.length s.sp.st.length++dM (alL s.sp) s.sp.wa.length s.sp.st.length++dM (upL s.sp) s.sp.wa.length i++kB (upL s.sp) i p.1)) en∧St H w (en:: .blk b3 [I s.sp.id,I s.sp.src,.slice ast s.sp.st.length cst,.slice awa s.sp.wa.length cwa,I s.sp.al,I s.sp.up]:: .blk b1 [I s.sp.id,I s.sp.src,.slice ast s.sp.st.length cst,.slice awa s.sp.wa.length cwa,I s.sp.al,I s.sp.up,.slice ar s.rs.length cr,.slice ac s.cs.length cc]::σ)) (fun p=>s.sp.wa.length - p.1) (0,vo) bD
     ⟨by first|omega|exact Nat.zero_le _,en,by show bS 4 vo (fy (_++[])) en;rw [List.append_nil];exact hO,hs⟩ ?_
    clear hO hs
    rintro ⟨k,vo⟩ w ⟨hk,en,hO,hs⟩
    dsimp only at hk hO ⊢
    have hl1:=kA (nu s.sp) (m:=s.sp.wa.length) (n:=i) aj aj aj
    have hl2:=jT (nu s.sp) i k
    refine .seq (.af (.z zm (.z cC (.z (zfa bn) (.y hs (zld ak) (.z (c9 ad) (.z gp (.nil ?_))))))))
    refine (.ck rfl (fun hc109=>?_) (fun hc109=>?_))
    ·refine .skip ?_
     refine nT ?_
     refine .seq (.block ?_)
     refine .draw mix rfl hs fun w hs=>?_
     refine .z 0 rfl zm ?_;refine .ys 1 rfl hs [_,_,_,_,_,_] aM aE ?_;refine .z 2 rfl zm ?_;refine .z 3 rfl zm ?_;refine .ys 5 rfl hs [_,_,_,_,_,_] aM aE ?_;refine .z 6 rfl zm ?_;refine .z 7 rfl zm ?_;refine .z 8 rfl cC ?_;refine .z 10 rfl (zfa eU) ?_;refine .z 11 rfl (zfa kR) ?_
     refine .y 12 rfl hs ae ?_;refine .z 13 rfl (zfa bn) ?_;refine .y 14 rfl hs ak ?_;refine .z 15 rfl zm ?_;refine .z 16 rfl cC ?_
     have hris:=hok.wa.rise k aj
     have hq0:=hok.wa.bd (i:=k) aj
     have hq1:=hok.wa.bd (i:=k+1) aj
     refine .ixX (enc:=fun x=>[I x]) (i:=17) hs rfl au .none h2 rfl rfl ad ai (bJ (l:=s.sp.wa) (i:=(k+1)) aj) dx ?_;intro b129 o129 hc129;replace hc129:=bQ.one hc129
     refine .r (i:=18) hs rfl au .none (bh rfl ae hc129) ?_
     refine .z 19 rfl (zfa bn) ?_;refine .y 20 rfl hs ak ?_;refine .z 21 rfl zm ?_
     refine .ixX (enc:=fun x=>[I x]) (i:=22) hs rfl au .none h2 rfl rfl ad ai (bJ (l:=s.sp.wa) (i:=k) aj) dx ?_;intro b134 o134 hc134;replace hc134:=bQ.one hc134
     refine .r (i:=23) hs rfl au .none (bh rfl ae hc134) ?_
     refine .z 24 rfl hZ ?_;refine .z 26 rfl (zfa dh) ?_;refine .y 27 rfl hs ae ?_
     refine .E 4 hs ?_
     refine .call m8 rfl (dC (s:=s.sp) hs h2 aj ⟨aj,aj⟩ ⟨aj,aj⟩) ?_;rintro _ w ⟨rfl,hs⟩
     rw [zo]
     refine .go ?_
     refine .E 9 hs ?_
     refine .call m8 rfl (dC (s:=s.sp) hs h2 aj ⟨aj,aj⟩ ⟨aj,aj⟩) ?_;rintro _ w ⟨rfl,hs⟩
     rw [D5]
     refine .go ?_
     refine .E 25 hs ?_
     refine .call Tryz.call193 rfl (ks hs aj aj) ?_;rintro _ w ⟨rfl,hs⟩
     refine .go ?_
     refine .E 28 hs ?_
     refine .call Tryz.call119 rfl (jw hs) ?_;rintro _ w ⟨b140,rfl,hs⟩
     rw [show two (s.sp.u i k:Int) _ _ _ _=upL s.sp i k by unfold upL;rw [if_pos aj]] at hs
     refine .go ?_
     refine .E 29 hs ?_
     refine .append (ys:=fy (upL s.sp i k)) hs bO rfl rfl hO (.own .here cm (by rw [dj];unfold upL;rw [if_pos aj];rfl)) (iR _) (fun l h=>by rw [dj] at h;simp only [List.length_append] at h;omega) ?_;intro v141 en141 w hO2 hs
     rw [←fw,List.append_assoc _ (kB _ _ _)] at hO2
     refine .go ?_
     refine .z 30 rfl zg ?_;refine .D hs ?_
     refine nB (nT ?_)
     refine .region (.z zm (.z cC (.z zg (.nil ?_))))
     refine nT ?_
     exact ⟨(k+1,v141),.de rfl cm bD,⟨by dsimp only;omega,_,hO2,hs.sb⟩,by dsimp only;omega⟩
    ·refine .exit ?_
     refine xT (xT (xB (nB (nT ?_))))
     refine .region (.z zm (.z cC (.z zg (.nil ?_))))
     refine nT ?_
     obtain rfl:k=s.sp.wa.length - 1:=by omega
     rw [List.append_assoc,←CW i aj] at hO
     exact ⟨(i+1,_),.de rfl cm bD,⟨by dsimp only;omega,en,hO,hs⟩,by dsimp only;omega⟩
   ·refine .exit ?_
    refine xT (xT (xB (nT ?_)))
    refine .af (.z (zfa aZ) (.y hs (zld bZ) ?_))
    obtain rfl:i=s.sp.st.length:=by omega
    refine .o (.call Tryz.call94 rfl (gJ hs h3 aj) ?_);rintro v144 w ⟨H1,hle1,hT,hs⟩
    replace hT:RTd H1 v144 s.bg:=hT
    have htl:s.bg.length≤60:=by have:=cH s.rs;unfold Srv.bg;omega
    have hmem:∀r∈s.rs,r.td∈s.bg:=fun r hr=>dV.2 ⟨r,hr,rfl⟩
    have hlims:s.bV=dM (pb s.sp) s.sp.wa.length s.sp.st.length++dM (alL s.sp) s.sp.wa.length s.sp.st.length++dM (upL s.sp) s.sp.wa.length s.sp.st.length++ti s.sp s.bg.length++nM s.sp s.bg s.cs 0 s.cs.length++rI s.sp s.bg s.rs s.rs.length:=rfl
    generalize s.bg=ts at*
    obtain ⟨at_,ct,rfl⟩:=RTd.shape hT
    refine .z zg (.nil (.af (.y hs (zls [_,_,_,_,_,_] aM aE) ?_)))
    refine .o (.call Tryz.call97 rfl (fI (s:=s.sp) hs (h1.mono hle1) (h2.mono hle1) ⟨aj,aj⟩) ?_);rintro _ w ⟨rfl,hs⟩
    refine .z zg (.nil (.seq (.af (.z zg (.nil (.block ?_))))))
    refine .loop (fun p:Nat×Value=>⟨243,[],[(14,I (p.1:Int)),(4,p.2),(12,.slice at_ ts.length ct),(13,I (s.sp.many:Int)),(3,.pointer (some ⟨b3,0,none⟩)),(1,.pointer (some ⟨b1,0,none⟩))]⟩)
     (fun p w=>p.1≤ts.length∧∃en,bS 4 p.2 (fy (dM (pb s.sp) s.sp.wa.length s.sp.st.length++dM (alL s.sp) s.sp.wa.length s.sp.st.length++dM (upL s.sp) s.sp.wa.length s.sp.st.length++ti s.sp p.1)) en∧St H1 w (en:: .blk b3 [I s.sp.id,I s.sp.src,.slice ast s.sp.st.length cst,.slice awa s.sp.wa.length cwa,I s.sp.al,I s.sp.up]:: .blk b1 [I s.sp.id,I s.sp.src,.slice ast s.sp.st.length cst,.slice awa s.sp.wa.length cwa,I s.sp.al,I s.sp.up,.slice ar s.rs.length cr,.slice ac s.cs.length cc]::σ)) (fun p=>ts.length - p.1) (0,vo) bD
     ⟨by first|omega|exact Nat.zero_le _,en,by show bS 4 vo (fy (_++[])) en;rw [List.append_nil];exact hO,hs⟩ ?_
    clear hO hs
    rintro ⟨j,vo⟩ w ⟨hj,en,hO,hs⟩
    dsimp only at hj hO ⊢
    have hel:=fu s.sp j
    refine .seq (.af (.z zm (.z zm (.z (c9 aP) (.z gp (.nil ?_))))))
    refine (.ck rfl (fun hc150=>?_) (fun hc150=>?_))
    ·refine .skip ?_
     refine nT ?_
     refine .seq (.block (.region (.z zm (.z zm (.z cC (.z zm (.z cC (.z (zfa dh) (.y hs (zld ae) ?_)))))))))
     refine .o (.call Tryz.call119 rfl (jw hs) ?_);rintro _ w ⟨b160,rfl,hs⟩
     refine .o (.append (ys:=fy (two 0 ((s.sp.many:Int)+1+(j:Int)) 1000 1000 s.sp.src)) hs bO rfl rfl hO (.own .here rfl rfl) (iR _) (fun l h=>by rw [dj] at h;simp only [List.length_append] at h;omega) ?_);intro v161 en161 w hO2 hs
     rw [←fw,List.append_assoc _ (ti _ _),show (s.sp.many:Int)+1+(j:Int)=((s.sp.many+1+j:Nat):Int) by omega] at hO2
     refine .z zg (.nil ?_)
     refine nB (nT ?_)
     refine .region (.z zm (.z cC (.z zg (.nil ?_))))
     refine nT ?_
     exact ⟨(j+1,v161),.de rfl cm bD,⟨by dsimp only;omega,_,hO2,hs.sb⟩,by dsimp only;omega⟩
    ·refine .exit ?_
     refine xT (xT (xB (nT ?_)))
     refine .seq (.af (.z zg (.nil (.block ?_))))
     refine .loop (fun p:Nat×Value=>⟨243,[],[(15,I (p.1:Int)),(4,p.2),(12,.slice at_ ts.length ct),(13,I (s.sp.many:Int)),(3,.pointer (some ⟨b3,0,none⟩)),(1,.pointer (some ⟨b1,0,none⟩))]⟩)
      (fun p w=>p.1≤s.cs.length∧∃en,bS 4 p.2 (fy (dM (pb s.sp) s.sp.wa.length s.sp.st.length++dM (alL s.sp) s.sp.wa.length s.sp.st.length++dM (upL s.sp) s.sp.wa.length s.sp.st.length++ti s.sp ts.length++nM s.sp ts s.cs 0 p.1)) en∧St H1 w (en:: .blk b3 [I s.sp.id,I s.sp.src,.slice ast s.sp.st.length cst,.slice awa s.sp.wa.length cwa,I s.sp.al,I s.sp.up]:: .blk b1 [I s.sp.id,I s.sp.src,.slice ast s.sp.st.length cst,.slice awa s.sp.wa.length cwa,I s.sp.al,I s.sp.up,.slice ar s.rs.length cr,.slice ac s.cs.length cc]::σ)) (fun p=>s.cs.length - p.1) (0,vo) bD
      ⟨by first|omega|exact Nat.zero_le _,en,by show bS 4 vo (fy (_++[])) en;rw [List.append_nil,←show j=ts.length by omega];exact hO,hs⟩ ?_
     clear hO hs
     rintro ⟨i,vo⟩ w ⟨hi,en,hO,hs⟩
     dsimp only at hi hO ⊢
     have hel:=fu s.sp ts.length
     have hcl1:=fW s.sp ts s.cs 0 i
     have hcl2:i*(2*(ts.length - 0))≤20*(2*60):=Nat.mul_le_mul aj aj
     refine .seq (.af (.z zm (.z (zfa bT) (.y hs (zld fO) (.z (c9 bk) (.z gp (.nil ?_)))))))
     refine (.ck rfl (fun hc166=>?_) (fun hc166=>?_))
     ·refine .skip ?_
      refine nT ?_
      refine .seq (.block (.af (.z zg (.nil (.block ?_)))))
      refine .loop (fun p:Nat×Value=>⟨243,[],[(16,I (p.1:Int)),(4,p.2),(15,I (i:Int)),(12,.slice at_ ts.length ct),(13,I (s.sp.many:Int)),(3,.pointer (some ⟨b3,0,none⟩)),(1,.pointer (some ⟨b1,0,none⟩))]⟩)
       (fun p w=>p.1≤ts.length∧∃en,bS 4 p.2 (fy (dM (pb s.sp) s.sp.wa.length s.sp.st.length++dM (alL s.sp) s.sp.wa.length s.sp.st.length++dM (upL s.sp) s.sp.wa.length s.sp.st.length++ti s.sp ts.length++nM s.sp ts s.cs 0 i++iP s.sp ts (w8 s.cs i) 0 p.1)) en∧St H1 w (en:: .blk b3 [I s.sp.id,I s.sp.src,.slice ast s.sp.st.length cst,.slice awa s.sp.wa.length cwa,I s.sp.al,I s.sp.up]:: .blk b1 [I s.sp.id,I s.sp.src,.slice ast s.sp.st.length cst,.slice awa s.sp.wa.length cwa,I s.sp.al,I s.sp.up,.slice ar s.rs.length cr,.slice ac s.cs.length cc]::σ)) (fun p=>ts.length - p.1) (0,vo) bD
       ⟨by first|omega|exact Nat.zero_le _,en,by show bS 4 vo (fy (_++[])) en;rw [List.append_nil];exact hO,hs⟩ ?_
      clear hO hs
      rintro ⟨j,vo⟩ w ⟨hj,en,hO,hs⟩
      dsimp only at hj hO ⊢
      have hl1:=jV s.sp ts (w8 s.cs i) 0 j
      refine .seq (.af (.z zm (.z zm (.z (c9 aP) (.z gp (.nil ?_))))))
      refine (.ck rfl (fun hc172=>?_) (fun hc172=>?_))
      ·refine .skip ?_
       refine nT ?_
       refine .seq (.block ?_)
       refine .draw mix rfl hs fun w hs=>?_
       refine .z 0 rfl zm ?_;refine .z 1 rfl (zfa bT) ?_;refine .y 2 rfl hs fO ?_;refine .z 3 rfl zm ?_
       obtain ⟨c,hx⟩:=nth (l:=s.cs) (k:=i) aj
       obtain ⟨t,ht⟩:=nth (l:=ts) (k:=j) aj
       obtain ⟨g1,g2,g3,g4,g5,g6⟩:=hcs c (List.mem_of_getElem? hx)
       have ec:=AI hx
       have et:=Cy ht
       refine .ixX (enc:=Cmp.c) (i:=4) hs rfl au .none (h4.mono hle1) rfl rfl bk bG hx dx ?_;intro b179 o179 hc179
       refine .r (i:=5) hs rfl au .none (cd (vs:=c.c) rfl jh bG hc179) ?_
       refine .z 6 rfl zm ?_;refine .z 7 rfl zm ?_
       refine .ixX (enc:=TD.c) (i:=8) hs rfl au .none hT rfl rfl aP bq ht dx ?_;intro b183 o183 hc183
       refine .r (i:=9) hs rfl au .none (cd (vs:=t.c) rfl df bq hc183) ?_
       refine .z 10 rfl zm ?_;refine .z 11 rfl cC ?_;refine .z 12 rfl zm ?_;refine .z 13 rfl cC ?_
       refine .E 14 hs ?_
       refine .call Tryz.call194 rfl (rz (c:=c) (t:=t) hs ⟨aj,aj⟩) ?_;rintro v189 w ⟨en189,hO189,hs⟩
       obtain ⟨a189,l189,c189,rfl,h189⟩:=hO189.shape
       refine .go ?_
       refine .E 15 hs ?_
       refine .append (ys:=fy (jr c t ((s.sp.many:Int)+1+(j:Int)))) hs bO rfl rfl hO (Src.Ew hO189 .here) (iR _) (fun l h=>by rw [dj] at h;simp only [List.length_append] at h;have:=uR c t ((s.sp.many:Int)+1+(j:Int));rw [dj] at h189;omega) ?_;intro v190 en190 w hO2 hs
       rw [←fw,List.append_assoc _ (iP _ _ _ _ _),show iP s.sp ts (w8 s.cs i) 0 j++jr c t ((s.sp.many:Int)+1+(j:Int))=iP s.sp ts (w8 s.cs i) 0 (j+1) by
        show _=_++jr (w8 s.cs i) (td0 ts (0+j)) ((s.sp.many+1+(0+j):Nat):Int)
        rw [Nat.zero_add,ec,et,show ((s.sp.many+1+j:Nat):Int)=(s.sp.many:Int)+1+(j:Int) by omega]] at hO2
       refine .go ?_
       refine .z 16 rfl zg ?_;refine .D hs ?_
       refine nB (nT ?_)
       refine .region (.z zm (.z cC (.z zg (.nil ?_))))
       refine nT ?_
       exact ⟨(j+1,v190),.de rfl cm bD,⟨by dsimp only;omega,_,hO2,hs.sb⟩,by dsimp only;omega⟩
      ·refine .exit ?_
       refine xT (xT (xB (nB (nT ?_))))
       refine .region (.z zm (.z cC (.z zg (.nil ?_))))
       refine nT ?_
       obtain rfl:j=ts.length:=by omega
       rw [List.append_assoc _ (nM _ _ _ _ _)] at hO
       exact ⟨(i+1,_),.de rfl cm bD,⟨by dsimp only;omega,en,hO,hs⟩,by dsimp only;omega⟩
     ·refine .exit ?_
      refine xT (xT (xB (nT ?_)))
      refine .seq (.af (.z zg (.nil (.block ?_))))
      refine .loop (fun p:Nat×Value=>⟨243,[],[(17,I (p.1:Int)),(4,p.2),(12,.slice at_ ts.length ct),(13,I (s.sp.many:Int)),(3,.pointer (some ⟨b3,0,none⟩)),(1,.pointer (some ⟨b1,0,none⟩))]⟩)
       (fun p w=>p.1≤s.rs.length∧∃en,bS 4 p.2 (fy (dM (pb s.sp) s.sp.wa.length s.sp.st.length++dM (alL s.sp) s.sp.wa.length s.sp.st.length++dM (upL s.sp) s.sp.wa.length s.sp.st.length++ti s.sp ts.length++nM s.sp ts s.cs 0 s.cs.length++rI s.sp ts s.rs p.1)) en∧St H1 w (en:: .blk b3 [I s.sp.id,I s.sp.src,.slice ast s.sp.st.length cst,.slice awa s.sp.wa.length cwa,I s.sp.al,I s.sp.up]:: .blk b1 [I s.sp.id,I s.sp.src,.slice ast s.sp.st.length cst,.slice awa s.sp.wa.length cwa,I s.sp.al,I s.sp.up,.slice ar s.rs.length cr,.slice ac s.cs.length cc]::σ)) (fun p=>s.rs.length - p.1) (0,vo) bD
       ⟨by first|omega|exact Nat.zero_le _,en,by show bS 4 vo (fy (_++[])) en;rw [List.append_nil,←show i=s.cs.length by omega];exact hO,hs⟩ ?_
      clear hO hs
      rintro ⟨q,vo⟩ w ⟨hq,en,hO,hs⟩
      dsimp only at hq hO ⊢
      have hrl1:=fq s.sp ts s.rs q
      have hcl3:=fW s.sp ts s.cs 0 s.cs.length
      have hcl4:s.cs.length*(2*(ts.length - 0))≤20*(2*60):=Nat.mul_le_mul aj aj
      refine .seq (.af (.z zm (.z (zfa aZ) (.y hs (zld bZ) (.z (c9 aF) (.z gp (.nil ?_)))))))
      refine (.ck rfl (fun hc195=>?_) (fun hc195=>?_))
      ·refine .skip ?_
       refine nT ?_
       refine .seq (.block (.af (.z (zfa aZ) (.y hs (zld bZ) (.z zm ?_)))))
       obtain ⟨r,hx⟩:=nth (l:=s.rs) (k:=q) aj
       obtain ⟨g1,g2,g3,g4,g5,g6,g7⟩:=hrs r (List.mem_of_getElem? hx)
       obtain ⟨m,k1,k2,k3⟩:=ee (hmem r (List.mem_of_getElem? hx))
       refine .ixX (enc:=Rdg.c) hs (h3.mono hle1) rfl rfl aF aD hx dx ?_;intro b201 o201 hc201
       refine .q hs (cd (vs:=(Rdg.c r)) rfl cg aD hc201) ?_
       refine .o (.alloc hs bH rfl fun b18 w hs=>?_)
       refine .o (.aO (vs:=r.c) hs rfl rfl aD fun w hs=>?_)
       change St _ _ (.blk b18 [I r.src,I r.st,I r.wa,I r.val,I r.tol,I r.tape,I r.day]::_) at hs
       refine .nil (.af (.y hs (zls [_,_,_,_,_,_] aM aE) (.z (zfa ea) (.y hs (zld ae) (.z (zfa dZ) (.y hs (zld ae) ?_))))))
       refine .o (.call m8 rfl (dC (s:=s.sp) hs (h2.mono hle1) aj ⟨aj,aj⟩ ⟨aj,aj⟩) ?_);rintro _ w ⟨rfl,hs⟩
       refine .z zg (.nil (.af (.z zm (.z cC (.z zm (.z (zfa dY) (.y hs (zld ae) (.z (zfa dX) (.y hs (zld ae) ?_)))))))))
       refine .z (zbd [_,_] fb) ?_
       refine .o (.call Tryz.call93 rfl (iS (t:=r.td) hs hT aj) ?_);rintro _ w ⟨rfl,hs⟩
       refine .z cC (.z zg (.nil (.region (.z zm (.z zm (.z zm (.z (zfa dv) (.y hs (zld ae) (.z (zfa bR) ?_)))))))))
       refine .y hs (zld ae) (.z cC (.z (zfa eb) (.y hs (zld ae) (.z (zbd [_,_,_,_] dQ) (.z zm (.z zm (.z (zfa bR) (.y hs (zld ae) (.z (zfa dv) ?_)))))))))
       refine .y hs (zld ae) (.z hZ (.z (zfa eb) (.y hs (zld ae) (.z (zbd [_,_,_,_] dQ) ?_))))
       refine .o (.buildSlice (cells:=fy (pR s.sp ts r)) hs eO rfl au fun b240 w hs=>?_)
       refine .o (.append (ys:=fy (pR s.sp ts r)) hs bO rfl rfl hO (.own .here rfl rfl) (iR _) (fun l h=>by rw [dj] at h;simp only [List.length_append] at h;omega) ?_);intro v241 en241 w hO2 hs
       rw [←fw,List.append_assoc _ (rI _ _ _ _),show rI s.sp ts s.rs q++pR s.sp ts r=rI s.sp ts s.rs (q+1) by rw [←zI hx];rfl] at hO2
       refine .z zg (.nil ?_)
       refine nB (nT ?_)
       refine .region (.z zm (.z cC (.z zg (.nil ?_))))
       refine nT ?_
       exact ⟨(q+1,v241),.de rfl cm bD,⟨by dsimp only;omega,_,hO2,hs.sb⟩,by dsimp only;omega⟩
      ·refine .exit ?_
       refine xT (xT (xB (nT ?_)))
       refine .af (.z zm (.z zg (.nil ?_)))
       refine .ret (Fin.bI Tryz.results111 rfl ?_)
       obtain rfl:q=s.rs.length:=by omega
       exact ⟨H1,en,hle1,by rw [hlims];exact hO,hs.sb⟩
theorem qy{s:Srv}{vst vwa vr vc:Value}(hs:St H w σ)(h1:RI H vst s.sp.st)(h2:RI H vwa s.sp.wa)(h3:RRd H vr s.rs)(h4:RCm H vc s.cs)(he:s.early):
  Cl Tryz.prog 95 [.agg #[I s.sp.id,I s.sp.src,vst,vwa,I s.sp.al,I s.sp.up,vr,vc]] w fun u w'=>∃H1 vl en,HLe H H1∧u= .agg #[I s.sys.many,vl]∧bS 4 vl (fy s.bV) en∧St H1 w' (en::σ):=by
 have hsm:=dB he.1
 have hrl:=he.2.1
 have htl:s.bg.length≤60:=by have:=cH s.rs;unfold Srv.bg;omega
 refine Cl.o Tryz.func95 Tryz.ntmps95 ag1 ?_
 refine .af ?_
 refine .bx hs fun b1 w hs=>?_
 refine .o (.alloc hs cu rfl fun b2 w hs=>?_)
 refine .nil ?_
 refine .seq (.draw mix rfl hs fun w hs=>?_)
 refine .z 0 rfl (zfa aK) ?_;refine .ys 1 rfl hs [_,_,_,_,_,_] aM aE ?_;refine .z 3 rfl (zfa aZ) ?_;refine .y 4 rfl hs bZ ?_;refine .ys 8 rfl hs [_,_,_,_,_,_,_,_] aq an ?_
 refine .E 2 hs ?_
 refine .call Tryz.call97 rfl (fI (s:=s.sp) hs h1 h2 ⟨aj,aj⟩) ?_;rintro _ w ⟨rfl,hs⟩
 refine .go ?_
 refine .E 5 hs ?_
 refine .call Tryz.call94 rfl (gJ hs h3 aj) ?_;rintro v8 w ⟨H1,hle1,hT,hs⟩
 replace hT:RTd H1 v8 s.bg:=hT
 obtain ⟨at_,ct,rfl⟩:=RTd.shape hT
 refine .go ?_
 refine .z 6 rfl (c9 aP) ?_;refine .z 7 rfl cC ?_
 refine .E 9 hs ?_
 refine .call Tryz.call111 rfl (qz (s:=s) hs (h1.mono hle1) (h2.mono hle1) (h3.mono hle1) (h4.mono hle1) he) ?_;rintro v12 w ⟨H2,en,hle2,hO,hs⟩
 obtain ⟨al,ll,cl,rfl,hll⟩:=hO.shape
 refine .go ?_
 refine .z 10 rfl (zbd [_,_] iF) ?_
 refine .E 11 hs ?_
 refine .aO (vs:=[_,_]) hs rfl rfl aC ?_;intro w hs
 refine .go ?_
 refine .D hs ?_
 refine .ret ?_
 replace hs:St H2 w (.blk b2 [I ((s.sp.many:Int)+(s.bg.length:Int)),.slice al ll cl]::en::σ):=hs.sb
 exact Fin.gI [] [] hs fun w hs=>⟨_,results1 Tryz.results95 (di (vs:=[_,_]) hs rfl a8 aC),H2,_,en,hle1.trans hle2,by show _=Value.agg #[I ((s.sp.many+s.bg.length:Nat):Int),_];rw [Int.natCast_add],hO,hs.tail⟩
theorem pQ{s:Srv}{vst vwa vr vc:Value}(hs:St H w σ)(h1:RI H vst s.sp.st)(h2:RI H vwa s.sp.wa)(h3:RRd H vr s.rs)(h4:RCm H vc s.cs)(he:s.early):
  Cl Tryz.prog 95 [.agg #[I s.sp.id,I s.sp.src,vst,vwa,I s.sp.al,I s.sp.up,vr,vc]] w fun u w'=>∃H1,HLe H H1∧RSy H1 u s.sys∧St H1 w' σ:=by
 refine (qy hs h1 h2 h3 h4 he).mono ?_
 rintro u w' ⟨H1,vl,en,hle,rfl,hO,hs⟩
 have hl:=jQ he 6 aj
 rw [s.tH] at hl
 obtain ⟨H2,hle2,hR,hs⟩:=bS.cf (m:=4) (cs:=s.bV.map Lim.c) hO (fun c hc=>by simp only [List.mem_map] at hc;obtain ⟨x,_,rfl⟩:=hc;rfl) aj (by rw [List.length_map];omega) hs .here
 exact ⟨H2,hle.trans hle2,⟨vl,rfl,hR⟩,hs⟩
theorem iy{s:Spc}{q:Wht}{vst vwa:Value}(hs:St H w σ)(h2:RI H vwa s.wa):
  Cl Tryz.prog 238 [.agg #[I q.kind,I q.st,I q.wa,I s.id,I s.src,vst,vwa,I s.al,I s.up]] w fun v w'=>v= .bool (decide (0≤q.wa∧q.wa≤(s.wa.length:Int) - 1))∧St H w' σ:=by
 obtain ⟨awa,cwa,rfl⟩:=RI.shape h2
 have l2:=(RI.len h2).2.2
 refine Cl.o Tryz.func238 Tryz.ntmps238 ag1 ?_
 refine .af ?_
 refine .bx hs fun b1 w hs=>?_
 refine .z zg (.nil (.af (.z (zfa cB) (.z (zfa dO) (.y hs (zld ae) (.z (zfa eo) (.z (zfa bn) (.y hs (zld ak) (.z (c9 ad) ?_)))))))))
 refine .z hZ ?_
 refine .o (.call cQ rfl (bp hs) ?_);rintro _ w ⟨rfl,hs⟩
 refine .z zg (.nil ?_)
 refine .ret (Fin.bI Tryz.results238 rfl ?_)
 exact ⟨rfl,hs.out⟩
theorem jq{s:Spc}{q:Wht}{vst vwa:Value}(hs:St H w σ)(h1:RI H vst s.st):
  Cl Tryz.prog 243 [.agg #[I q.kind,I q.st,I q.wa,I s.id,I s.src,vst,vwa,I s.al,I s.up]] w fun v w'=>v= .bool (decide (0≤q.st∧q.st≤(s.st.length:Int) - 1))∧St H w' σ:=by
 obtain ⟨ast,cst,rfl⟩:=RI.shape h1
 have l1:=(RI.len h1).2.2
 refine Cl.o Tryz.func243 Tryz.ntmps243 ag1 ?_
 refine .af ?_
 refine .bx hs fun b1 w hs=>?_
 refine .z zg (.nil (.af (.z (zfa cB) (.z (zfa ft) (.y hs (zld ae) (.z (zfa eo) (.z (zfa bu) (.y hs (zld ak) (.z (c9 ad) ?_)))))))))
 refine .z hZ ?_
 refine .o (.call cQ rfl (bp hs) ?_);rintro _ w ⟨rfl,hs⟩
 refine .z zg (.nil ?_)
 refine .ret (Fin.bI Tryz.results243 rfl ?_)
 exact ⟨rfl,hs.out⟩
theorem pE{s:Spc}{q:Wht}:eX s q↔(q.kind=1∧q.st=0∧s.isW q∧0<q.wa)∨(q.kind=2∧q.st=0∧s.isW q)∨(q.kind=3∧q.wa=0∧s.isS q)∨(q.kind=4∧s.isS q∧s.isW q):=by
 constructor
 ·intro h
  cases h with
  |litres a b c d=>exact .inl ⟨a,b,c,d⟩
  |plane a b c=>exact .inr (.inl ⟨a,b,c⟩)
  |section_ a b c=>exact .inr (.inr (.inl ⟨a,b,c⟩))
  |offset a b c=>exact .inr (.inr (.inr ⟨a,b,c⟩))
 ·rintro (⟨a,b,c,d⟩|⟨a,b,c⟩|⟨a,b,c⟩|⟨a,b,c⟩)
  ·exact .litres a b c d
  ·exact .plane a b c
  ·exact .section_ a b c
  ·exact .offset a b c
theorem vE{s:Spc}{q:Wht}{vst vwa:Value}(hs:St H w σ)(h2:RI H vwa s.wa)(hk:q.kind=1):
  Cl Tryz.prog 237 [.agg #[I q.kind,I q.st,I q.wa,I s.id,I s.src,vst,vwa,I s.al,I s.up]] w fun v w'=>∃b:Bool,v= .bool b∧(b=true↔eX s q)∧St H w' σ:=by
 have hi:=pE (s:=s) (q:=q)
 simp only [Spc.isW,Spc.isS] at hi
 refine Cl.o Tryz.func237 Tryz.ntmps237 ag1 ?_
 refine .af ?_
 refine .bx hs fun b1 w hs=>?_
 refine .z zg (.nil (.af (.y hs (zls [_,_,_,_,_,_,_,_,_] pB jG) ?_)))
 refine .o (.call Tryz.call238 rfl (iy hs h2) ?_);rintro _ w ⟨rfl,hs⟩
 refine .z zm ?_
 refine .bif (t':=5) rfl (fun hb5=>?_) (fun hb5=>?_)
 ·refine .gT rfl rfl ?_
  refine .z (zfa cB) ?_
  refine .gT rfl rfl ?_
  refine .z (zfa dO) ?_
  refine .gT rfl rfl ?_
  refine .y hs (zld ae) ?_
  refine .gT rfl rfl ?_
  refine .z od (.z zpT (.z zm ?_))
  refine .kf (t':=11) rfl (fun hb11=>?_) (fun hb11=>?_)
  ·refine .gT rfl rfl ?_
   refine .z (zfa cB) ?_
   refine .gT rfl rfl ?_
   refine .z (zfa ft) ?_
   refine .gT rfl rfl ?_
   refine .y hs (zld ae) ?_
   refine .gT rfl rfl ?_
   refine .z ir (.z zpT (.z zg (.nil ?_)))
   refine .ret (Fin.bI Tryz.results237 rfl ?_)
   exact ⟨_,rfl,by rw [hi];simp_all<;>omega,hs.out⟩
  ·refine .gFs 4 8 true rfl rfl rfl ?_
   refine .z zpF (.z zg (.nil ?_))
   refine .ret (Fin.bI Tryz.results237 rfl ?_)
   exact ⟨_,rfl,by rw [hi];simp_all<;>omega,hs.out⟩
 ·refine .gFs 4 2 true rfl rfl rfl ?_
  refine .z zpF (.z zm ?_)
  refine .gFs 4 8 true rfl rfl rfl ?_
  refine .z zpF (.z zg (.nil ?_))
  refine .ret (Fin.bI Tryz.results237 rfl ?_)
  exact ⟨_,rfl,by rw [hi];simp_all<;>omega,hs.out⟩
theorem vD{s:Spc}{q:Wht}{vst vwa:Value}(hs:St H w σ)(h2:RI H vwa s.wa)(hk:q.kind=2):
  Cl Tryz.prog 240 [.agg #[I q.kind,I q.st,I q.wa,I s.id,I s.src,vst,vwa,I s.al,I s.up]] w fun v w'=>∃b:Bool,v= .bool b∧(b=true↔eX s q)∧St H w' σ:=by
 have hi:=pE (s:=s) (q:=q)
 simp only [Spc.isW,Spc.isS] at hi
 refine Cl.o Tryz.func240 Tryz.ntmps240 ag1 ?_
 refine .af ?_
 refine .bx hs fun b1 w hs=>?_
 refine .z zg (.nil (.af (.y hs (zls [_,_,_,_,_,_,_,_,_] pB jG) ?_)))
 refine .o (.call Tryz.call238 rfl (iy hs h2) ?_);rintro _ w ⟨rfl,hs⟩
 refine .z zm ?_
 refine .bif (t':=5) rfl (fun hb5=>?_) (fun hb5=>?_)
 ·refine .gT rfl rfl ?_
  refine .z (zfa cB) ?_
  refine .gT rfl rfl ?_
  refine .z (zfa ft) ?_
  refine .gT rfl rfl ?_
  refine .y hs (zld ae) ?_
  refine .gT rfl rfl ?_
  refine .z ir (.z zpT (.z zg (.nil ?_)))
  refine .ret (Fin.bI Tryz.results240 rfl ?_)
  exact ⟨_,rfl,by rw [hi];simp_all<;>omega,hs.out⟩
 ·refine .gFs 4 2 true rfl rfl rfl ?_
  refine .z zpF (.z zg (.nil ?_))
  refine .ret (Fin.bI Tryz.results240 rfl ?_)
  exact ⟨_,rfl,by rw [hi];simp_all<;>omega,hs.out⟩
theorem vC{s:Spc}{q:Wht}{vst vwa:Value}(hs:St H w σ)(h1:RI H vst s.st)(hk:q.kind=3):
  Cl Tryz.prog 242 [.agg #[I q.kind,I q.st,I q.wa,I s.id,I s.src,vst,vwa,I s.al,I s.up]] w fun v w'=>∃b:Bool,v= .bool b∧(b=true↔eX s q)∧St H w' σ:=by
 have hi:=pE (s:=s) (q:=q)
 simp only [Spc.isW,Spc.isS] at hi
 refine Cl.o Tryz.func242 Tryz.ntmps242 ag1 ?_
 refine .af ?_
 refine .bx hs fun b1 w hs=>?_
 refine .z zg (.nil (.af (.y hs (zls [_,_,_,_,_,_,_,_,_] pB jG) ?_)))
 refine .o (.call Tryz.call243 rfl (jq hs h1) ?_);rintro _ w ⟨rfl,hs⟩
 refine .z zm ?_
 refine .bif (t':=5) rfl (fun hb5=>?_) (fun hb5=>?_)
 ·refine .gT rfl rfl ?_
  refine .z (zfa cB) ?_
  refine .gT rfl rfl ?_
  refine .z (zfa dO) ?_
  refine .gT rfl rfl ?_
  refine .y hs (zld ae) ?_
  refine .gT rfl rfl ?_
  refine .z ir (.z zpT (.z zg (.nil ?_)))
  refine .ret (Fin.bI Tryz.results242 rfl ?_)
  exact ⟨_,rfl,by rw [hi];simp_all<;>omega,hs.out⟩
 ·refine .gFs 4 2 true rfl rfl rfl ?_
  refine .z zpF (.z zg (.nil ?_))
  refine .ret (Fin.bI Tryz.results242 rfl ?_)
  exact ⟨_,rfl,by rw [hi];simp_all<;>omega,hs.out⟩
theorem vB{s:Spc}{q:Wht}{vst vwa:Value}(hs:St H w σ)(h1:RI H vst s.st)(h2:RI H vwa s.wa)(hk:q.kind=4):
  Cl Tryz.prog 245 [.agg #[I q.kind,I q.st,I q.wa,I s.id,I s.src,vst,vwa,I s.al,I s.up]] w fun v w'=>∃b:Bool,v= .bool b∧(b=true↔eX s q)∧St H w' σ:=by
 have hi:=pE (s:=s) (q:=q)
 simp only [Spc.isW,Spc.isS] at hi
 refine Cl.o Tryz.func245 Tryz.ntmps245 ag1 ?_
 refine .af ?_
 refine .bx hs fun b1 w hs=>?_
 refine .z zg (.nil (.af (.y hs (zls [_,_,_,_,_,_,_,_,_] pB jG) ?_)))
 refine .o (.call Tryz.call243 rfl (jq hs h1) ?_);rintro _ w ⟨rfl,hs⟩
 refine .z zm ?_
 refine .bif (t':=5) rfl (fun hb5=>?_) (fun hb5=>?_)
 ·refine .gT rfl rfl ?_
  refine .y hs (zls [_,_,_,_,_,_,_,_,_] pB jG) ?_
  refine .gT rfl rfl ?_
  refine .o (.call Tryz.call238 rfl (iy hs h2) ?_);rintro _ w ⟨rfl,hs⟩
  refine .z zpT (.z zg (.nil ?_))
  refine .ret (Fin.bI Tryz.results245 rfl ?_)
  exact ⟨_,rfl,by rw [hi];simp_all<;>omega,hs.out⟩
 ·refine .gFs 2 2 true rfl rfl rfl ?_
  refine .z zpF (.z zg (.nil ?_))
  refine .ret (Fin.bI Tryz.results245 rfl ?_)
  exact ⟨_,rfl,by rw [hi];simp_all<;>omega,hs.out⟩
theorem qs{s:Spc}{q:Wht}{vst vwa:Value}{i k:Nat}{u:Int}(hs:St H w σ)(h1:RI H vst s.st)(h2:RI H vwa s.wa)(hok:ez s)(hq:eX s q)(hk1:q.kind=1)(hi:i<s.st.length):
  Cl Tryz.prog 239 [.agg #[I q.kind,I q.st,I q.wa,I s.id,I s.src,vst,vwa,I s.al,I s.up],.agg #[I (i:Int),I (k:Int),I u]] w fun v w'=>∃H1,HLe H H1∧v=I (na s q i k)∧St H1 w' σ:=by
 obtain ⟨ast,cst,rfl⟩:=RI.shape h1
 obtain ⟨awa,cwa,rfl⟩:=RI.shape h2
 have hn:=hok.wa.many
 have hcap:=(RI.len h2).2.1
 obtain ⟨_,hw1,hw2,hw3⟩:q.st=0∧0<q.wa∧0≤q.wa∧q.wa≤(s.wa.length:Int) - 1:=by
  rcases pE.1 hq with h|h|h|h
  ·exact ⟨h.2.1,h.2.2.2,h.2.2.1.1,h.2.2.1.2⟩
  all_goals omega
 obtain ⟨m,hm⟩:∃m:Nat,q.wa=m:=⟨q.wa.toNat,aj⟩
 have hW:na s q i k=if (k:Int)≤q.wa then gi (wts s.st) i*gi (wts (s.wa.take (q.wa.toNat+1))) k else 0:=by unfold na;rw [if_pos hk1]
 have hmt:q.wa.toNat=m:=by omega
 rw [hmt] at hW
 refine Cl.o Tryz.func239 Tryz.ntmps239 ag2 ?_
 refine .af ?_
 refine .bx hs fun b2 w hs=>?_
 refine .bx hs fun b3 w hs=>?_
 refine .z zg (.nil (.seq (.af (.z (zfa cI) (.y hs (zld ae) (.z (zfa cB) (.z (zfa dO) (.y hs (zld ae) (.z od ?_)))))))))
 refine .nil ?_
 refine (.ck rfl (fun hc12=>?_) (fun hc12=>?_))
 ·refine .af (.z zg (.nil ?_))
  refine .ret (rT (Fin.bI Tryz.results239 rfl ?_))
  exact ⟨H,HLe.refl H,by rw [hW,if_neg aj],hs.out⟩
 ·refine .skip ?_
  refine nT ?_
  refine .seq (.draw mix rfl hs fun w hs=>?_)
  refine .z 0 rfl (zfa eo) ?_;refine .z 1 rfl (zfa bu) ?_;refine .y 2 rfl hs ak ?_;refine .z 3 rfl (zfa eo) ?_;refine .z 4 rfl (zfa bn) ?_;refine .y 5 rfl hs ak ?_;refine .z 6 rfl (zfa cB) ?_;refine .z 7 rfl (zfa dO) ?_;refine .y 8 rfl hs ae ?_;refine .z 9 rfl cC ?_
  refine .z 10 rfl (oE (k:=m+1) rfl rfl ad ai aj aj) ?_
  refine .E 11 hs ?_
  have hP:fZ 7 15000 (s.wa.take (m+1)):=hok.wa.take aj aj
  refine .call Tryz.call104 rfl (lO hs h1 (h2.head (k:=m+1) aj)) ?_;rintro _ w ⟨H1,vo,e,hle1,rfl,hGx,-,hs⟩
  obtain ⟨rfl,hG⟩:=hGx ⟨hok.st,hP⟩
  have hgl:=mb (wts s.st) (wts (s.wa.take (m+1))) s.st.length
  have hyl:(wts (s.wa.take (m+1))).length=m+1:=by rw [gX,List.length_take];omega
  have hgr:=xJ (X:=wts s.st) (Y:=wts (s.wa.take (m+1))) (n:=s.st.length) hi
  have hgt:=B7 (X:=wts s.st) (Y:=wts (s.wa.take (m+1))) (n:=s.st.length) (k:=k) hi aj
  have hrl:=nz (wts s.st) (wts (s.wa.take (m+1))) i
  rw [←hgr] at hrl
  generalize oY (wts s.st) (wts (s.wa.take (m+1))) s.st.length=G at*
  obtain ⟨aG,cG,rfl⟩:=hG.shape
  refine .go ?_
  refine .z 12 rfl zm ?_;refine .z 13 rfl zex ?_;refine .z 14 rfl zex ?_;refine .z 15 rfl zg ?_;refine .z 16 rfl zg ?_;refine .D hs ?_
  refine .seq (.draw mix rfl hs fun w hs=>?_)
  refine .z 0 rfl zm ?_;refine .z 1 rfl (zfa cZ) ?_;refine .y 2 rfl hs ae ?_
  refine .ixT (i:=3) hs rfl au .none hG rfl rfl aA aB (show i<_ by omega) dx ?_;intro b31 o31 a31 c31 hc31 hR31
  refine .r (i:=4) hs rfl au .none (bh rfl ak hc31) ?_
  refine .z 5 rfl (zfa cI) ?_;refine .y 6 rfl hs ae ?_
  refine .ixX (enc:=fun x=>[I x]) (i:=7) hs rfl au .none hR31 rfl rfl ad ai (bJ (l:=(gr G i)) (i:=k) aj) dx ?_;intro b35 o35 hc35;replace hc35:=bQ.one hc35
  refine .r (i:=8) hs rfl au .none (bh rfl ae hc35) ?_
  refine .z 9 rfl zg ?_;refine .D hs ?_
  refine .ret (Fin.bI Tryz.results239 rfl ?_)
  exact ⟨H1,hle1,by rw [hW,if_pos aj,←hgt];rfl,hs.out⟩
theorem ra{s:Spc}{q:Wht}{vst vwa:Value}{i k:Nat}{u:Int}(hs:St H w σ)(h1:RI H vst s.st)(hok:ez s)(hk1:q.kind=2)(hi:i<s.st.length):
  Cl Tryz.prog 241 [.agg #[I q.kind,I q.st,I q.wa,I s.id,I s.src,vst,vwa,I s.al,I s.up],.agg #[I (i:Int),I (k:Int),I u]] w fun v w'=>∃H1,HLe H H1∧v=I (na s q i k)∧St H1 w' σ:=by
 have hW:na s q i k=if (k:Int)=q.wa then gi (wts s.st) i else 0:=by unfold na;rw [if_neg aj,if_pos hk1]
 have hl:=gX s.st
 refine Cl.o Tryz.func241 Tryz.ntmps241 ag2 ?_
 refine .af ?_
 refine .bx hs fun b2 w hs=>?_
 refine .bx hs fun b3 w hs=>?_
 refine .z zg (.nil (.seq (.af (.z (zfa cI) (.y hs (zld ae) (.z (zfa cB) (.z (zfa dO) (.y hs (zld ae) (.z fM ?_)))))))))
 refine .nil ?_
 refine (.eD rfl (fun hc12=>?_) (fun hc12=>?_))
 ·refine .af (.z zg (.nil ?_))
  refine .ret (rT (Fin.bI Tryz.results241 rfl ?_))
  exact ⟨H,HLe.refl H,by rw [hW,if_neg aj],hs.out⟩
 ·refine .skip ?_
  refine nT ?_
  refine .af (.z (zfa eo) (.z (zfa bu) (.y hs (zld ak) ?_)))
  refine .o (.call Tryz.call273 rfl (jJ hs h1) ?_);rintro _ w ⟨H1,vo,e,hle1,rfl,hGx,hs⟩
  obtain ⟨rfl,hG⟩:=hGx hok.st
  obtain ⟨aG,cG,rfl⟩:=RI.shape hG
  refine .z zm (.z zex (.z zex (.z zg (.z zg (.nil (.af (.z zm (.z (zfa cZ) (.y hs (zld ae) ?_)))))))))
  refine .ixY hs hG rfl rfl ad ai (bJ (l:=(wts s.st)) (i:=i) aj) dx ?_;intro b23 o23 hc23
  refine .q hs (bh rfl ae hc23) ?_
  refine .z zg (.nil ?_)
  refine .ret (Fin.bI Tryz.results241 rfl ?_)
  exact ⟨H1,hle1,by rw [hW,if_pos aj],hs.out⟩
theorem pF{s:Spc}{q:Wht}{vst vwa:Value}{i k:Nat}{u:Int}(hs:St H w σ)(h2:RI H vwa s.wa)(hok:ez s)(hk1:q.kind=3)(hk:k<s.wa.length):
  Cl Tryz.prog 244 [.agg #[I q.kind,I q.st,I q.wa,I s.id,I s.src,vst,vwa,I s.al,I s.up],.agg #[I (i:Int),I (k:Int),I u]] w fun v w'=>∃H1,HLe H H1∧v=I (na s q i k)∧St H1 w' σ:=by
 have hW:na s q i k=if (i:Int)=q.st then gi (wts s.wa) k else 0:=by unfold na;rw [if_neg aj,if_neg aj,if_pos hk1]
 have hl:=gX s.wa
 refine Cl.o Tryz.func244 Tryz.ntmps244 ag2 ?_
 refine .af ?_
 refine .bx hs fun b2 w hs=>?_
 refine .bx hs fun b3 w hs=>?_
 refine .z zg (.nil (.seq (.af (.z (zfa cZ) (.y hs (zld ae) (.z (zfa cB) (.z (zfa ft) (.y hs (zld ae) (.z fM ?_)))))))))
 refine .nil ?_
 refine (.eD rfl (fun hc12=>?_) (fun hc12=>?_))
 ·refine .af (.z zg (.nil ?_))
  refine .ret (rT (Fin.bI Tryz.results244 rfl ?_))
  exact ⟨H,HLe.refl H,by rw [hW,if_neg aj],hs.out⟩
 ·refine .skip ?_
  refine nT ?_
  refine .af (.z (zfa eo) (.z (zfa bn) (.y hs (zld ak) ?_)))
  refine .o (.call Tryz.call273 rfl (jJ hs h2) ?_);rintro _ w ⟨H1,vo,e,hle1,rfl,hGx,hs⟩
  obtain ⟨rfl,hG⟩:=hGx (C6 hok)
  obtain ⟨aG,cG,rfl⟩:=RI.shape hG
  refine .z zm (.z zex (.z zex (.z zg (.z zg (.nil (.af (.z zm (.z (zfa cI) (.y hs (zld ae) ?_)))))))))
  refine .ixY hs hG rfl rfl ad ai (bJ (l:=(wts s.wa)) (i:=k) aj) dx ?_;intro b23 o23 hc23
  refine .q hs (bh rfl ae hc23) ?_
  refine .z zg (.nil ?_)
  refine .ret (Fin.bI Tryz.results244 rfl ?_)
  exact ⟨H1,hle1,by rw [hW,if_pos aj],hs.out⟩
theorem qq{s:Spc}{q:Wht}{vst vwa:Value}{i k:Nat}{u:Int}(hs:St H w σ)(hk1:q.kind=4):
  Cl Tryz.prog 246 [.agg #[I q.kind,I q.st,I q.wa,I s.id,I s.src,vst,vwa,I s.al,I s.up],.agg #[I (i:Int),I (k:Int),I u]] w fun v w'=>∃H1,HLe H H1∧v=I (na s q i k)∧St H1 w' σ:=by
 have hW:na s q i k=if (i:Int)=q.st∧(k:Int)=q.wa then 1 else 0:=by unfold na;rw [if_neg aj,if_neg aj,if_neg aj]
 refine Cl.o Tryz.func246 Tryz.ntmps246 ag2 ?_
 refine .af ?_
 refine .bx hs fun b2 w hs=>?_
 refine .bx hs fun b3 w hs=>?_
 refine .z zg (.nil (.seq (.af (.z (zfa cZ) (.y hs (zld ae) (.z (zfa cB) (.z (zfa ft) (.y hs (zld ae) (.z fM ?_)))))))))
 refine .z zm ?_
 refine .yU (t':=11) rfl (fun hb11=>?_) (fun hb11=>?_)
 ·refine .gFs 6 6 false rfl rfl rfl ?_
  refine .z zpT (.nil ?_)
  refine (.cT ?_)
  refine .af (.z zg (.nil ?_))
  refine .ret (rT (Fin.bI Tryz.results246 rfl ?_))
  first
  |exact ⟨H,HLe.refl H,by rw [hW,if_neg aj],hs.out⟩
  |exact ⟨H,HLe.refl H,by rw [hW,if_pos aj],hs.out⟩
 ·refine .gT rfl rfl ?_
  refine .z (zfa cI) ?_
  refine .gT rfl rfl ?_
  refine .y hs (zld ae) ?_
  refine .gT rfl rfl ?_
  refine .z (zfa cB) ?_
  refine .gT rfl rfl ?_
  refine .z (zfa dO) ?_
  refine .gT rfl rfl ?_
  refine .y hs (zld ae) ?_
  refine .gT rfl rfl ?_
  refine .z fM (.z zpF (.nil ?_))
  refine (.eD rfl (fun hc18=>?_) (fun hc18=>?_))
  ·refine .af (.z zg (.nil ?_))
   refine .ret (rT (Fin.bI Tryz.results246 rfl ?_))
   first
   |exact ⟨H,HLe.refl H,by rw [hW,if_neg aj],hs.out⟩
   |exact ⟨H,HLe.refl H,by rw [hW,if_pos aj],hs.out⟩
  ·refine .skip ?_
   refine nT ?_
   refine .af (.z zg (.nil ?_))
   refine .ret (Fin.bI Tryz.results246 rfl ?_)
   first
   |exact ⟨H,HLe.refl H,by rw [hW,if_neg aj],hs.out⟩
   |exact ⟨H,HLe.refl H,by rw [hW,if_pos aj],hs.out⟩
def yw(k:Int):Nat:=if k=1 then 237 else if k=2 then 240 else if k=3 then 242 else 245
def yo(k:Int):Nat:=if k=1 then 239 else if k=2 then 241 else if k=3 then 244 else 246
def xF(k:Int):Value:= .agg #[.func (.func (yw k)) #[] #[],.func (.func (yo k)) #[] #[],I (o8 ⟨k,0,0⟩)]
def DX:List MapEntry:=[{key:=I 1,val:=xF 1,born:=0},{key:=I 2,val:=xF 2,born:=1},{key:=I 3,val:=xF 3,born:=2},{key:=I 4,val:=xF 4,born:=3}]
theorem jS(hs:St H w σ):
  Cl Tryz.prog 189 [] w fun v w'=>∃b,v= .map (some b)∧St H w' (.obj b (.map DX.toArray 4)::σ):=by
 refine Cl.of Tryz.func189 rfl Tryz.ntmps189 cm (uz) ?_
 refine .af (.z zg (.nil (.af ?_)))
 refine .o (.makeMap hs fun b1 w hs=>?_)
 refine .z (zbd [_,_,_] gQ) ?_
 refine .o (.insert (es:=[]) hs rfl rfl rfl dT aQ rfl fun w hs=>?_)
 refine .z (zbd [_,_,_] gQ) ?_
 refine .o (.insert (es:=[{key:=I 1,val:=xF 1,born:=0}]) hs rfl rfl rfl dT aQ rfl fun w hs=>?_)
 refine .z (zbd [_,_,_] gQ) ?_
 refine .o (.insert (es:=[{key:=I 1,val:=xF 1,born:=0},{key:=I 2,val:=xF 2,born:=1}]) hs rfl rfl rfl dT aQ rfl fun w hs=>?_)
 refine .z (zbd [_,_,_] gQ) ?_
 refine .o (.insert (es:=[{key:=I 1,val:=xF 1,born:=0},{key:=I 2,val:=xF 2,born:=1},{key:=I 3,val:=xF 3,born:=2}]) hs rfl rfl rfl dT aQ rfl fun w hs=>?_)
 refine .z zm (.z zg (.nil ?_))
 refine .ret (Fin.bI Tryz.results189 rfl ?_)
 exact ⟨b1,rfl,hs⟩
def lF1(k:Int):Value:=if 1≤k∧k≤4 then .func (.func (yw k)) #[] #[] else .nilFunc
def lF2(k:Int):Value:=if 1≤k∧k≤4 then .func (.func (yo k)) #[] #[] else .nilFunc
def lD(k:Int):Int:=if 1≤k∧k≤4 then o8 ⟨k,0,0⟩ else 0
theorem xE(k:Int):[lF1 k,lF2 k,I (lD k)].all Value.oneCell'=true:=by
 unfold lF1 lF2;split<;>rfl
theorem zO{H:bP}{s:FS}{x y:Operand}{b:Nat}(k:Int)(hx:FS.ev s x=some (.map (some b)))(hy:FS.ev s y=some (I k)):
  QJ Tryz.prog H [.obj b (.map DX.toArray 4)] s (.lookup 233 x y true) (.tuple #[.agg #[lF1 k,lF2 k,I (lD k)],.bool (decide (1≤k∧k≤4))]):=by
 by_cases h:1≤k∧k≤4
 ·rw [decide_eq_true h]
  have h4:k=1∨k=2∨k=3∨k=4:=by omega
  rcases h4 with rfl|rfl|rfl|rfl
  ·exact xt (v:=xF 1) (j:=0) hx hy dT aQ rfl .here
  ·exact xt (v:=xF 2) (j:=1) hx hy dT aQ rfl .here
  ·exact xt (v:=xF 3) (j:=2) hx hy dT aQ rfl .here
  ·exact xt (v:=xF 4) (j:=3) hx hy dT aQ rfl .here
 ·rw [decide_eq_false h]
  have e1:lF1 k= .nilFunc:=if_neg h
  have e2:lF2 k= .nilFunc:=if_neg h
  have e3:lD k=0:=if_neg h
  rw [e1,e2,e3]
  refine De (es:=DX) (c:=4) hx hy dT aQ Fy ?_ .here
  have n1:(k==1)=false:=by simp only [beq_eq_false_iff_ne];omega
  have n2:(k==2)=false:=by simp only [beq_eq_false_iff_ne];omega
  have n3:(k==3)=false:=by simp only [beq_eq_false_iff_ne];omega
  have n4:(k==4)=false:=by simp only [beq_eq_false_iff_ne];omega
  simp [Instr.findNow,Instr.sameNow,DX,n1,n2,n3,n4]
theorem Bp(k:Int):∀args w,(callFunc (yw k) args).run Tryz.prog w= .ok (.enter (yw k) args) w:=by
 unfold yw
 split
 ·exact Tryz.call237
 ·split
  ·exact Tryz.call240
  ·split
   ·exact Tryz.call242
   ·exact Tryz.call245
theorem Bd(k:Int):∀args w,(callFunc (yo k) args).run Tryz.prog w= .ok (.enter (yo k) args) w:=by
 unfold yo
 split
 ·exact Tryz.call239
 ·split
  ·exact Tryz.call241
  ·split
   ·exact Tryz.call244
   ·exact Tryz.call246
theorem Bo{s:Spc}{q:Wht}{vst vwa:Value}(hs:St H w σ)(h1:RI H vst s.st)(h2:RI H vwa s.wa)(hk:1≤q.kind∧q.kind≤4):
  Cl Tryz.prog (yw q.kind) [.agg #[I q.kind,I q.st,I q.wa,I s.id,I s.src,vst,vwa,I s.al,I s.up]] w fun v w'=>∃b:Bool,v= .bool b∧(b=true↔eX s q)∧St H w' σ:=by
 unfold yw
 split
 ·exact vE hs h2 ef
 ·split
  ·exact vD hs h2 ef
  ·split
   ·exact vC hs h1 ef
   ·exact vB hs h1 h2 aj
theorem Bc{s:Spc}{q:Wht}{vst vwa:Value}{i k:Nat}{u:Int}(hs:St H w σ)(h1:RI H vst s.st)(h2:RI H vwa s.wa)(hok:ez s)(hq:eX s q)(hk:1≤q.kind∧q.kind≤4)(hi:i<s.st.length)(hkw:k<s.wa.length):
  Cl Tryz.prog (yo q.kind) [.agg #[I q.kind,I q.st,I q.wa,I s.id,I s.src,vst,vwa,I s.al,I s.up],.agg #[I (i:Int),I (k:Int),I u]] w fun v w'=>∃H1,HLe H H1∧v=I (na s q i k)∧St H1 w' σ:=by
 unfold yo
 split
 ·exact qs hs h1 h2 hok hq ef hi
 ·split
  ·exact ra hs h1 hok ef hi
  ·split
   ·exact pF hs h2 hok ef hkw
   ·exact qq hs aj
theorem EA{q:Wht}(h:1≤q.kind∧q.kind≤4):lD q.kind=o8 q:=by
 unfold lD;rw [if_pos h];rfl
theorem Bb{s:Spc}{q:Wht}(h:eX s q):1≤q.kind∧q.kind≤4:=by
 rcases pE.1 h with h|h|h|h<;>omega
set_option maxHeartbeats 1000000 in
theorem gw{s:Spc}{q:Wht}{vst vwa:Value}(hs:St H w σ)(h1:RI H vst s.st)(h2:RI H vwa s.wa)(hok:ez s):
  Cl Tryz.prog 102 [.agg #[I s.id,I s.src,vst,vwa,I s.al,I s.up],.agg #[I q.kind,I q.st,I q.wa]] w fun u w'=>∃H1 vl L d b en,HLe H H1∧u= .tuple #[vl,I d,.bool b]∧bS 1 vl (Is L) en∧((b=true∧eX s q∧L=jk s q∧d=o8 q)∨(b=false∧¬eX s q∧L=[]∧d=0))∧St H1 w' (en::σ):=by
 have hsm:=dB hok
 obtain ⟨ast,cst,rfl⟩:=RI.shape h1
 obtain ⟨awa,cwa,rfl⟩:=RI.shape h2
 refine Cl.o Tryz.func102 Tryz.ntmps102 ag2 ?_
 refine .af ?_
 refine .bx hs fun b2 w hs=>?_
 refine .bx hs fun b3 w hs=>?_
 refine .z zg (.z zg (.z zg (.nil ?_)))
 refine .cut (fun fs w=>∃b7,mE fs ⟨46,[],[(8,.bool (decide (1≤q.kind∧q.kind≤4))),(7,.pointer (some ⟨b7,0,none⟩)),(2,.pointer (some ⟨b2,0,none⟩)),(3,.pointer (some ⟨b3,0,none⟩))]⟩∧St H w (.blk b7 [lF1 q.kind,lF2 q.kind,I (lD q.kind)]:: .blk b3 [I q.kind,I q.st,I q.wa]:: .blk b2 [I s.id,I s.src,(.slice ast s.st.length cst),(.slice awa s.wa.length cwa),I s.al,I s.up]::σ)) ?_ ?_
 ·refine .draw mix rfl hs fun w hs=>?_
  refine .z 1 rfl (zfa oZ) ?_;refine .y 2 rfl hs ae ?_
  refine .e2 (i:=0) (j:=7) au rfl rfl rfl rfl .none .none hs ?_ ?_
  ·refine .call Tryz.call189 rfl (jS hs) ?_;rintro _ w ⟨b13,rfl,hs⟩
   refine .go ?_
   refine .q (i:=3) [.obj b13 (.map DX.toArray 4)] rfl au .none (zO (H:= .bot) q.kind rfl rfl) ?_
   refine .z 4 rfl zm ?_;refine .z 5 rfl zex ?_;refine .z 6 rfl zex ?_
   refine .E 7 hs ?_
   refine .alloc hs Fy rfl ?_;intro b7 w hs
   refine .go ?_
   refine .E 8 hs ?_
   refine .aO (vs:=[lF1 q.kind,lF2 q.kind,I (lD q.kind)]) hs rfl rfl Tryz.sizeOf231 ?_ (hv:=xE _);intro w hs
   refine .go ?_
   refine .z 9 rfl zg ?_;refine .D hs ?_
   exact nT ⟨b7,bD,hs.sb⟩
  ·refine .alloc hs Fy rfl ?_;intro b7 w hs
   refine .go ?_
   refine .E 0 hs ?_
   refine .call Tryz.call189 rfl (jS hs) ?_;rintro _ w ⟨b13,rfl,hs⟩
   refine .go ?_
   refine .q (i:=3) [.obj b13 (.map DX.toArray 4)] rfl au .none (zO (H:= .bot) q.kind rfl rfl) ?_
   refine .z 4 rfl zm ?_;refine .z 5 rfl zex ?_;refine .z 6 rfl zex ?_
   refine .E 8 hs ?_
   refine .aO (vs:=[lF1 q.kind,lF2 q.kind,I (lD q.kind)]) hs rfl rfl Tryz.sizeOf231 ?_ (hv:=xE _);intro w hs
   refine .go ?_
   refine .z 9 rfl zg ?_;refine .D hs ?_
   exact nT ⟨b7,bD,hs.sb⟩
 ·rintro fs w ⟨b7,hfs,hs⟩
  refine WE.sub ?_ hfs
  refine .af (.y hs (zls [_,_,_] cj bw) (.y hs (zls [_,_,_,_,_,_] aM aE) (.z (zbd (vs:=[(0,.agg #[I q.kind,I q.st,I q.wa]),(1,.agg #[I s.id,I s.src,(.slice ast s.st.length cst),(.slice awa s.wa.length cwa),I s.al,I s.up])]) [I q.kind,I q.st,I q.wa,I s.id,I s.src,(.slice ast s.st.length cst),(.slice awa s.wa.length cwa),I s.al,I s.up] qK rfl au) ?_)))
  refine .o (.alloc hs Tryz.zeroValue236 rfl fun b9 w hs=>?_)
  refine .o (.aO (vs:=[_,_,_,_,_,_,_,_,_]) hs rfl rfl jG fun w hs=>?_)
  refine .nil (.seq (.af (.z zm (.z iq (.z zm ?_)))))
  refine .bif (t':=24) rfl (fun hb24=>?_) (fun hb24=>?_)
  ·refine .gFs 5 2 false rfl rfl rfl ?_
   refine .z zpT (.nil ?_)
   refine (.cT ?_)
   refine .af (.z zg (.z zg (.z zg (.nil ?_))))
   refine .ret (rT (?_))
   have hn:¬eX s q:=fun h=>by have:=Bb h;simp [this] at hb24
   exact Fin.gI [] [] hs fun w hs=>⟨_,results3 Tryz.results102 rfl rfl rfl,H,_,[],_,_,.nul,HLe.refl H,rfl,.nil 1 none,.inr ⟨rfl,hn,rfl,rfl⟩,hs.out.nul⟩
  ·refine .gT rfl rfl ?_
   have hk:1≤q.kind∧q.kind≤4:=by simpa using hb24
   rw [show lF1 q.kind= .func (.func (yw q.kind)) #[] #[] from if_pos hk,show lF2 q.kind= .func (.func (yo q.kind)) #[] #[] from if_pos hk,EA hk] at hs
   refine .z (zfa p9) ?_
   refine .gT rfl rfl ?_
   refine .y hs (zld Tryz.isAgg228) ?_
   refine .gT rfl rfl ?_
   refine .y hs (zls [_,_,_,_,_,_,_,_,_] pB jG) ?_
   refine .gT rfl rfl ?_
   refine .o (.kT (first:=[]) (cap:=[]) rfl rfl (Bp q.kind) (Bo (s:=s) hs h1 h2 hk) ?_);rintro _ w ⟨b28,rfl,hb28,hs⟩
   refine .gT rfl rfl ?_
   refine .z iq (.z zpF (.nil ?_))
   refine (.cond rfl (fun hc30=>?_) (fun hc30=>?_))
   ·refine .af (.z zg (.z zg (.z zg (.nil ?_))))
    refine .ret (rT (?_))
    have hn:¬eX s q:=fun h=>by rw [hb28.2 h] at hc30;cases hc30
    exact Fin.gI [] [] hs fun w hs=>⟨_,results3 Tryz.results102 rfl rfl rfl,H,_,[],_,_,.nul,HLe.refl H,rfl,.nil 1 none,.inr ⟨rfl,hn,rfl,rfl⟩,hs.out.nul⟩
   ·refine .skip ?_
    refine nT ?_
    refine .af ?_
    refine .o (.buildSlice (cells:=[_]) hs bY rfl rfl fun b31 w hs=>?_)
    refine .o (.alloc hs dA rfl fun b10 w hs=>?_)
    refine .o (.store hs rfl rfl aB fun w hs=>?_)
    refine .nil (.seq (.af (.y hs (zls [_,_,_,_,_,_] aM aE) ?_)))
    have hq:eX s q:=hb28.1 (by simpa using hc30)
    refine .o (.call zb rfl (eG (s:=s) hs h1 h2 ⟨aj,aj⟩) ?_);rintro _ w ⟨H1,ba,hle1,rfl,hit,hs⟩
    have hwl:=fo s q
    refine .nil (.block ?_)
    refine .rangeFunc (gf:=190) (cap:=[.pointer (some ⟨ba,0,none⟩)]) (xs:=tp s) (σb:=[.blk b10 [.slice (some ⟨b31,0,none⟩) 1 1],.blk b31 (Is [0]),.blk b7 [.func (.func (yw q.kind)) #[] #[],.func (.func (yo q.kind)) #[] #[],I (o8 q)],.blk b9 [I q.kind,I q.st,I q.wa,I s.id,I s.src,(.slice ast s.st.length cst),(.slice awa s.wa.length cwa),I s.al,I s.up]]) (σf:=σ) (hs.sb) trivial rfl hit za (fun x hx=>by
      simp only [tp,List.mem_map] at hx
      obtain ⟨j,_,rfl⟩:=hx;rfl) rfl
     (I:=fun p H' σb=>∃vo en,σb=[.blk b10 [vo],en,.blk b7 [.func (.func (yw q.kind)) #[] #[],.func (.func (yo q.kind)) #[] #[],I (o8 q)],.blk b9 [I q.kind,I q.st,I q.wa,I s.id,I s.src,(.slice ast s.st.length cst),(.slice awa s.wa.length cwa),I s.al,I s.up]]∧bS 1 vo (Is ((jk s q).take (p+1))) en) (Ix:=fun _ _ _=>False)
     (fun j _ _ σ g1 g2=>g2) (fun _ _ _ _ _ h=>h) ⟨_,_,rfl,.full rfl⟩ ?_ ?_ (fun D c H' σb w _ h _=>h.elim)
    ·rintro ly p hp H2 σb2 σf2 w hle2 ⟨vo,en,rfl,hO⟩ hs ⟨rr,hrr⟩
     have hpm:p<s.many:=by rw [dI] at hp;exact hp
     have hin:p/s.wa.length<s.st.length:=Nat.div_lt_of_lt_mul (by rw [Nat.mul_comm];exact hpm)
     have hkm:=Nat.mod_lt p hsm.2.2.1
     have hws:=uP s q hpm
     have hget:(jk s q)[p+1]? =some (na s q (p/s.wa.length) (p%s.wa.length)):=by rw [←hws];exact bJ aj
     rw [kY hp]
     obtain ⟨al,ll,cl,rfl,hll⟩:=hO.shape
     generalize p/s.wa.length=i at*
     generalize p%s.wa.length=k at*
     refine .region ?_
     refine .o (.alloc hs jn rfl fun b11 w hs=>?_)
     refine .o (.aO (vs:=[_,_,_]) hs rfl rfl mX fun w hs=>?_)
     refine .nil ?_
     refine nT ?_
     refine ⟨H2,[.blk b11 [I (i:Int),I (k:Int),I ((p+1:Nat):Int)],.blk b10 [Value.slice al ll cl],en,.blk b7 [.func (.func (yw q.kind)) #[] #[],.func (.func (yo q.kind)) #[] #[],I (o8 q)],.blk b9 [I q.kind,I q.st,I q.wa,I s.id,I s.src,(.slice ast s.st.length cst),(.slice awa s.wa.length cwa),I s.al,I s.up]],HLe.refl _,hs,?_⟩;rintro w σf4 - hs
     refine .block ?_
     refine .draw mix rfl hs fun w hs=>?_
     refine .y 0 rfl hs ak ?_;refine .z 1 rfl (zfa p8) ?_
     refine .y 2 rfl hs Tryz.isAgg229 ?_
     refine .ys 3 rfl hs [_,_,_,_,_,_,_,_,_] pB jG ?_;refine .ys 4 rfl hs [_,_,_] Tryz.isAgg158 mX ?_
     refine .E 5 hs ?_
     refine .kT (first:=[]) (cap:=[]) rfl rfl (Bd q.kind) (Bc (s:=s) (q:=q) (i:=i) (k:=k) hs (h1.mono (hle1.trans hle2)) (h2.mono (hle1.trans hle2)) hok hq hk hin hkm) ?_;rintro _ w ⟨H3,hle3,rfl,hs⟩
     refine .go ?_
     refine .E 6 hs ?_
     refine .buildSlice (cells:=[_]) hs bY rfl rfl ?_;intro b41 w hs
     refine .go ?_
     refine .E 7 hs ?_
     refine .append (ys:=Is [na s q i k]) hs bN rfl rfl hO (.own .here rfl rfl) (fH _) (fun l h=>by simp at h;omega) ?_;intro v42 en42 w hO2 hs
     rw [show Is ((jk s q).take (p+1))++Is [na s q i k]=Is ((jk s q).take (p+1+1)) by rw [cM hget];simp [Is]] at hO2
     obtain ⟨a42,l42,c42,rfl,h42⟩:=hO2.shape
     refine .go ?_
     refine .E 8 hs ?_
     refine .store hs rfl rfl aB ?_;intro w hs
     refine .go ?_
     refine .D hs ?_
     refine nB ?_
     exact ⟨H3,[.blk b10 [.slice a42 l42 c42],en42,.blk b7 [.func (.func (yw q.kind)) #[] #[],.func (.func (yo q.kind)) #[] #[],I (o8 q)],.blk b9 [I q.kind,I q.st,I q.wa,I s.id,I s.src,(.slice ast s.st.length cst),(.slice awa s.wa.length cwa),I s.al,I s.up]],hle3,(hs.sb:St H3 w (.blk b10 _::en42:: .blk b7 _:: .blk b9 _::σf4)),_,_,rfl,hO2⟩
    ·rintro D H2 σb2 w hle2 ⟨vo,en,rfl,hO⟩ hs
     rw [dI,←hwl,List.take_length] at hO
     replace hs:St H2 w (.obj D (.deferred (some [])):: .blk b10 [vo]::en:: .blk b7 [.func (.func (yw q.kind)) #[] #[],.func (.func (yo q.kind)) #[] #[],I (o8 q)]:: .blk b9 [I q.kind,I q.st,I q.wa,I s.id,I s.src,(.slice ast s.st.length cst),(.slice awa s.wa.length cwa),I s.al,I s.up]::σ):=hs
     obtain ⟨al,ll,cl,rfl,hll⟩:=hO.shape
     refine nB (nT ?_)
     refine .seq (.draw mix rfl hs fun w hs=>?_)
     refine .y 0 rfl hs ak ?_;refine .z 1 rfl (zfa p6) ?_;refine .y 2 rfl hs ae ?_;refine .z 3 rfl zg ?_;refine .z 4 rfl zg ?_;refine .z 5 rfl zg ?_;refine .D hs ?_
     refine .ret ?_
     exact Fin.gI [D] [] hs fun w hs=>⟨_,results3 Tryz.results102 rfl rfl rfl,H2,_,_,_,_,en,hle1.trans hle2,rfl,hO,.inl ⟨rfl,hq,rfl,rfl⟩,hs.sb⟩
theorem iB{a d:Int}(hs:St H w σ)(hd:1≤d)(ha: -4608000000000000000≤a∧a≤4608000000000000000):
  Cl Tryz.prog 86 [I a,I d] w fun v w'=>v=I (a/d)∧St H w' σ:=by
 have hq: -4608000000000000000≤a.tdiv d∧a.tdiv d≤4608000000000000000:=by
  have h1:=qZ (n:=a) (d:=d) aj
  have h2:a/d≤4608000000000000000:=Int.ediv_le_of_le_mul aj (by
   have:=Int.mul_le_mul_of_nonneg_left hd (show (0:Int)≤4608000000000000000 by omega);omega)
  have h3: -4608000000000000000≤a/d:=Int.le_ediv_of_mul_le aj (by
   have:=Int.mul_le_mul_of_nonneg_left hd (show (0:Int)≤4608000000000000000 by omega);omega)
  by_cases h0:0≤a
  ·rw [Int.tdiv_eq_ediv_of_nonneg h0];omega
  ·split at h1
   ·have:a/d<0:=Int.ediv_neg_of_neg_of_pos aj aj
    omega
   ·omega
 have hfl:=qZ (n:=a) (d:=d) aj
 refine Cl.o Tryz.func86 Tryz.ntmps86 ag2 ?_
 refine .af (.z zg (.nil (.af (.z zm (.z zm ?_)))))
 refine .q hs (vi rfl rfl aj ⟨aj,aj⟩) ?_
 refine .z zg (.nil (.seq (.af (.z zm (.z zm (.z A2 (.z gp (.nil ?_))))))))
 refine (.ck rfl (fun hc12=>?_) (fun hc12=>?_))
 ·refine .region (.z zm (.z hZ (.z zg (.nil ?_))))
  refine nT ?_
  refine .af (.z zm (.z zg (.nil ?_)))
  refine .ret (Fin.bI Tryz.results86 rfl ?_)
  rw [if_pos hc12] at hfl
  exact ⟨by rw [hfl],hs⟩
 ·refine .skip ?_
  refine nT ?_
  refine .af (.z zm (.z zg (.nil ?_)))
  refine .ret (Fin.bI Tryz.results86 rfl ?_)
  rw [if_neg hc12,Int.sub_zero] at hfl
  exact ⟨by rw [hfl],hs⟩
theorem nF{s:Srv}{vst vwa vr vc:Value}(hs:St H w σ)(h1:RI H vst s.sp.st)(h2:RI H vwa s.sp.wa)(h3:RRd H vr s.rs)(h4:RCm H vc s.cs)(hok:cS s):
  Cl Tryz.prog 169 [.agg #[I s.sp.id,I s.sp.src,vst,vwa,I s.sp.al,I s.sp.up,vr,vc]] w fun u w'=>∃H1,∃b:Bool,HLe H H1∧u= .bool b∧(b=true↔s.sys.Sound)∧St H1 w' σ:=by
 refine Cl.o Tryz.func169 Tryz.ntmps169 ag1 ?_
 refine .af ?_
 refine .bx hs fun b1 w hs=>?_
 refine .z zg (.nil (.af (.y hs (zls [_,_,_,_,_,_,_,_] aq an) ?_)))
 refine .o (.call qd rfl (dz (s:=s) hs h1 h2 h3 h4 hok.early) ?_);rintro v7 w ⟨H1,hle1,hS,hs⟩
 refine .o (.call Tryz.call51 rfl (qI (s:=s.sys) hs hS) ?_);rintro _ w ⟨H2,vx,xs,e,hle2,rfl,rx,hC,hs⟩
 obtain ⟨ax,cx,rfl⟩:=RI.shape rx
 have hchk:s.sys.check=0:=s.sys.bL.2 hok.sys
 obtain rfl:e=0:=by
  cases hC with
  |bad h=>exact (h hchk).elim
  |sound=>rfl
  |chain=>rfl
 have hiff:=hC.zB
 refine .z zm (.z zex (.z zex (.z zg (.z zg (.nil (.af (.z zm (.z ir (.z zm ?_)))))))))
 refine .kf (t':=13) rfl (fun hb13=>?_) (fun hb13=>?_)
 ·refine .gT rfl rfl ?_
  refine .z zm ?_
  refine .gT rfl rfl ?_
  refine .z (c9 ad) ?_
  refine .gT rfl rfl ?_
  refine .z ir (.z zpT (.z zg (.nil ?_)))
  refine .ret (Fin.bI Tryz.results169 rfl ?_)
  first
  |exact ⟨H2,_,hle1.trans hle2,rfl,by rw [←hiff,decide_eq_true_eq];exact ⟨fun h=>List.length_eq_zero_iff.1 aj,fun h=>by rw [h];rfl⟩,hs.out⟩
  |exact (hb13 rfl).elim
 ·refine .gFs 3 2 true rfl rfl rfl ?_
  refine .z zpF (.z zg (.nil ?_))
  refine .ret (Fin.bI Tryz.results169 rfl ?_)
  first
  |exact ⟨H2,_,hle1.trans hle2,rfl,by rw [←hiff,decide_eq_true_eq];exact ⟨fun h=>List.length_eq_zero_iff.1 aj,fun h=>by rw [h];rfl⟩,hs.out⟩
  |exact (hb13 rfl).elim
theorem yc(L:List Int)(j:Nat):L++List.replicate j 0++[0]=L++List.replicate (j+1) 0:=by
 rw [List.append_assoc,←List.replicate_succ']
set_option maxHeartbeats 1000000 in
theorem qC{s:Srv}{q:Wht}{vst vwa vr vc:Value}(hs:St H w σ)(h1:RI H vst s.sp.st)(h2:RI H vwa s.sp.wa)(h3:RRd H vr s.rs)(h4:RCm H vc s.cs)(hok:cS s):
  Cl Tryz.prog 155 [.agg #[I s.sp.id,I s.sp.src,vst,vwa,I s.sp.al,I s.sp.up,vr,vc],.agg #[I q.kind,I q.st,I q.wa]] w fun u w'=>∃H1 ul vw L d b,HLe H H1∧u= .tuple #[.agg #[I s.sys.many,ul,vw,I d],.bool b]∧RL H1 ul s.bV∧RI H1 vw L∧L.length=s.sys.n∧((b=true∧eX s.sp q∧L=s.w q∧d=o8 q)∨(b=false∧¬eX s.sp q))∧St H1 w' σ:=by
 have hn:=kI s
 have hm:=hok.many
 have hsm:s.sys.many+1=(s.sys.n:Int):=by rw [hn];show ((s.sp.many+s.bg.length:Nat):Int)+1=_;omega
 refine Cl.o Tryz.func155 Tryz.ntmps155 ag2 ?_
 refine .af ?_
 refine .bx hs fun b2 w hs=>?_
 refine .bx hs fun b3 w hs=>?_
 refine .o (.alloc hs uM rfl fun b4 w hs=>?_)
 refine .z zg (.nil (.af (.y hs (zls [_,_,_,_,_,_,_,_] aq an) ?_)))
 refine .o (.call qd rfl (dz (s:=s) hs h1 h2 h3 h4 hok.early) ?_);rintro _ w ⟨H1,hle1,⟨ul,rfl,hL⟩,hs⟩
 obtain ⟨al,cl,rfl⟩:=RL.shape hL
 refine .o (.alloc hs cu rfl fun b6 w hs=>?_)
 refine .o (.aO (vs:=[_,_]) hs rfl rfl aC fun w hs=>?_)
 refine .nil (.af (.z (zfa aK) (.y hs (zls [_,_,_,_,_,_] aM aE) (.y hs (zls [_,_,_] cj bw) ?_))))
 refine .o (.call Tryz.call102 rfl (gw (s:=s.sp) (q:=q) hs (h1.mono hle1) (h2.mono hle1) hok.early.1) ?_);rintro _ w ⟨H2,vl,L0,d,b,en,hle2,rfl,hO,hcase,hs⟩
 have hL0:L0.length≤s.sys.n:=by
  rcases hcase with ⟨_,_,rfl,_⟩|⟨_,_,rfl,_⟩
  ·rw [fo,hn];omega
  ·simp
 have hle02:=hle1.trans hle2
 refine .z zm (.z zex (.z zex (.z zex (.z zg (.z zg (.z zg (.nil (.seq (.block ?_)))))))))
 refine .loop (fun p:Nat×Value=>⟨34,[],[(7,p.2),(8,I d),(9,.bool b),(6,.pointer (some ⟨b6,0,none⟩)),(4,.pointer (some ⟨b4,0,none⟩))]⟩)
  (fun p w=>L0.length+p.1≤s.sys.n∧∃en,bS 1 p.2 (Is (L0++List.replicate p.1 0)) en∧St H2 w (en:: .blk b6 [I s.sys.many,.slice al s.bV.length cl]:: .blk b4 [I 0,.slice none 0 0,.slice none 0 0,I 0]::σ)) (fun p=>s.sys.n - (L0.length+p.1)) (0,vl) bD
  ⟨by simpa using hL0,en,by simpa using hO,hs.sb⟩ ?_
 clear hO hs
 rintro ⟨j,vo⟩ w ⟨hj,en,hO,hs⟩
 dsimp only at hj hO ⊢
 obtain ⟨ao,lo,co,rfl,hlo⟩:=hO.shape
 have hlo':lo=L0.length+j:=by simp [Is] at hlo;omega
 refine .seq (.af (.z zm (.z (c9 ad) (.z (zfa bB) (.y hs (zld ae) (.z cC (.z gp (.nil ?_))))))))
 refine (.ck rfl (fun hc25=>?_) (fun hc25=>?_))
 ·refine .skip ?_
  refine nT ?_
  refine .block (.region (.z zm ?_))
  refine .o (.buildSlice (cells:=[_]) hs bY rfl rfl fun b27 w hs=>?_)
  refine .o (.append (ys:=Is [0]) hs bN rfl rfl hO (.own .here rfl rfl) (fH _) (fun l' h=>by simp [Is] at h;omega) ?_);intro v28 en28 w hO2 hs
  rw [show Is (L0++List.replicate j 0)++Is [0]=Is (L0++List.replicate (j+1) 0) by rw [←yc];simp [Is]] at hO2
  refine .z zg (.nil ?_)
  refine nB (nT ?_)
  exact ⟨(j+1,v28),bD,⟨by dsimp only;omega,_,hO2,hs.sb⟩,by dsimp only;omega⟩
 ·refine .exit ?_
  refine xT (xT (xB (nT ?_)))
  refine .af (.y hs (zls [_,_] a8 aC) (.z zm (.z zm (.z (zbd [_,_,_,_] e7) (.z zm ?_)))))
  refine .o (.aO (vs:=[_,_,_,_]) hs rfl rfl dU fun w hs=>?_)
  refine .z zg (.nil ?_)
  refine .ret ?_
  have hjn:L0.length+j=s.sys.n:=by omega
  obtain ⟨H3,hle3,hR,hs⟩:=bS.cV hO (by simp;omega) hs dw
  exact Fin.gI [] [] hs fun w hs=>⟨_,results2 Tryz.results155 (di (vs:=[_,_,_,_]) hs rfl wi dU) rfl,H3,_,_,_,d,b,hle02.trans hle3,rfl,hL.mono (hle2.trans hle3),hR,by simp;omega,by
   rcases hcase with ⟨g1,g2,rfl,g3⟩|⟨g1,g2,_,_⟩
   ·refine .inl ⟨g1,g2,?_,g3⟩
    rw [fo,hn] at hjn
    unfold Srv.w;rw [show j=s.bg.length by omega]
   ·exact .inr ⟨g1,g2⟩,hs.out⟩
inductive uH(v:Srv)(q:Wht):Int→Prop
 |bad {e:Int} (h:se v e) (he:e≠0):uH v q e
 |what (h:cS v) (h1:¬eX v.sp q):uH v q 33
 |fls (h:cS v) (h1:eX v.sp q) (h2:¬v.sys.Sound):uH v q 35
 |ok (h:cS v) (h1:eX v.sp q) (h2:v.sys.Sound):uH v q 0
theorem uH.zero{v:Srv}{q:Wht}(h:uH v q 0):cS v∧eX v.sp q∧v.sys.Sound:=by
 generalize hz:(0:Int)=z at h
 cases h with
 |bad h he=>exact (he hz.symm).elim
 |what=>omega
 |fls=>omega
 |ok h h1 h2=>exact ⟨h,h1,h2⟩
theorem uH.qty{v:Srv}{q:Wht}{e:Int}(h:uH v q e)(he:e≠0):nV v q 0 0 e:=by
 cases h with
 |bad h he=>exact .bad h he
 |what h h1=>exact .what h h1
 |fls h h1 h2=>exact .fls h h1 h2
 |ok=>exact (he rfl).elim
set_option maxHeartbeats 1000000 in
theorem oH{s:Srv}{q:Wht}{vst vwa vr vc:Value}(hs:St H w σ)(h1:RI H vst s.sp.st)(h2:RI H vwa s.sp.wa)(h3:RRd H vr s.rs)(h4:RCm H vc s.cs):
  Cl Tryz.prog 85 [.agg #[I s.sp.id,I s.sp.src,vst,vwa,I s.sp.al,I s.sp.up,vr,vc],.agg #[I q.kind,I q.st,I q.wa]] w fun u w'=>∃H1 m ul vw d e,HLe H H1∧u= .tuple #[.agg #[I m,ul,vw,I d],I e]∧(∃a l c,ul= .slice a l c)∧(∃a l c,vw= .slice a l c)∧uH s q e∧(e=0→m=s.sys.many∧RL H1 ul s.bV∧RI H1 vw (s.w q)∧d=o8 q)∧St H1 w' σ:=by
 refine Cl.o Tryz.func85 Tryz.ntmps85 ag2 ?_
 refine .af ?_
 refine .bx hs fun b2 w hs=>?_
 refine .bx hs fun b3 w hs=>?_
 refine .o (.alloc hs uM rfl fun b4 w hs=>?_)
 refine .z zg (.nil (.seq (.af (.y hs (zls [_,_,_,_,_,_,_,_] aq an) ?_))))
 refine .o (.call iG rfl (cD (s:=s) hs h1 h2 h3 h4) ?_);rintro _ w ⟨H1,e,hle1,rfl,hC,hs⟩
 refine .z zg (.nil (.af (.z zm (.z fM (.nil ?_)))))
 refine (.eD rfl (fun hc12=>?_) (fun hc12=>?_))
 ·refine .af (.z (zbd [_,_,_,_] e7) (.z zm ?_))
  refine .o (.aO (vs:=[_,_,_,_]) hs rfl rfl dU fun w hs=>?_)
  refine .z zg (.nil ?_)
  refine .ret (rT (?_))
  exact Fin.gI [] [] hs fun w hs=>⟨_,results2 Tryz.results85 (di (vs:=[_,_,_,_]) hs rfl wi dU) rfl,H1,_,_,_,_,e,hle1,rfl,⟨_,_,_,rfl⟩,⟨_,_,_,rfl⟩,.bad hC hc12,fun h=>(hc12 h).elim,hs.out⟩
 ·refine .skip ?_
  refine nT ?_
  refine .af (.y hs (zls [_,_,_,_,_,_,_,_] aq an) (.y hs (zls [_,_,_] cj bw) ?_))
  have hok:cS s:=hC.bL.1 (by simpa using hc12)
  refine .o (.call Tryz.call155 rfl (qC (s:=s) (q:=q) hs (h1.mono hle1) (h2.mono hle1) (h3.mono hle1) (h4.mono hle1) hok) ?_);rintro _ w ⟨H2,ul,vw,L,d,b,hle2,rfl,hL,hR,hLl,hcase,hs⟩
  have hle02:=hle1.trans hle2
  obtain ⟨al,cl,rfl⟩:=RL.shape hL
  obtain ⟨aw,cw,rfl⟩:=RI.shape hR
  refine .z zm (.z zex (.z zex ?_))
  refine .o (.alloc hs uM rfl fun b7 w hs=>?_)
  refine .o (.aO (vs:=[_,_,_,_]) hs rfl rfl dU fun w hs=>?_)
  refine .z zg (.nil (.seq (.block (.af (.z zm (.z iq (.z zg (.nil ?_))))))))
  refine (.cond rfl (fun hc21=>?_) (fun hc21=>?_))
  ·refine .af (.z (zbd [_,_,_,_] e7) ?_)
   refine .o (.aO (vs:=[_,_,_,_]) hs rfl rfl dU fun w hs=>?_)
   refine .z zg (.nil ?_)
   refine .ret (rB (rT (?_)))
   have hq:¬eX s.sp q:=by
    rcases hcase with ⟨g,_⟩|⟨_,g⟩
    ·subst g;cases hc21
    ·exact g
   exact Fin.gI [] [] hs fun w hs=>⟨_,results2 Tryz.results85 (di (vs:=[_,_,_,_]) hs rfl wi dU) rfl,H2,_,_,_,_,_,hle02,rfl,⟨_,_,_,rfl⟩,⟨_,_,_,rfl⟩,.what hok hq,fun h=>by omega,hs.out⟩
  ·refine .af (.y hs (zls [_,_,_,_,_,_,_,_] aq an) ?_)
   obtain ⟨rfl,hq,rfl,rfl⟩:b=true∧eX s.sp q∧L=s.w q∧d=o8 q:=hcase.resolve_right fun h=>by rw [h.1] at hc21;cases hc21
   refine .o (.call Tryz.call169 rfl (nF (s:=s) hs (h1.mono hle02) (h2.mono hle02) (h3.mono hle02) (h4.mono hle02) hok) ?_);rintro _ w ⟨H3,b27,hle3,rfl,hb27,hs⟩
   refine .z iq (.z zg (.nil ?_))
   refine (.cond rfl (fun hc25=>?_) (fun hc25=>?_))
   ·refine .af (.z (zbd [_,_,_,_] e7) ?_)
    refine .o (.aO (vs:=[_,_,_,_]) hs rfl rfl dU fun w hs=>?_)
    refine .z zg (.nil ?_)
    refine .ret (rB (rT (?_)))
    exact Fin.gI [] [] hs fun w hs=>⟨_,results2 Tryz.results85 (di (vs:=[_,_,_,_]) hs rfl wi dU) rfl,H3,_,_,_,_,_,hle02.trans hle3,rfl,⟨_,_,_,rfl⟩,⟨_,_,_,rfl⟩,.fls hok hq (fun h=>by rw [hb27.2 h] at hc25;cases hc25),fun h=>by omega,hs.out⟩
   ·refine .skip ?_
    refine nB (nT ?_)
    refine .af (.y hs (zls [_,_,_,_] wi dU) ?_)
    refine .o (.aO (vs:=[_,_,_,_]) hs rfl rfl dU fun w hs=>?_)
    refine .z zg (.nil ?_)
    refine .ret ?_
    exact Fin.gI [] [] hs fun w hs=>⟨_,results2 Tryz.results85 (di (vs:=[_,_,_,_]) hs rfl wi dU) rfl,H3,_,_,_,_,_,hle02.trans hle3,rfl,⟨_,_,_,rfl⟩,⟨_,_,_,rfl⟩,.ok hok hq (hb27.1 (by simpa using hc25)),fun _=>⟨rfl,hL.mono hle3,hR.mono hle3,rfl⟩,hs.out⟩
set_option maxHeartbeats 1000000 in
theorem dc{s:Srv}{q:Wht}{vst vwa vr vc:Value}(hs:St H w σ)(h1:RI H vst s.sp.st)(h2:RI H vwa s.sp.wa)(h3:RRd H vr s.rs)(h4:RCm H vc s.cs):
  Cl Tryz.prog 26 [.agg #[I s.sp.id,I s.sp.src,vst,vwa,I s.sp.al,I s.sp.up,vr,vc],.agg #[I q.kind,I q.st,I q.wa]] w fun u w'=>∃H1 lo hi e,HLe H H1∧u= .tuple #[.agg #[I lo,I hi],I e]∧nV s q lo hi e∧St H1 w' σ:=by
 refine Cl.o Tryz.func26 Tryz.ntmps26 ag2 ?_
 refine .af ?_
 refine .bx hs fun b2 w hs=>?_
 refine .bx hs fun b3 w hs=>?_
 refine .o (.alloc hs cz rfl fun b4 w hs=>?_)
 refine .z zg (.nil (.af (.y hs (zls [_,_,_,_,_,_,_,_] aq an) (.y hs (zls [_,_,_] cj bw) ?_))))
 refine .o (.call Tryz.call85 rfl (oH (s:=s) (q:=q) hs h1 h2 h3 h4) ?_);rintro _ w ⟨H1,m,ul,vw,d,e,hle1,rfl,⟨al,ll,cl,rfl⟩,⟨aw,lw,cw,rfl⟩,hA,hA0,hs⟩
 refine .z zm (.z zex (.z zex ?_))
 refine .o (.alloc hs uM rfl fun b6 w hs=>?_)
 refine .o (.aO (vs:=[_,_,_,_]) hs rfl rfl dU fun w hs=>?_)
 refine .z zg (.nil (.seq (.af (.z zm (.z fM (.nil ?_))))))
 refine (.eD rfl (fun hc17=>?_) (fun hc17=>?_))
 ·refine .af (.z (zbd [_,_] cE) (.z zm ?_))
  refine .o (.aO (vs:=[_,_]) hs rfl rfl aJ fun w hs=>?_)
  refine .z zg (.nil ?_)
  refine .ret (rT (?_))
  exact Fin.gI [] [] hs fun w hs=>⟨_,results2 Tryz.results26 (di (vs:=[_,_]) hs rfl bX aJ) rfl,H1,_,_,_,hle1,rfl,hA.qty hc17,hs.out⟩
 ·refine .skip ?_
  refine nT ?_
  refine .af (.z (zfa mg) (.y hs (zls [_,_] a8 aC) (.z (zfa mf) (.y hs (zld ak) ?_))))
  obtain rfl:e=0:=by simpa using hc17
  obtain ⟨rfl,hL,hR,rfl⟩:=hA0 rfl
  obtain ⟨hok,hq,hsd⟩:=hA.zero
  refine .o (.call Tryz.call74 rfl (gO (s:=s.sys) hs ⟨_,rfl,hL⟩ hR) ?_);rintro _ w ⟨H2,lo,hi,f,hle2,rfl,hRg,hs⟩
  obtain rfl:=kV (hok.ask hq) hsd (fun b=>s.both) hRg
  have hbd:=hRg.bd
  have hdp:=o7 q
  refine .z zm (.z zex (.z zex (.z zex (.z zg (.z zg (.z zg (.nil (.seq (.af ?_)))))))))
  refine .z zm (.z fM (.nil ?_))
  refine (.eD rfl (fun hc30=>?_) (fun hc30=>?_))
  ·refine .af (.z (zbd [_,_] cE) (.z zm ?_))
   refine .o (.aO (vs:=[_,_]) hs rfl rfl aJ fun w hs=>?_)
   refine .z zg (.nil ?_)
   refine .ret (rT (?_))
   exact (hc30 rfl).elim
  ·refine .skip ?_
   refine nT ?_
   refine .seq (.draw mix rfl hs fun w hs=>?_)
   refine .z 0 rfl zm ?_;refine .z 1 rfl (zfa iN) ?_;refine .y 2 rfl hs ae ?_;refine .z 4 rfl zm ?_;refine .z 5 rfl (zfa iN) ?_;refine .y 6 rfl hs ae ?_
   refine .E 3 hs ?_
   refine .call Tryz.call86 rfl (iB hs aj aj) ?_;rintro _ w ⟨rfl,hs⟩
   refine .go ?_
   refine .E 7 hs ?_
   refine .call Tryz.call86 rfl (iB hs aj aj) ?_;rintro _ w ⟨rfl,hs⟩
   refine .go ?_
   refine .z 8 rfl (zbd [_,_] cE) ?_
   refine .E 9 hs ?_
   refine .aO (vs:=[_,_]) hs rfl rfl aJ ?_;intro w hs
   refine .go ?_
   refine .z 10 rfl zg ?_;refine .D hs ?_
   refine .ret ?_
   exact Fin.gI [] [] hs fun w hs=>⟨_,results2 Tryz.results26 (di (vs:=[_,_]) hs rfl bX aJ) rfl,H2,_,_,_,hle1.trans hle2,rfl,.ok hok hq hsd hRg,hs.out⟩
inductive yj(v:Srv)(out:List Int):Int→Prop
 |bad {e:Int} (h:se v e) (he:e≠0) (h1:out=[]):yj v out e
 |ok {e:Int} (h:cS v) (h1:uG v.sys out e):yj v out e
theorem oM{s:Srv}{vst vwa vr vc:Value}(hs:St H w σ)(h1:RI H vst s.sp.st)(h2:RI H vwa s.sp.wa)(h3:RRd H vr s.rs)(h4:RCm H vc s.cs):
  Cl Tryz.prog 32 [.agg #[I s.sp.id,I s.sp.src,vst,vwa,I s.sp.al,I s.sp.up,vr,vc]] w fun u w'=>∃H1 vx out e,HLe H H1∧u= .tuple #[vx,I e]∧RI H1 vx out∧yj s out e∧St H1 w' σ:=by
 refine Cl.o Tryz.func32 Tryz.ntmps32 ag1 ?_
 refine .af ?_
 refine .bx hs fun b1 w hs=>?_
 refine .z zg (.z zg (.nil (.seq (.af (.y hs (zls [_,_,_,_,_,_,_,_] aq an) ?_)))))
 refine .o (.call iG rfl (cD (s:=s) hs h1 h2 h3 h4) ?_);rintro _ w ⟨H1,e,hle1,rfl,hC,hs⟩
 refine .z zg (.nil (.af (.z zm (.z fM (.nil ?_)))))
 refine (.eD rfl (fun hc10=>?_) (fun hc10=>?_))
 ·refine .af (.z zm (.z zg (.z zg (.nil ?_))))
  refine .ret (rT (Fin.kK Tryz.results32 rfl rfl ?_))
  exact ⟨H1,_,[],_,hle1,rfl,RS.nil H1 1 none 0,.bad hC hc10 rfl,hs.out⟩
 ·refine .skip ?_
  refine nT ?_
  refine .af (.y hs (zls [_,_,_,_,_,_,_,_] aq an) ?_)
  have hok:cS s:=hC.bL.1 (by simpa using hc10)
  refine .o (.call qd rfl (dz (s:=s) hs (h1.mono hle1) (h2.mono hle1) (h3.mono hle1) (h4.mono hle1) hok.early) ?_);rintro v14 w ⟨H2,hle2,hS,hs⟩
  refine .o (.call Tryz.call98 rfl (nO (s:=s.sys) hs hS) ?_);rintro _ w ⟨H3,vx,out,f,hle3,rfl,hR,hCf,hs⟩
  refine .z zm (.z zex (.z zex (.z zg (.z zg (.nil (.af (.z zm (.z zm (.z zg ?_)))))))))
  refine .z zg (.nil ?_)
  refine .ret (Fin.kK Tryz.results32 rfl rfl ?_)
  exact ⟨H3,_,out,_,hle1.trans (hle2.trans hle3),rfl,hR,.ok hok hCf,hs.out⟩
set_option maxHeartbeats 1000000 in
theorem pW{s:Srv}{t:TD}{vst vwa vr vc:Value}(hs:St H w σ)(h1:RI H vst s.sp.st)(h2:RI H vwa s.sp.wa)(h3:RRd H vr s.rs)(h4:RCm H vc s.cs):
  Cl Tryz.prog 28 [.agg #[I s.sp.id,I s.sp.src,vst,vwa,I s.sp.al,I s.sp.up,vr,vc],.agg #[I t.tape,I t.day]] w fun u w'=>∃H1 lo hi e,HLe H H1∧u= .tuple #[.agg #[I lo,I hi],I e]∧uA s t lo hi e∧St H1 w' σ:=by
 refine Cl.o Tryz.func28 Tryz.ntmps28 ag2 ?_
 refine .af ?_
 refine .bx hs fun b2 w hs=>?_
 refine .bx hs fun b3 w hs=>?_
 refine .o (.alloc hs cz rfl fun b4 w hs=>?_)
 refine .z zg (.nil (.seq (.af (.y hs (zls [_,_,_,_,_,_,_,_] aq an) ?_))))
 refine .o (.call iG rfl (cD (s:=s) hs h1 h2 h3 h4) ?_);rintro _ w ⟨H1,e,hle1,rfl,hC,hs⟩
 refine .z zg (.nil (.af (.z zm (.z fM (.nil ?_)))))
 refine (.eD rfl (fun hc15=>?_) (fun hc15=>?_))
 ·refine .af (.z (zbd [_,_] cE) (.z zm ?_))
  refine .o (.aO (vs:=[_,_]) hs rfl rfl aJ fun w hs=>?_)
  refine .z zg (.nil ?_)
  refine .ret (rT (?_))
  exact Fin.gI [] [] hs fun w hs=>⟨_,results2 Tryz.results28 (di (vs:=[_,_]) hs rfl bX aJ) rfl,H1,_,_,_,hle1,rfl,.bad hC hc15,hs.out⟩
 ·refine .skip ?_
  refine nT ?_
  refine .seq (.draw mix rfl hs fun w hs=>?_)
  refine .ys 0 rfl hs [_,_,_,_,_,_,_,_] aq an ?_;refine .ys 2 rfl hs [_,_] df bq ?_
  refine .E 1 hs ?_
  have hok:cS s:=hC.bL.1 (by simpa using hc15)
  have hsm:=dB hok.early.1
  have hrl:=hok.early.2.1
  have hn:=kI s
  have htl:s.bg.length≤60:=by have:=cH s.rs;unfold Srv.bg;omega
  refine .call Tryz.call90 rfl (fJ (s:=s) hs (h3.mono hle1) aj) ?_;rintro v19 w ⟨H2,hle2,hT,hs⟩
  have hle02:=hle1.trans hle2
  refine .go ?_
  refine .E 3 hs ?_
  refine .call Tryz.call89 rfl (lS (t:=t) hs hT aj) ?_;rintro _ w ⟨rfl,hs⟩
  have hnn:=jK (l:=s.bg) (t:=t)
  refine .go ?_
  refine .z 4 rfl zg ?_;refine .D hs ?_
  refine .seq (.af (.z zm (.z gp (.nil ?_))))
  refine (.ck rfl (fun hc23=>?_) (fun hc23=>?_))
  ·refine .af (.z (zbd [_,_] cE) ?_)
   refine .o (.aO (vs:=[_,_]) hs rfl rfl aJ fun w hs=>?_)
   refine .z zg (.nil ?_)
   refine .ret (rT (?_))
   exact Fin.gI [] [] hs fun w hs=>⟨_,results2 Tryz.results28 (di (vs:=[_,_]) hs rfl bX aJ) rfl,H2,_,_,_,hle02,rfl,.none hok (fun h=>by have:=hnn.2 h;omega),hs.out⟩
  ·refine .skip ?_
   refine nT ?_
   refine .seq (.draw mix rfl hs fun w hs=>?_)
   refine .z 0 rfl (zfa aK) ?_;refine .ys 1 rfl hs [_,_,_,_,_,_] aM aE ?_;refine .ys 4 rfl hs [_,_,_,_,_,_,_,_] aq an ?_
   refine .E 2 hs ?_
   have hmem:t∈s.bg:=hnn.1 aj
   obtain ⟨k,k1,k2,k3⟩:=ee hmem
   have hlt:=cS.C0 hmem
   rw [k1,Int.toNat_natCast] at hlt
   rw [k1] at hc23 ⊢
   refine .call Tryz.call91 rfl (fa (s:=s.sp) hs (h1.mono hle02) (h2.mono hle02) ⟨aj,aj⟩) ?_;rintro _ w ⟨rfl,hs⟩
   refine .go ?_
   refine .z 3 rfl cC ?_
   refine .E 5 hs ?_
   refine .call Tryz.call90 rfl (fJ (s:=s) hs (h3.mono hle02) aj) ?_;rintro v30 w ⟨H3,hle3,hT2,hs⟩
   have hle03:=hle02.trans hle3
   obtain ⟨at_,ct,rfl⟩:=RTd.shape hT2
   refine .go ?_
   refine .z 6 rfl (c9 aP) ?_;refine .z 7 rfl cC ?_
   refine .E 8 hs ?_
   refine .sz s.sys.n hs (by show some (I _)=some (I _);congr 2;rw [hn];show _=((s.sp.many+s.bg.length+1:Nat):Int);omega) (by show some (I _)=some (I _);congr 2;rw [hn];show _=((s.sp.many+s.bg.length+1:Nat):Int);omega) ad ff rfl ai bM aj ?_;intro b33 w hs
   refine .go ?_
   refine .z 9 rfl zg ?_;refine .D hs ?_
   refine .af (.z zm (.z (zfa aK) (.y hs (zls [_,_,_,_,_,_] aM aE) ?_)))
   refine .o (.call Tryz.call91 rfl (fa (s:=s.sp) hs (h1.mono hle03) (h2.mono hle03) ⟨aj,aj⟩) ?_);rintro _ w ⟨rfl,hs⟩
   refine .z cC (.z zm (.z cC ?_))
   refine .q hs (iI (k:=s.sp.many+1+k) rfl rfl ad ai aj aj) ?_
   refine .o (.store (c':=Is (mG s.sys.n (s.sp.many+1+k) 1)) hs rfl rfl ai ?_ dw (by simp [Is];omega) (qp _ _ _));intro w hs
   refine .nil (.af (.y hs (zls [_,_,_,_,_,_,_,_] aq an) ?_))
   obtain ⟨H4,hle4,hW,hs⟩:=bS.cV (xs:=mG s.sys.n (s.sp.many+1+k) 1) (v:= .slice (some ⟨b33,0,none⟩) s.sys.n s.sys.n) (.full (by simp [Is,fi])) (by rw [fi];omega) hs dw
   have hle04:=hle03.trans hle4
   refine .o (.call qd rfl (dz (s:=s) hs (h1.mono hle04) (h2.mono hle04) (h3.mono hle04) (h4.mono hle04) hok.early) ?_);rintro v44 w ⟨H5,hle5,hS,hs⟩
   refine .z zm ?_
   refine .o (.call Tryz.call74 rfl (gO (s:=s.sys) hs hS (hW.mono hle5)) ?_);rintro _ w ⟨H6,lo,hi,f,hle6,rfl,hRg,hs⟩
   have hbd:=hRg.bd
   have hleF:=hle04.trans (hle5.trans hle6)
   have hA:=hok.Bf hlt (x:=1) aj
   refine .z zm (.z zex (.z zex (.z zex (.z zg (.z zg (.z zg (.nil (.seq (.af ?_)))))))))
   refine .z zm (.z fM (.nil ?_))
   refine (.eD rfl (fun hc51=>?_) (fun hc51=>?_))
   ·refine .af (.z (zbd [_,_] cE) ?_)
    refine .o (.aO (vs:=[_,_]) hs rfl rfl aJ fun w hs=>?_)
    refine .z zg (.nil ?_)
    refine .ret (rT (?_))
    have hns:¬s.sys.Sound:=fun h=>hc51 (kV hA h (fun b=>s.both) hRg)
    exact Fin.gI [] [] hs fun w hs=>⟨_,results2 Tryz.results28 (di (vs:=[_,_]) hs rfl bX aJ) rfl,H6,_,_,_,hleF,rfl,.fls hok hmem hns,hs.out⟩
   ·refine .skip ?_
    refine nT ?_
    refine .af (.z zm (.z zj (.z zm (.z zj (.z (zbd [_,_] cE) ?_)))))
    refine .o (.aO (vs:=[_,_]) hs rfl rfl aJ fun w hs=>?_)
    refine .z zg (.nil ?_)
    refine .ret ?_
    obtain rfl:f=0:=by simpa using hc51
    have hsd:s.sys.Sound:=Classical.byContradiction fun h=>by have:=w9 hA h hRg;omega
    exact Fin.gI [] [] hs fun w hs=>⟨_,results2 Tryz.results28 (di (vs:=[_,_]) hs rfl bX aJ) rfl,H6,_,_,_,hleF,rfl,.ok hok hmem hsd (by rw [k1,Int.toNat_natCast];exact hRg),hs.out⟩
theorem lT{v:Value}{rs:List (List Int)}{g:Nat}{cap:List Value}(q:List Int→Prop)(hs:St H w σ)(hR:RT H v rs)(hl:rs.length≤9223372036854775807)(hc:∀args w,(callFunc g args).run Tryz.prog w= .ok (.enter g args) w)
  (hp:∀H' w σ r u,HLe H H'→RI H' u r→St H' w σ→Cl Tryz.prog g ([u]++cap) w fun z w'=>∃H1 b,HLe H' H1∧z= .bool b∧(b=true↔q r)∧St H1 w' σ):
  Cl Tryz.prog 236 [v,.func (.func g) #[] cap.toArray] w fun u w'=>∃H1 i,HLe H H1∧u=I i∧(0≤i↔∃x∈rs,q x)∧St H1 w' σ:=by
 obtain ⟨a,c,rfl⟩:=hR.shape
 refine Cl.o Tryz.func236 Tryz.ntmps236 ag2 ?_
 refine .af (.z zg (.nil (.seq (.af (.z zm (.z (c9 aA) (.z zm (.nil ?_))))))))
 refine .for (N:=rs.length) (J:=fun k fr w=>fr=[(1,.func (.func g) #[] cap.toArray),(0,.slice a rs.length c)]∧∃H1,HLe H H1∧(∀j<k,∀y,rs[j]? =some y→¬q y)∧St H1 w σ) aj ?_ ?_ ?_
 ·exact .mk ⟨rfl,H,HLe.refl H,fun j hj=>by omega,hs⟩
 ·rintro k fr w hk ⟨rfl,H1,hle1,hno,hs⟩
  have hx:=qk (rs:=rs) hk
  refine .block (.af (.z zm (.z zg (.nil (.af (.z zm (.z zm (.z zm ?_))))))))
  refine .ixT hs (hR.mono hle1) rfl rfl aA aB (show k<_ by omega) dx ?_;intro b14 o14 a14 c14 hc14 hR14
  refine .q hs (bh rfl ak hc14) ?_
  refine .o (.kT (first:=[]) (cap:=cap) rfl rfl hc (hp _ _ _ (gr rs k) _ hle1 hR14 hs) ?_);rintro _ w ⟨H2,b16,hle2,rfl,hb16,hs⟩
  refine .nil ?_
  refine (.cond rfl (fun hc16=>?_) (fun hc16=>?_))
  ·refine .af (.z zm (.z zg (.nil ?_)))
   refine .ret (rB (rT (rB (rT (Fin.bI Tryz.results236 rfl ?_)))))
   exact ⟨H2,_,hle1.trans hle2,rfl,⟨fun _=>⟨_,List.mem_of_getElem? hx,hb16.1 hc16⟩,fun _=>by omega⟩,hs⟩
  ·refine .skip ?_
   refine nB (nT ?_)
   exact .mk ⟨rfl,H2,hle1.trans hle2,ed hno hx (fun h=>by rw [hb16.2 h] at hc16;cases hc16),hs⟩
 ·rintro fr w ⟨rfl,H1,hle1,hno,hs⟩
  refine nT ?_
  refine .af (.z zg (.nil ?_))
  refine .ret (Fin.bI Tryz.results236 rfl ?_)
  exact ⟨H1,_,hle1,rfl,⟨fun h=>by omega,fun ⟨x,h1,h2⟩=>by
   obtain ⟨j,hj⟩:=List.getElem?_of_mem h1
   exact (hno j (List.getElem?_eq_some_iff.1 hj).1 x hj h2).elim⟩,hs⟩
theorem kn{v:Value}{rs:List (List Int)}{g:Nat}{cap:List Value}(q:List Int→Prop)(hs:St H w σ)(hR:RT H v rs)(hl:rs.length≤9223372036854775807)(hc:∀args w,(callFunc g args).run Tryz.prog w= .ok (.enter g args) w)
  (hp:∀H' w σ r u,HLe H H'→RI H' u r→St H' w σ→Cl Tryz.prog g ([u]++cap) w fun z w'=>∃H1 b,HLe H' H1∧z= .bool b∧(b=true↔q r)∧St H1 w' σ):
  Cl Tryz.prog 186 [v,.func (.func g) #[] cap.toArray] w fun u w'=>∃H1 b,HLe H H1∧u= .bool b∧(b=true↔∃x∈rs,q x)∧St H1 w' σ:=by
 refine Cl.o Tryz.func186 Tryz.ntmps186 ag2 ?_
 refine .af (.z zg (.nil (.af (.z zm (.z zm ?_)))))
 refine .o (.call Tryz.call236 rfl (lT q hs hR hl hc hp) ?_);rintro _ w ⟨H1,i,hle1,rfl,hi,hs⟩
 refine .z zk (.z zg (.nil ?_))
 refine .ret (Fin.bI Tryz.results186 rfl ?_)
 exact ⟨H1,_,hle1,rfl,by simp only [decide_eq_true_eq];exact hi,hs⟩
theorem rW{n:Int}(hs:St H w σ):
  Cl Tryz.prog 188 [I n] w fun u w'=>u= .bool (!decide (0≤n∧n≤20000))∧St H w' σ:=by
 refine Cl.o Tryz.func188 Tryz.ntmps188 ag1 ?_
 refine .af (.z zg (.nil (.af (.z zm ?_))))
 refine .o (.call cQ rfl (bp hs) ?_);rintro _ w ⟨rfl,hs⟩
 refine .z iq (.z zg (.nil ?_))
 refine .ret (Fin.bI Tryz.results188 rfl ?_)
 exact ⟨rfl,hs⟩
theorem tS{s:Spc}{v vst vwa:Value}{r:List Int}{b:Nat}(hs:St H w σ)(hb:Row H b [I s.id,I s.src,vst,vwa,I s.al,I s.up])(h2:RI H vwa s.wa)(hr:RI H v r):
  Cl Tryz.prog 187 [v,.pointer (some ⟨b,0,none⟩)] w fun u w'=>∃H1 bb,HLe H H1∧u= .bool bb∧(bb=true↔¬(r.length=s.wa.length∧∀x∈r,0≤x∧x≤20000))∧St H1 w' σ:=by
 obtain ⟨a,c,rfl⟩:=RI.shape hr
 obtain ⟨awa,cwa,rfl⟩:=RI.shape h2
 have hb3:=hb.at 3
 refine Cl.o Tryz.func187 Tryz.ntmps187 ag2 ?_
 refine .af (.z zg (.nil (.af (.z zm (.z (c9 ad) (.z (zfa bn) (.y hs (zld ak) (.z (c9 ad) (.z fM ?_)))))))))
 refine .z zm ?_
 refine .yU (t':=10) rfl (fun hb10=>?_) (fun hb10=>?_)
 ·refine .gFs 2 6 false rfl rfl rfl ?_
  refine .z zpT (.z zg (.nil ?_))
  refine .ret (Fin.bI Tryz.results187 rfl ?_)
  exact ⟨H,true,HLe.refl H,rfl,⟨fun _ h=>by have:=h.1;simp_all,fun _=>rfl⟩,hs⟩
 ·refine .gT rfl rfl ?_
  refine .z zm ?_
  refine .gT rfl rfl ?_
  refine .o (.call Tryz.call134 rfl (j7 (g:=188) (cap:=[]) (fun n=>¬(0≤n∧n≤20000)) hs hr Tryz.call188 (fun H' w σ n _ _ hs=>(rW hs).mono fun u w' ⟨g1,g2⟩=>⟨H',_,HLe.refl _,g1,by simp;omega,g2⟩)) ?_);rintro _ w ⟨H1,b12,hle1,rfl,hb12,hs⟩
  refine .z zpF (.z zg (.nil ?_))
  refine .ret (Fin.bI Tryz.results187 rfl ?_)
  have hlen:r.length=s.wa.length:=by simp_all;omega
  exact ⟨H1,_,hle1,rfl,by
   rw [hb12]
   constructor
   ·rintro ⟨x,h1,h2⟩ h;exact h2 (h.2 x h1)
   ·intro h
    refine Classical.byContradiction fun hn=>h ⟨hlen,fun x hx=>Classical.byContradiction fun hx'=>hn ⟨x,hx,hx'⟩⟩,hs⟩
theorem B2{s:Spc}{rows:List (List Int)}:jE s rows↔rows.length=s.st.length∧∀r∈rows,r.length=s.wa.length∧∀x∈r,0≤x∧x≤20000:=by
 constructor
 ·rintro ⟨h1,h2,h3⟩
  refine ⟨h1,fun r hr=>?_⟩
  obtain ⟨i,hi⟩:=List.getElem?_of_mem hr
  have hil:=(List.getElem?_eq_some_iff.1 hi).1
  have hg:=qk hil
  rw [hi] at hg
  obtain rfl:=Option.some.inj hg
  have hl:=h2 i aj
  refine ⟨hl,fun x hx=>?_⟩
  obtain ⟨k,hk⟩:=List.getElem?_of_mem hx
  have hkl:=(List.getElem?_eq_some_iff.1 hk).1
  have hgk:=bJ hkl
  rw [hk] at hgk
  obtain rfl:=Option.some.inj hgk
  exact h3 i aj k aj
 ·rintro ⟨h1,h2⟩
  have hm:∀i<s.st.length,gr rows i∈rows:=fun i hi=>List.mem_of_getElem? (qk aj)
  refine ⟨h1,fun i hi=>(h2 _ (hm i hi)).1,fun i hi k hk=>?_⟩
  have hl:=(h2 _ (hm i hi)).1
  exact (h2 _ (hm i hi)).2 _ (List.mem_of_getElem? (bJ aj))
theorem jy{s:Spc}{vst vwa vh:Value}{rows:List (List Int)}(hs:St H w σ)(h1:RI H vst s.st)(h2:RI H vwa s.wa)(hr:RT H vh rows):
  Cl Tryz.prog 101 [.agg #[I s.id,I s.src,vst,vwa,I s.al,I s.up],.agg #[vh]] w fun u w'=>∃H1 b,HLe H H1∧u= .bool b∧(b=true↔jE s rows)∧St H1 w' σ:=by
 obtain ⟨ast,cst,rfl⟩:=RI.shape h1
 obtain ⟨awa,cwa,rfl⟩:=RI.shape h2
 obtain ⟨ah,ch,rfl⟩:=hr.shape
 have hrl:=(hr.len).2.2
 refine Cl.o Tryz.func101 Tryz.ntmps101 ag2 ?_
 refine .af ?_
 refine .bx hs fun b2 w hs=>?_
 refine .bx hs fun b3 w hs=>?_
 refine .z zg (.nil (.af (.z (zfa gh) (.y hs (zld m6) (.z (c9 aA) (.z (zfa bu) (.y hs (zld ak) (.z (c9 ad) (.z ir ?_)))))))))
 refine .z zm ?_
 refine .kf (t':=12) rfl (fun hb12=>?_) (fun hb12=>?_)
 ·refine .gT rfl rfl ?_
  refine .z (zfa gh) ?_
  refine .gT rfl rfl ?_
  refine .y hs (zld m6) ?_
  refine .gT rfl rfl ?_
  refine .q hs (cU (f:=[]) (c:=[_]) rfl rfl) ?_
  refine .gT rfl rfl ?_
  obtain ⟨H0,hle0,hb2,hs⟩:=hs.cf (b:=b2) dw
  refine .o (.call Tryz.call186 rfl (kn (g:=187) (cap:=[.pointer (some ⟨b2,0,none⟩)]) (fun r=>¬(r.length=s.wa.length∧∀x∈r,0≤x∧x≤20000)) hs (hr.mono hle0) hrl Tryz.call187 (fun H' w σ r u hle hu hs=>tS (s:=s) hs (hb2.mono hle) (h2.mono (hle0.trans hle)) hu)) ?_);rintro _ w ⟨H1,b16,hle1,rfl,hb16,hs⟩
  refine .gT rfl rfl ?_
  refine .z iq (.z zpT (.z zg (.nil ?_)))
  refine .ret (Fin.bI Tryz.results101 rfl ?_)
  exact ⟨H1,_,hle0.trans hle1,rfl,by
   rw [B2]
   have hlen:rows.length=s.st.length:=by omega
   cases hbb:b16 with
   |true=>
    obtain ⟨x,hx,hn⟩:=hb16.1 hbb
    exact ⟨fun h=>(by cases h),fun h=>(hn (h.2 x hx)).elim⟩
   |false=>exact ⟨fun _=>⟨hlen,fun r hr=>Classical.byContradiction fun hn=>by rw [hb16.2 ⟨r,hr,hn⟩] at hbb;cases hbb⟩,fun _=>rfl⟩,hs.out⟩
 ·refine .gFs 5 7 true rfl rfl rfl ?_
  refine .z zpF (.z zg (.nil ?_))
  refine .ret (Fin.bI Tryz.results101 rfl ?_)
  exact ⟨H,_,HLe.refl H,rfl,⟨fun h=>(by cases h),fun h=>by have:=h.len;omega⟩,hs.out⟩
set_option maxHeartbeats 1000000 in
theorem oJ{s:Spc}{q:Wht}{vst vwa vh:Value}{rows:List (List Int)}(hs:St H w σ)(h1:RI H vst s.st)(h2:RI H vwa s.wa)(hr:RT H vh rows):
  Cl Tryz.prog 37 [.agg #[I s.id,I s.src,vst,vwa,I s.al,I s.up],.agg #[vh],.agg #[I q.kind,I q.st,I q.wa]] w fun u w'=>∃H1 n e,HLe H H1∧u= .tuple #[I n,I e]∧uB s rows q n e∧St H1 w' σ:=by
 obtain ⟨ah,ch,rfl⟩:=hr.shape
 refine Cl.o Tryz.func37 Tryz.ntmps37 ag3 ?_
 refine .af ?_
 refine .bx hs fun b3 w hs=>?_
 refine .bx hs fun b4 w hs=>?_
 refine .bx hs fun b5 w hs=>?_
 refine .z zg (.z zg (.nil (.seq (.af (.y hs (zls [_,_,_,_,_,_] aM aE) ?_)))))
 refine .o (.call Tryz.call41 rfl (eg (s:=s) hs h1 h2) ?_);rintro _ w ⟨H1,e,hle1,rfl,he,hs⟩
 refine .z zg (.nil (.af (.z zm (.z fM (.nil ?_)))))
 refine (.eD rfl (fun hc17=>?_) (fun hc17=>?_))
 ·refine .af (.z zm (.z zg (.z zg (.nil ?_))))
  refine .ret (rT (?_))
  have hq:¬ez s∧e=30:=he.resolve_left fun h=>hc17 h.2
  exact Fin.gI [] [] hs fun w hs=>⟨_,results2 Tryz.results37 rfl rfl,H1,_,_,hle1,rfl,by rw [hq.2];exact .space hq.1,hs.out⟩
 ·refine .skip ?_
  refine nT ?_
  refine .seq (.af (.y hs (zls [_,_,_,_,_,_] aM aE) (.y hs (zls [_] Tryz.isAgg63 D1) ?_)))
  have hok:ez s:=(he.resolve_right fun h=>by omega).1
  have hsm:=dB hok
  refine .o (.call Tryz.call101 rfl (jy (s:=s) hs (h1.mono hle1) (h2.mono hle1) (hr.mono hle1)) ?_);rintro _ w ⟨H2,b21,hle2,rfl,hb21,hs⟩
  have hle02:=hle1.trans hle2
  refine .z iq (.nil ?_)
  refine (.cond rfl (fun hc22=>?_) (fun hc22=>?_))
  ·refine .af (.z zg (.z zg (.nil ?_)))
   refine .ret (rT (?_))
   exact Fin.gI [] [] hs fun w hs=>⟨_,results2 Tryz.results37 rfl rfl,H2,_,_,hle02,rfl,.hull hok (fun h=>by rw [hb21.2 h] at hc22;cases hc22),hs.out⟩
  ·refine .skip ?_
   refine nT ?_
   refine .af (.y hs (zls [_,_,_,_,_,_] aM aE) (.y hs (zls [_,_,_] cj bw) ?_))
   have hh:jE s rows:=hb21.1 (by simpa using hc22)
   refine .o (.call Tryz.call102 rfl (gw (s:=s) (q:=q) hs (h1.mono hle02) (h2.mono hle02) hok) ?_);rintro _ w ⟨H3,vl,L,d,b,en,hle3,rfl,hO,hcase,hs⟩
   have hle03:=hle02.trans hle3
   obtain ⟨al,cl,rfl⟩:=hO.kq
   refine .z zm (.z zex (.z zex (.z zex ?_)))
   refine .o (.alloc hs dA rfl fun b9 w hs=>?_)
   refine .o (.store hs rfl rfl aB fun w hs=>?_)
   refine .z zg (.z zg (.nil (.seq (.af (.z zm (.z iq (.nil ?_)))))))
   refine (.cond rfl (fun hc31=>?_) (fun hc31=>?_))
   ·refine .af (.z zg (.z zg (.nil ?_)))
    refine .ret (rT (?_))
    have hq:¬eX s q:=by
     rcases hcase with ⟨g,_⟩|⟨_,g,_⟩
     ·subst g;cases hc31
     ·exact g
    exact Fin.gI [] [] hs fun w hs=>⟨_,results2 Tryz.results37 rfl rfl,H3,_,_,hle03,rfl,.what hok hh hq,hs.out⟩
   ·refine .skip ?_
    refine nT ?_
    refine .af ?_
    refine .o (.alloc hs bM rfl fun b12 w hs=>?_)
    refine .o (.store hs rfl rfl ai fun w hs=>?_)
    refine .nil (.seq (.af (.y hs (zls [_,_,_,_,_,_] aM aE) ?_)))
    obtain ⟨rfl,hq,rfl,rfl⟩:b=true∧eX s q∧L=jk s q∧d=o8 q:=hcase.resolve_right fun h=>by rw [h.1] at hc31;cases hc31
    have hwl:=fo s q
    obtain ⟨H4,hle4,hW,hs⟩:=bS.cV hO aj hs dw
    have hle04:=hle03.trans hle4
    refine .o (.call zb rfl (eG (s:=s) hs (h1.mono hle04) (h2.mono hle04) ⟨aj,aj⟩) ?_);rintro _ w ⟨H5,ba,hle5,rfl,hit,hs⟩
    have hle05:=hle04.trans hle5
    replace hW:=hW.mono hle5
    have hr5:=hr.mono hle05
    refine .nil (.block ?_)
    refine .rangeFunc (gf:=190) (cap:=[.pointer (some ⟨ba,0,none⟩)]) (xs:=tp s) (σb:=[.blk b12 [I (gz s q rows 0)],.blk b9 [.slice al (jk s q).length cl],.blk b4 [.slice ah rows.length ch]]) (σf:=σ) (hs.sb) trivial rfl hit za (fun x hx=>by
      simp only [tp,List.mem_map] at hx
      obtain ⟨j,_,rfl⟩:=hx;rfl) rfl
     (I:=fun p H' σb=>σb=[.blk b12 [I (gz s q rows p)],.blk b9 [.slice al (jk s q).length cl],.blk b4 [.slice ah rows.length ch]]) (Ix:=fun _ _ _=>False)
     (fun j _ _ σ g1 g2=>g2) (fun _ _ _ _ _ h=>h) rfl ?_ ?_ (fun D c H' σb w _ h _=>h.elim)
    ·rintro ly p hp H6 σb2 σf2 w hle6 rfl hs ⟨rr,hrr⟩
     have hpm:p<s.many:=by rw [dI] at hp;exact hp
     have hin:p/s.wa.length<s.st.length:=Nat.div_lt_of_lt_mul (by rw [Nat.mul_comm];exact hpm)
     have hkm:=Nat.mod_lt p hsm.2.2.1
     have hsucc:gz s q rows (p+1)=gz s q rows p+gi (jk s q) (p+1)*gt rows (p/s.wa.length) (p%s.wa.length):=rfl
     have hb0:=mD hok hq hh p aj
     have hb1:=mD hok hq hh (p+1) aj
     have hwz:=mw hok hq
     have hwz2:=jO (jk s q) (v:=p+1) (n:=s.many+1) aj
     have hnum:=hh.num _ hin _ hkm
     have hrow:=hh.row _ hin
     have hrlen:=hh.len
     have hprd:=l7 (a:=gi (jk s q) (p+1)) (b:=gt rows (p/s.wa.length) (p%s.wa.length)) (A:=3456000000000) (B:=20000) aj aj
     have hgt:gt rows (p/s.wa.length) (p%s.wa.length)=gi (gr rows (p/s.wa.length)) (p%s.wa.length):=rfl
     rw [kY hp]
     generalize p/s.wa.length=i at*
     generalize p%s.wa.length=k at*
     rw [hgt] at hsucc hprd hnum
     refine .region ?_
     refine .o (.alloc hs jn rfl fun b13 w hs=>?_)
     refine .o (.aO (vs:=[_,_,_]) hs rfl rfl mX fun w hs=>?_)
     refine .nil ?_
     refine nT ?_
     refine ⟨H6,[.blk b13 [I (i:Int),I (k:Int),I ((p+1:Nat):Int)],.blk b12 [I (gz s q rows p)],.blk b9 [.slice al (jk s q).length cl],.blk b4 [.slice ah rows.length ch]],HLe.refl _,hs,?_⟩;rintro w σf4 - hs
     refine .block ?_
     refine .draw mix rfl hs fun w hs=>?_
     refine .y 0 rfl hs ae ?_;refine .y 1 rfl hs ak ?_;refine .z 2 rfl (zfa dN) ?_;refine .y 3 rfl hs ae ?_
     refine .ixX (enc:=fun x=>[I x]) (i:=4) hs rfl au .none (hW.mono hle6) rfl rfl ad ai (bJ (l:=(jk s q)) (i:=(p+1)) aj) dx ?_;intro b39 o39 hc39;replace hc39:=bQ.one hc39
     refine .r (i:=5) hs rfl au .none (bh rfl ae hc39) ?_
     refine .z 6 rfl (zfa gh) ?_;refine .y 7 rfl hs m6 ?_;refine .z 8 rfl (zfa cZ) ?_;refine .y 9 rfl hs ae ?_
     refine .ixT (i:=10) hs rfl au .none (hr5.mono hle6) rfl rfl aA aB (show i<_ by omega) dx ?_;intro b45 o45 a45 c45 hc45 hR45
     refine .r (i:=11) hs rfl au .none (bh rfl ak hc45) ?_
     refine .z 12 rfl (zfa cI) ?_;refine .y 13 rfl hs ae ?_
     refine .ixX (enc:=fun x=>[I x]) (i:=14) hs rfl au .none hR45 rfl rfl ad ai (bJ (l:=(gr rows i)) (i:=k) aj) dx ?_;intro b49 o49 hc49;replace hc49:=bQ.one hc49
     refine .r (i:=15) hs rfl au .none (bh rfl ae hc49) ?_
     refine .z 16 rfl kG ?_;refine .z 17 rfl cC ?_
     refine .E 18 hs ?_
     refine .store hs rfl rfl ai ?_;intro w hs
     refine .go ?_
     refine .D hs ?_
     refine nB ?_
     exact ⟨H6,[.blk b12 [I (gz s q rows (p+1))],.blk b9 [.slice al (jk s q).length cl],.blk b4 [.slice ah rows.length ch]],HLe.refl _,by rw [hsucc];exact (hs.sb:St H6 w (.blk b12 _:: .blk b9 _:: .blk b4 _::σf4)),rfl⟩
    ·rintro D H6 σb2 w hle6 rfl hs
     rw [dI] at hs
     replace hs:St H6 w (.obj D (.deferred (some [])):: .blk b12 [I (gz s q rows s.many)]:: .blk b9 [.slice al (jk s q).length cl]:: .blk b4 [.slice ah rows.length ch]::σ):=hs
     have hbd:=mD hok hq hh s.many aj
     have hdp:=o7 q
     refine nB (nT ?_)
     refine .af (.y hs (zld ae) (.z zm ?_))
     refine .o (.call Tryz.call86 rfl (iB hs aj aj) ?_);rintro _ w ⟨rfl,hs⟩
     refine .z zg (.z zg (.nil ?_))
     refine .ret ?_
     exact Fin.gI [D] [] hs fun w hs=>⟨_,results2 Tryz.results37 rfl rfl,H6,_,_,hle05.trans hle6,rfl,.ok hok hh hq,hs.out⟩
set_option maxHeartbeats 4000000 in
theorem kz{s:Srv}{r:Rdg}{vst vwa vr vc:Value}{z:Int}(hs:St H w σ)(h1:RI H vst s.sp.st)(h2:RI H vwa s.sp.wa)(h3:RRd H vr s.rs)(h4:RCm H vc s.cs)(hr0:r.val=0):
  Cl Tryz.prog 46 [.agg #[I s.sp.id,I s.sp.src,vst,vwa,I s.sp.al,I s.sp.up,vr,vc],.agg #[I r.src,I r.st,I r.wa,I z,I r.tol,I r.tape,I r.day]] w fun u w'=>∃H1 lo hi e,HLe H H1∧u= .tuple #[.agg #[I lo,I hi],I e]∧qc s r lo hi e∧St H1 w' σ:=by
 obtain ⟨ast,cst,rfl⟩:=RI.shape h1
 obtain ⟨awa,cwa,rfl⟩:=RI.shape h2
 obtain ⟨ar,cr,rfl⟩:=RRd.shape h3
 obtain ⟨ac,cc,rfl⟩:=RCm.shape h4
 refine Cl.o Tryz.func46 Tryz.ntmps46 ag2 ?_
 refine .af ?_
 refine .bx hs fun b2 w hs=>?_
 refine .bx hs fun b3 w hs=>?_
 refine .o (.alloc hs cz rfl fun b4 w hs=>?_)
 refine .z zg (.nil (.seq (.af (.y hs (zls [_,_,_,_,_,_,_,_] aq an) ?_))))
 refine .o (.call iG rfl (cD (s:=s) hs h1 h2 h3 h4) ?_);rintro _ w ⟨H1,e,hle1,rfl,hC,hs⟩
 refine .z zg (.nil (.af (.z zm (.z fM (.nil ?_)))))
 refine (.eD rfl (fun hc19=>?_) (fun hc19=>?_))
 ·refine .af (.z (zbd [_,_] cE) (.z zm ?_))
  refine .o (.aO (vs:=[_,_]) hs rfl rfl aJ fun w hs=>?_)
  refine .z zg (.nil ?_)
  refine .ret (rT (?_))
  exact Fin.gI [] [] hs fun w hs=>⟨_,results2 mY (di (vs:=[_,_]) hs rfl bX aJ) rfl,H1,_,_,_,hle1,rfl,.bad hC hc19,hs.out⟩
 ·refine .skip ?_
  refine nT ?_
  refine .af (.z (zfa dv) ?_)
  refine .o (.store hs rfl rfl ai fun w hs=>?_)
  refine .nil (.seq (.af (.z (zfa aK) (.y hs (zls [_,_,_,_,_,_] aM aE) (.y hs (zls [_,_,_,_,_,_,_] cg aD) ?_)))))
  have hok:cS s:=hC.bL.1 (by simpa using hc19)
  have hsm:=dB hok.early.1
  have hrl:=hok.early.2.1
  have hcl:=hok.early.2.2.1
  have hmm:=hok.many
  have hll:=hok.bV
  have hn:=kI s
  have htl:s.bg.length≤60:=by have:=cH s.rs;unfold Srv.bg;omega
  change St _ _ (.blk b4 _:: .blk b3 [I r.src,I r.st,I r.wa,I 0,I r.tol,I r.tape,I r.day]::_) at hs
  refine .o (.call Tryz.call107 rfl (fF (s:=s.sp) (r:=⟨r.src,r.st,r.wa,0,r.tol,r.tape,r.day⟩) hs (h1.mono hle1) (h2.mono hle1)) ?_);rintro _ w ⟨b26,rfl,hb26,hs⟩
  rw [show (⟨r.src,r.st,r.wa,0,r.tol,r.tape,r.day⟩:Rdg)=r by rw [←hr0]] at hb26
  refine .z iq (.nil ?_)
  refine (.cond rfl (fun hc27=>?_) (fun hc27=>?_))
  ·refine .af (.z (zbd [_,_] cE) ?_)
   refine .o (.aO (vs:=[_,_]) hs rfl rfl aJ fun w hs=>?_)
   refine .z zg (.nil ?_)
   refine .ret (rT (?_))
   exact Fin.gI [] [] hs fun w hs=>⟨_,results2 mY (di (vs:=[_,_]) hs rfl bX aJ) rfl,H1,_,_,_,hle1,rfl,.rdg hok (fun h=>by rw [hb26.2 h] at hc27;cases hc27),hs.out⟩
  ·refine .skip ?_
   refine nT ?_
   refine .af (.y hs (zls [_,_,_,_,_,_,_,_] aq an) ?_)
   have hr:fN s.sp r:=hb26.1 (by simpa using hc27)
   obtain ⟨g1,g2,g3,g4,g5,g6,g7⟩:=id hr
   refine .o (.call qd rfl (jR (s:=s) hs (h1.mono hle1) (h2.mono hle1) (h3.mono hle1) (h4.mono hle1) hok.early) ?_);rintro _ w ⟨H2,vl,enL,hle2,rfl,hOL,hs⟩
   have hle02:=hle1.trans hle2
   obtain ⟨al,ll,cl,rfl,hlL⟩:=hOL.shape
   rw [dj] at hlL
   refine .o (.alloc hs cu rfl fun b7 w hs=>?_)
   refine .o (.aO (vs:=[_,_]) hs rfl rfl aC fun w hs=>?_)
   refine .nil (.af (.y hs (zls [_,_,_,_,_,_,_,_] aq an) ?_))
   refine .o (.call Tryz.call90 rfl (kv (s:=s) hs (h3.mono hle02) aj) ?_);rintro v32 w ⟨H3,enT,hle3,hOT,hs⟩
   have hle03:=hle02.trans hle3
   obtain ⟨at_,ct,rfl⟩:=hOT.fj (j5 _) aj
   rw [da] at hOT ⊢
   refine .z zg (.nil (.af (.z zm (.y hs (zls [_,_,_,_,_,_,_] cg aD) ?_))))
   refine .o (.call FD rfl (ep (r:=⟨r.src,r.st,r.wa,0,r.tol,r.tape,r.day⟩) hs) ?_);rintro _ w ⟨rfl,hs⟩
   refine .o (.call Tryz.call89 rfl (oz (t:=r.td) hs hOT aj) ?_);rintro _ w ⟨rfl,hs⟩
   have hnn:=jK (l:=s.bg) (t:=r.td)
   have hcap2:s.sys.many=((s.sp.many+s.bg.length:Nat):Int):=rfl
   refine .z zg (.nil ?_)
   refine .cut (fun fs w=>∃H4 al ll cl enL,mE fs ⟨134,[],[(9,I (s.tJ r.td:Int)),(7,.pointer (some ⟨b7,0,none⟩)),(4,.pointer (some ⟨b4,0,none⟩)),(3,.pointer (some ⟨b3,0,none⟩)),(2,.pointer (some ⟨b2,0,none⟩))]⟩∧HLe H3 H4∧bS 4 (.slice al ll cl) (fy (s.iz r.td).bV) enL∧St H4 w (.blk b7 [I (s.iz r.td).many,.slice al ll cl]::enL:: .blk b4 [I 0,I 0]:: .blk b3 [I r.src,I r.st,I r.wa,I 0,I r.tol,I r.tape,I r.day]:: .blk b2 [I s.sp.id,I s.sp.src,.slice ast s.sp.st.length cst,.slice awa s.sp.wa.length cwa,I s.sp.al,I s.sp.up,.slice ar s.rs.length cr,.slice ac s.cs.length cc]::σ)) ?_ ?_
   ·refine .af (.z zm (.z gp (.nil ?_)))
    refine (.ck rfl (fun hc38=>?_) (fun hc38=>?_))
    ·refine .af (.z zm (.z (c9 aP) (.z zg (.nil ?_))))
     refine .seq (.draw mix rfl hs fun w hs=>?_)
     refine .ys 0 rfl hs [_,_,_,_,_,_,_,_] aq an ?_;refine .z 1 rfl zm ?_;refine .ys 2 rfl hs [_,_,_,_,_,_,_] cg aD ?_
     refine .E 3 hs ?_
     refine .call FD rfl (ep (r:=⟨r.src,r.st,r.wa,0,r.tol,r.tape,r.day⟩) hs) ?_;rintro _ w ⟨rfl,hs⟩
     refine .go ?_
     refine .E 4 hs ?_
     refine .buildSlice (cells:=[_,_]) hs eY rfl rfl ?_;intro b45 w hs
     refine .go ?_
     refine .E 5 hs ?_
     refine .append (ys:=r.td.c) hs dm rfl rfl hOT (.own .here rfl rfl) (by simp [TD.c,Value.oneCell']) (fun l h=>by rw [bE _ (j5 _),da] at h;omega) ?_;intro v46 en46 w hO46 hs
     rw [←qQ] at hO46
     obtain ⟨H4,hle4,hT4,hs⟩:=bS.cf (m:=2) (cs:=tdc (s.bg++[r.td])) hO46 (j5 _) aj (by rw [da];simp;omega) hs dw
     replace hT4:RTd H4 v46 (s.bg++[r.td]):=hT4
     obtain ⟨a46,c46,rfl⟩:=RTd.shape hT4
     have hle04:=hle03.trans hle4
     have hk4:MkK H4 s (s.bg++[r.td]) (.slice ast s.sp.st.length cst) (.slice awa s.sp.wa.length cwa) (.slice ar s.rs.length cr) (.slice ac s.cs.length cc) (.slice a46 (s.bg++[r.td]).length c46):=⟨h1.mono hle04,h2.mono hle04,h3.mono hle04,h4.mono hle04,hT4⟩
     refine .go ?_
     refine .z 6 rfl (zbd (vs:=[(0,.agg #[I s.sp.id,I s.sp.src,.slice ast s.sp.st.length cst,.slice awa s.sp.wa.length cwa,I s.sp.al,I s.sp.up,.slice ar s.rs.length cr,.slice ac s.cs.length cc]),(1,.slice a46 (s.bg++[r.td]).length c46)]) [I s.sp.id,I s.sp.src,.slice ast s.sp.st.length cst,.slice awa s.sp.wa.length cwa,I s.sp.al,I s.sp.up,.slice ar s.rs.length cr,.slice ac s.cs.length cc,.slice a46 (s.bg++[r.td]).length c46,.slice none 0 0] kD rfl au) ?_
     refine .E 7 hs ?_
     refine .box hs rfl rfl ?_;intro b48 w hs
     refine .go ?_
     refine .z 8 rfl zg ?_;refine .D hs ?_
     refine .seq (.draw mix rfl hs fun w hs=>?_)
     refine .z 0 rfl zm ?_;refine .z 1 rfl zm ?_;refine .z 2 rfl zm ?_;refine .z 4 rfl (zfa aK) ?_;refine .z 5 rfl (zfa dh) ?_;refine .y 6 rfl hs ae ?_
     refine .E 3 hs ?_
     refine .call Tryz.call116 rfl (ib (s:=s.sp) hs .here hk4.st hk4.wa ⟨aj,aj⟩ ⟨aj,aj⟩) ?_;rintro _ w ⟨rfl,hs⟩
     refine .go ?_
     refine .E 7 hs ?_
     refine .call so rfl (eS (ls:=[]) (hs.nul.sb:St H4 w (.blk b48 _:: .nul:: .blk b7 [I s.sys.many,.slice al ll cl]::enL:: .blk b4 [I 0,I 0]:: .blk b3 [I r.src,I r.st,I r.wa,I 0,I r.tol,I r.tape,I r.day]:: .blk b2 [I s.sp.id,I s.sp.src,.slice ast s.sp.st.length cst,.slice awa s.sp.wa.length cwa,I s.sp.al,I s.sp.up,.slice ar s.rs.length cr,.slice ac s.cs.length cc]::σ)) (.nil 4 none) cm) ?_;rintro _ w ⟨vl5,en5,hO5,hs⟩
     rw [List.nil_append] at hO5
     refine .go ?_
     refine .D hs ?_
     refine .af (.z zm (.z zm ?_))
     refine .o (.call Tryz.call117 rfl (jA (s:=s) (ts:=s.bg++[r.td]) (j0:=s.bg.length) hs hk4 hO5 (by simp [two]) hok.early.1 (by simp;omega) hcl hok.early.2.2.2.2 cm) ?_);rintro _ w ⟨H5,vl6,en6,hle5,hO6,hs⟩
     obtain ⟨a6,l6,c6,rfl,hl6⟩:=hO6.shape
     have hnot:r.td∉s.bg:=fun h=>by have:=hnn.2 h;omega
     have hsys:s.iz r.td=⟨s.sys.many+1,s.bV++(two 0 ((s.sp.many:Int)+1+(s.bg.length:Int)) 1000 1000 s.sp.src++nM s.sp (s.bg++[r.td]) s.cs s.bg.length s.cs.length)⟩:=if_neg hnot
     have hlen6:=Bi hok r.td
     rw [hsys,List.length_append] at hlen6
     rw [dj] at hl6
     refine .nil ?_
     refine .draw mix rfl hs fun w hs=>?_
     refine .z 0 rfl (zfa bB) ?_;refine .y 1 rfl hs ae ?_;refine .z 2 rfl cC ?_;refine .z 3 rfl (zfa bF) ?_;refine .y 4 rfl hs cA ?_;refine .z 5 rfl zm ?_;refine .z 6 rfl znc ?_;refine .z 7 rfl (zfa fK) ?_;refine .y 8 rfl hs cA ?_;refine .z 10 rfl (zfa bB) ?_
     refine .E 9 hs ?_
     refine .append (ys:=fy (two 0 ((s.sp.many:Int)+1+(s.bg.length:Int)) 1000 1000 s.sp.src++nM s.sp (s.bg++[r.td]) s.cs s.bg.length s.cs.length)) hs bO rfl rfl hOL (Src.Ew hO6 (.there .here)) (iR _) (fun l h=>by rw [dj] at h;omega) ?_;intro v69 en69 w hO69 hs
     rw [←fw] at hO69
     obtain ⟨a69,l69,c69,rfl,h69⟩:=hO69.shape
     refine .go ?_
     refine .E 11 hs ?_
     refine .store hs rfl rfl ai ?_;intro w hs
     refine .go ?_
     refine .z 12 rfl (zfa bF) ?_
     refine .E 13 hs ?_
     refine .store hs rfl rfl k7 ?_;intro w hs
     refine .go ?_
     refine .D hs ?_
     refine nT ?_
     refine ⟨H5,a69,l69,c69,en69,?_,hle4.trans hle5,by rw [hsys];exact hO69,by rw [hsys];exact hs.sb⟩
     refine .de rfl ?_ bD
     unfold Srv.tJ;rw [if_neg hnot]
    ·refine .skip ?_
     refine nT ?_
     have hmem:r.td∈s.bg:=hnn.1 aj
     have hsys:s.iz r.td=s.sys:=if_pos hmem
     obtain ⟨k,k1,_,_⟩:=ee hmem
     refine ⟨H3,al,ll,cl,enL,?_,HLe.refl _,by rw [hsys];exact hOL,by rw [hsys];exact hs.sb⟩
     refine .de rfl ?_ bD
     unfold Srv.tJ;rw [if_pos hmem,k1];rfl
   ·clear hOL hOT hlL hnn
    rintro fs w ⟨H4,al,ll,cl,enL,hfs,hle4,hOL,hs⟩
    refine WE.sub ?_ hfs
    have hle04:=hle03.trans hle4
    obtain ⟨_,_,_,e0,hlL⟩:=hOL.shape
    cases e0
    rw [dj] at hlL
    have htn:=zy s r.td
    have hjlt:=C3 s r.td
    have hmany:(s.iz r.td).many+1=((s.iz r.td).n:Int):=by
     unfold Srv.iz
     split
     ·simp only [cq.n,Srv.sys];omega
     ·simp only [cq.n,Srv.sys];omega
    have hn70:(s.iz r.td).n≤200:=by rw [htn];split<;>omega
    have hll6:ll=(s.iz r.td).bV.length:=by omega
    refine .seq (.af (.z (zfa bB) (.y hs (zld ae) (.z od (.z zm ?_)))))
    refine .kf (t':=75) rfl (fun hb75=>?_) (fun hb75=>?_)
    ·refine .gFs 4 3 false rfl rfl rfl ?_
     refine .z zpT (.nil ?_)
     refine (.cT ?_)
     refine .af (.z (zbd [_,_] cE) ?_)
     refine .o (.aO (vs:=[_,_]) hs rfl rfl aJ fun w hs=>?_)
     refine .z zg (.nil ?_)
     refine .ret (rT (?_))
     exact Fin.gI [] [] hs fun w hs=>⟨_,results2 mY (di (vs:=[_,_]) hs rfl bX aJ) rfl,H4,_,_,_,hle04,rfl,.long hok hr aj,hs.out⟩
    ·refine .gT rfl rfl ?_
     refine .z (zfa bF) ?_
     refine .gT rfl rfl ?_
     refine .y hs (zld cA) ?_
     refine .gT rfl rfl ?_
     refine .z (c9 aN) ?_
     refine .gT rfl rfl ?_
     refine .z od (.z zpF (.nil ?_))
     refine (.ck rfl (fun hc80=>?_) (fun hc80=>?_))
     ·refine .af (.z (zbd [_,_] cE) ?_)
      refine .o (.aO (vs:=[_,_]) hs rfl rfl aJ fun w hs=>?_)
      refine .z zg (.nil ?_)
      refine .ret (rT (?_))
      exact Fin.gI [] [] hs fun w hs=>⟨_,results2 mY (di (vs:=[_,_]) hs rfl bX aJ) rfl,H4,_,_,_,hle04,rfl,.long hok hr aj,hs.out⟩
     ·refine .skip ?_
      refine nT ?_
      refine .af (.z (zfa bB) (.y hs (zld ae) (.z cC ?_)))
      have hfit:(s.iz r.td).many≤64∧(s.iz r.td).bV.length≤400:=by omega
      refine .o (.sz (s.iz r.td).n hs (by show some (I _)=some (I _);rw [←hmany]) (by show some (I _)=some (I _);rw [←hmany]) ad ff rfl ai bM aj ?_);intro b85 w hs
      obtain ⟨u1,u2,u3⟩:=vf hr
      have hub:=re u1 u2
      refine .z zg (.nil (.af (.z zm (.z (zfa aK) (.y hs (zls [_,_,_,_,_,_] aM aE) (.z (zfa ea) (.y hs (zld ae) (.z (zfa dZ) (.y hs (zld ae) ?_)))))))))
      refine .o (.call Tryz.call118 rfl (gx (s:=s.sp) hs (h2.mono hle04) aj ⟨aj,aj⟩ ⟨aj,aj⟩) ?_);rintro _ w ⟨rfl,hs⟩
      rw [u3]
      refine .q hs (iI (k:=s.sp.u r.st.toNat r.wa.toNat) rfl rfl ad ai rfl aj) ?_
      refine .o (.store (c':=Is (mG (s.iz r.td).n (s.sp.u r.st.toNat r.wa.toNat) 1)) hs rfl rfl ai ?_ dw (by simp [Is];omega) (qp _ _ _));intro w hs
      refine .nil (.af (.z zm (.z (zfa aK) (.y hs (zls [_,_,_,_,_,_] aM aE) ?_))))
      refine .o (.call Tryz.call91 rfl (fa (s:=s.sp) hs (h1.mono hle04) (h2.mono hle04) ⟨aj,aj⟩) ?_);rintro _ w ⟨rfl,hs⟩
      refine .z cC (.z zm (.z cC ?_))
      refine .q hs (iI (k:=s.sp.many+1+s.tJ r.td) rfl rfl ad ai aj aj) ?_
      refine .o (.store (c':=Is (s.tW r)) hs rfl rfl ai ?_ dw (by simp [Is,fi];omega) (qp _ _ _));intro w hs
      refine .nil (.af (.y hs (zls [_,_] a8 aC) (.z zm ?_)))
      have hwl:(s.tW r).length=(s.iz r.td).n:=by simp [Srv.tW,fi]
      obtain ⟨H5,hle5,hW,hs⟩:=bS.cV (xs:=s.tW r) (v:= .slice (some ⟨b85,0,none⟩) (s.iz r.td).n (s.iz r.td).n) (.full (by simp [Is,hwl])) aj hs dw
      obtain ⟨H6,hle6,hL6,hs⟩:=bS.cf (m:=4) (cs:=(s.iz r.td).bV.map Lim.c) hOL (fun c hc=>by simp only [List.mem_map] at hc;obtain ⟨x,_,rfl⟩:=hc;rfl) aj (by rw [List.length_map];omega) hs dw
      refine .o (.call Tryz.call74 rfl (gO (s:=s.iz r.td) hs ⟨_,rfl,hL6⟩ (hW.mono hle6)) ?_);rintro _ w ⟨H7,a,b,f,hle7,rfl,hRg,hs⟩
      have hbd:=hRg.bd
      have hleF:=hle04.trans (hle5.trans (hle6.trans hle7))
      refine .z zm (.z zex (.z zex (.z zex (.z zg (.z zg (.z zg (.nil (.seq (.af ?_)))))))))
      refine .z zm (.z fM (.nil ?_))
      refine (.eD rfl (fun hc111=>?_) (fun hc111=>?_))
      ·refine .af (.z (zbd [_,_] cE) ?_)
       refine .o (.aO (vs:=[_,_]) hs rfl rfl aJ fun w hs=>?_)
       refine .z zg (.nil ?_)
       refine .ret (rT (?_))
       exact Fin.gI [] [] hs fun w hs=>⟨_,results2 mY (di (vs:=[_,_]) hs rfl bX aJ) rfl,H7,_,_,_,hleF,rfl,.fls hok hr hfit hRg hc111,hs.out⟩
      ·refine .skip ?_
       refine nT ?_
       refine .af ?_
       obtain rfl:f=0:=by simpa using hc111
       refine .z zm (.z (zfa bR) (.y hs (zld ae) (.z hZ (.z Cs (.z zm (.z (zfa bR) (.y hs (zld ae) (.z cC (.z (zfa bR) ?_)))))))))
       refine .y hs (zld ae) (.z hZ (.z A3 (.z (zbd [_,_] cE) ?_)))
       refine .o (.alloc hs cz rfl fun b15 w hs=>?_)
       refine .o (.aO (vs:=[_,_]) hs rfl rfl aJ fun w hs=>?_)
       refine .nil (.seq (.af (.z (zfa dt) (.y hs (zld ae) (.z (zfa dG) (.y hs (zld ae) (.z od (.nil ?_))))))))
       refine (.ck rfl (fun hc131=>?_) (fun hc131=>?_))
       ·refine .af (.z (zbd [_,_] cE) ?_)
        refine .o (.aO (vs:=[_,_]) hs rfl rfl aJ fun w hs=>?_)
        refine .z zg (.nil ?_)
        refine .ret (rT (?_))
        exact Fin.gI [] [] hs fun w hs=>⟨_,results2 mY (di (vs:=[_,_]) hs rfl bX aJ) rfl,H7,_,_,_,hleF,rfl,.none hok hr hfit hRg aj,hs.out⟩
       ·refine .skip ?_
        refine nT ?_
        refine .af (.y hs (zls [_,_] bX aJ) ?_)
        refine .o (.aO (vs:=[_,_]) hs rfl rfl aJ fun w hs=>?_)
        refine .z zg (.nil ?_)
        refine .ret ?_
        exact Fin.gI [] [] hs fun w hs=>⟨_,results2 mY (di (vs:=[_,_]) hs rfl bX aJ) rfl,H7,_,_,_,hleF,rfl,.ok hok hr hfit hRg aj,hs.out⟩
set_option maxRecDepth 100000 in
theorem pN:Tryz.prog.stoodInHeld 44=false:=by kernel_rfl
set_option maxRecDepth 100000 in
theorem pO:Tryz.prog.eqGuardType Tryz.prog.depth 44=false:=by kernel_rfl
theorem nA{v1 v2:Value}{as_ bs:List Int}(hs:St H w σ)(h1:RI H v1 as_)(h2:RI H v2 bs):
  Cl Tryz.prog 34 [v1,v2] w fun u w'=>u= .bool (decide (as_=bs))∧St H w' σ:=by
 obtain ⟨a1,c1,rfl⟩:=RI.shape h1
 obtain ⟨a2,c2,rfl⟩:=RI.shape h2
 have l1:=(RI.len h1).2.2
 refine Cl.o Tryz.func34 Tryz.ntmps34 ag2 ?_
 refine .af (.z zg (.nil (.af (.z zm (.z (c9 ad) (.z zm (.z (c9 ad) (.z ir (.z zg ?_)))))))))
 refine .nil (.seq (.af (.z zg (.nil (.block ?_)))))
 refine .loop (fun p:Nat×Bool=>⟨31,[],[(6,I (p.1:Int)),(5,.bool p.2),(0,.slice a1 as_.length c1),(1,.slice a2 bs.length c2)]⟩)
  (fun p w=>p.1≤as_.length∧(p.2=true↔as_.length=bs.length∧∀j<p.1,gi as_ j=gi bs j)∧St H w σ) (fun p=>as_.length - p.1) (0,decide ((as_.length:Int)=bs.length)) bD
  ⟨Nat.zero_le _,by dsimp only;rw [decide_eq_true_eq];exact ⟨fun h=>⟨aj,fun j hj=>by omega⟩,fun h=>by omega⟩,hs⟩ ?_
 rintro ⟨k,b⟩ w ⟨hk,hb,hs⟩
 dsimp only at hk hb ⊢
 refine .seq (.af (.z zm (.z zm (.z (c9 ad) (.z gp (.z zm ?_))))))
 refine .kf (t':=16) rfl (fun hb16=>?_) (fun hb16=>?_)
 ·refine .gT rfl rfl ?_
  refine .z zm (.z zpT (.nil ?_))
  refine (.cond rfl (fun hc18=>?_) (fun hc18=>?_))
  ·refine .skip ?_
   refine nT ?_
   refine .seq (.block ?_)
   refine .draw mix rfl hs fun w hs=>?_
   refine .z 0 rfl zm ?_;refine .z 1 rfl zm ?_
   obtain rfl:b=true:=by assumption
   obtain ⟨hlen,hall⟩:=hb.1 rfl
   refine .ixX (enc:=fun x=>[I x]) (i:=2) hs rfl au .none h1 rfl rfl ad ai (bJ (l:=as_) (i:=k) aj) dx ?_;intro b23 o23 hc23;replace hc23:=bQ.one hc23
   refine .r (i:=3) hs rfl au .none (bh rfl ae hc23) ?_
   refine .z 4 rfl zm ?_;refine .z 5 rfl zm ?_
   refine .ixX (enc:=fun x=>[I x]) (i:=6) hs rfl au .none h2 rfl rfl ad ai (bJ (l:=bs) (i:=k) aj) dx ?_;intro b27 o27 hc27;replace hc27:=bQ.one hc27
   refine .r (i:=7) hs rfl au .none (bh rfl ae hc27) ?_
   refine .z 8 rfl ir ?_;refine .z 9 rfl zg ?_;refine .D hs ?_
   refine nB (nT ?_)
   refine .region (.z zm (.z cC (.z zg (.nil ?_))))
   refine nT ?_
   exact ⟨(k+1,decide (gi as_ k=gi bs k)),.de rfl cm bD,⟨by dsimp only;omega,by
    dsimp only
    rw [decide_eq_true_eq]
    exact ⟨fun h=>⟨hlen,fun j hj=>by
     by_cases e:j=k
     ·subst e;exact h
     ·exact hall j aj⟩,fun h=>h.2 k aj⟩,hs⟩,by dsimp only;omega⟩
  ·refine .exit ?_
   refine xT (xT (xB (nT ?_)))
   refine .af (.z zm (.z zg (.nil ?_)))
   refine .ret (Fin.bI Tryz.results34 rfl ?_)
   have hf:b=false:=by simpa using hc18
   exact ⟨by rw [hf,decide_eq_false (fun h=>by subst h;rw [hb.2 ⟨rfl,fun j _=>rfl⟩] at hf;cases hf)],hs⟩
 ·refine .gFs 1 4 true rfl rfl rfl ?_
  refine .z zpF (.nil ?_)
  refine (.cF ?_)
  refine .exit ?_
  refine xT (xT (xB (nT ?_)))
  refine .af (.z zm (.z zg (.nil ?_)))
  refine .ret (Fin.bI Tryz.results34 rfl ?_)
  refine ⟨?_,hs⟩
  congr 1
  cases hbb:b with
  |true=>
   obtain ⟨hl,ha⟩:=hb.1 hbb
   rw [decide_eq_true (Ax hl fun j hj=>ha j aj)]
  |false=>rw [decide_eq_false (fun h=>by subst h;rw [hb.2 ⟨rfl,fun j _=>rfl⟩] at hbb;cases hbb)]
theorem oU(hs:St H w σ):
  Cl Tryz.prog 82 [] w fun u w'=>∃H1 vst vwa vr vc,HLe H H1∧u= .agg #[I 1,I 1,vst,vwa,I 100,I 200,vr,vc]∧RI H1 vst exV.sp.st∧RI H1 vwa exV.sp.wa∧RRd H1 vr exV.rs∧RCm H1 vc exV.cs∧St H1 w' σ:=by
 refine Cl.of Tryz.func82 rfl Tryz.ntmps82 cm (uz) ?_
 refine .af ?_
 refine .o (.alloc hs bK rfl fun b0 w hs=>?_)
 refine .nil (.af ?_)
 refine .o (.buildSlice (cells:=Is [0,1000]) hs gZ rfl au fun b2 w hs=>?_)
 refine .o (.buildSlice (cells:=Is [0,1000]) hs gZ rfl au fun b3 w hs=>?_)
 refine .z (zbd [_,_] qn) (.z (zbd [_,_,_,_,_,_] pw) ?_)
 refine .o (.alloc hs im rfl fun b1 w hs=>?_)
 refine .o (.aO (vs:=[_,_,_,_,_,_]) hs rfl rfl aE fun w hs=>?_)
 refine .nil (.af (.y hs (zls [_,_,_,_,_,_] aM aE) (.z (zbd [_,_,_,_,_,_,_] bU) (.z (zbd [_,_,_,_,_,_,_] bU) (.z (zbd [_,_,_,_,_,_,_] bU) (.z (zbd [_,_,_,_,_,_,_] bU) ?_))))))
 refine .o (.buildSlice (cells:=(rdc A4).flatten) hs mU rfl au fun b11 w hs=>?_)
 refine .z (zbd [_,_,_,_,_,_] jC) ?_
 refine .o (.buildSlice (cells:=(cmc exV.cs).flatten) hs gC rfl au fun b13 w hs=>?_)
 refine .z (zbd (vs:=[(0,.agg #[I 1,I 1,.slice (some ⟨b2,0,none⟩) 2 2,.slice (some ⟨b3,0,none⟩) 2 2,I 100,I 200]),(1,.slice (some ⟨b11,0,none⟩) 4 4),(2,.slice (some ⟨b13,0,none⟩) 1 1)]) [I 1,I 1,.slice (some ⟨b2,0,none⟩) 2 2,.slice (some ⟨b3,0,none⟩) 2 2,I 100,I 200,.slice (some ⟨b11,0,none⟩) 4 4,.slice (some ⟨b13,0,none⟩) 1 1] eW rfl au) ?_
 refine .o (.aO (vs:=[_,_,_,_,_,_,_,_]) hs rfl rfl an fun w hs=>?_)
 refine .nil ?_
 refine .ret ?_
 obtain ⟨H1,g1,r1,hs⟩:=bS.cV (xs:=[0,1000]) (v:= .slice (some ⟨b2,0,none⟩) 2 2) (.full rfl) cm hs dw
 obtain ⟨H2,g2,r2,hs⟩:=bS.cV (xs:=[0,1000]) (v:= .slice (some ⟨b3,0,none⟩) 2 2) (.full rfl) cm hs dw
 obtain ⟨H3,g3,r3,hs⟩:=bS.cf (m:=7) (cs:=rdc A4) (v:= .slice (some ⟨b11,0,none⟩) 4 4) (.full au) (gg _) aj fG hs dw
 obtain ⟨H4,g4,r4,hs⟩:=bS.cf (m:=6) (cs:=cmc exV.cs) (v:= .slice (some ⟨b13,0,none⟩) 1 1) (.full au) (iY _) aj fG hs dw
 exact Fin.gI [] [] hs fun w hs=>⟨_,results1 Tryz.results82 (di (vs:=[_,_,_,_,_,_,_,_]) hs rfl aq an),H4,_,_,_,_,g1.trans (g2.trans (g3.trans g4)),rfl,r1.mono (g2.trans (g3.trans g4)),r2.mono (g3.trans g4),r3.mono g4,r4,hs.out⟩
theorem Ce{out:List Int}{e:Int}(h:yj exW out e):out=[11,15]∧e=0:=by
 cases h with
 |bad h he=>exact (he (h.bL.2 EE)).elim
 |ok _ h=>rw [Dr] at h;exact Az h
set_option maxHeartbeats 4000000 in
theorem jB(hs:St H w σ):
  Cl Tryz.prog 22 [] w fun u w'=>u= .bool true∧∃H1,HLe H H1∧St H1 w' σ:=by
 refine Cl.of Tryz.func22 rfl Tryz.ntmps22 cm (uz) ?_
 refine .af (.z zg (.nil (.af ?_)))
 refine .o (.call Tryz.call82 rfl (oU hs) ?_);rintro _ w ⟨H1,vst,vwa,vr,vc,hle1,rfl,h1,h2,h3,h4,hs⟩
 obtain ⟨ast,cst,rfl⟩:=RI.shape h1
 obtain ⟨awa,cwa,rfl⟩:=RI.shape h2
 obtain ⟨ar,cr,rfl⟩:=RRd.shape h3
 obtain ⟨ac,cc,rfl⟩:=RCm.shape h4
 refine .o (.alloc hs bK rfl fun b1 w hs=>?_)
 refine .o (.aO (vs:=[_,_,_,_,_,_,_,_]) hs rfl rfl an fun w hs=>?_)
 refine .nil (.af (.y hs (zls [_,_,_,_,_,_,_,_] aq an) (.z (zbd [_,_,_] mm) ?_)))
 refine .o (.call lK rfl (dc (s:=exV) (q:=⟨1,0,1⟩) hs h1 h2 h3 h4) ?_);rintro _ w ⟨H2,lo,hi,e,hle2,rfl,hQ,hs⟩
 obtain ⟨rfl,rfl,rfl⟩:=Ay hQ
 have hle02:=hle1.trans hle2
 replace h1:=h1.mono hle2
 replace h2:=h2.mono hle2
 replace h3:=h3.mono hle2
 replace h4:=h4.mono hle2
 refine .z zm (.z zex (.z zex ?_))
 refine .o (.alloc hs cz rfl fun b2 w hs=>?_)
 refine .o (.aO (vs:=[_,_]) hs rfl rfl aJ fun w hs=>?_)
 refine .z zg (.nil (.af (.y hs (zls [_,_,_,_,_,_,_,_] aq an) (.z (zbd [_,_] fb) ?_))))
 refine .o (.call Tryz.call28 rfl (pW (s:=exV) (t:=⟨2,5⟩) hs h1 h2 h3 h4) ?_);rintro _ w ⟨H3,lo,hi,e,hle3,rfl,hQ,hs⟩
 obtain ⟨rfl,rfl,rfl⟩:=Dq hQ
 have hle03:=hle02.trans hle3
 replace h1:=h1.mono hle3
 replace h2:=h2.mono hle3
 replace h3:=h3.mono hle3
 replace h4:=h4.mono hle3
 refine .z zm (.z zex (.z zex ?_))
 refine .o (.alloc hs cz rfl fun b4 w hs=>?_)
 refine .o (.aO (vs:=[_,_]) hs rfl rfl aJ fun w hs=>?_)
 refine .z zg (.nil (.af (.z (zfa aK) (.y hs (zls [_,_,_,_,_,_] aM aE) ?_))))
 refine .o (.buildSlice (cells:=Is [100,200]) hs gZ rfl au fun b30 w hs=>?_)
 refine .o (.buildSlice (cells:=Is [150,300]) hs gZ rfl au fun b31 w hs=>?_)
 refine .o (.buildSlice (cells:=[.slice (some ⟨b30,0,none⟩) 2 2,.slice (some ⟨b31,0,none⟩) 2 2]) hs sH rfl au fun b32 w hs=>?_)
 refine .z (zbd [_] vX) (.z (zbd [_,_,_] mm) ?_)
 obtain ⟨H4,g1,r1,hs⟩:=bS.cV (xs:=[100,200]) (v:= .slice (some ⟨b30,0,none⟩) 2 2) (.full rfl) cm hs dw
 obtain ⟨H5,g2,r2,hs⟩:=bS.cV (xs:=[150,300]) (v:= .slice (some ⟨b31,0,none⟩) 2 2) (.full rfl) cm hs dw
 have hRL:RLs H5 [.slice (some ⟨b30,0,none⟩) 2 2,.slice (some ⟨b31,0,none⟩) 2 2] xV:=((RLs.nil H5).snoc (r1.mono g2)).snoc r2
 obtain ⟨H6,g3,hRT,hs⟩:=hRL.cf (v:= .slice (some ⟨b32,0,none⟩) 2 2) (en:= .blk b32 [.slice (some ⟨b30,0,none⟩) 2 2,.slice (some ⟨b31,0,none⟩) 2 2]) (.full rfl) cm hs dw
 have hle4:=g1.trans (g2.trans g3)
 have hle06:=hle03.trans hle4
 replace h1:=h1.mono hle4
 replace h2:=h2.mono hle4
 replace h3:=h3.mono hle4
 replace h4:=h4.mono hle4
 refine .o (.call Tryz.call37 rfl (oJ (s:=yR) (q:=⟨1,0,1⟩) hs h1 h2 hRT) ?_);rintro _ w ⟨H7,n,e,hle7,rfl,hQ,hs⟩
 obtain ⟨rfl,rfl⟩:=Ca hQ
 have hle07:=hle06.trans hle7
 replace h1:=h1.mono hle7
 replace h2:=h2.mono hle7
 replace h3:=h3.mono hle7
 replace h4:=h4.mono hle7
 refine .z zm (.z zex (.z zex (.z zg (.z zg (.nil (.af (.y hs (zls [_,_,_,_,_,_,_,_] aq an) (.z (zbd [_,_,_,_,_,_,_] bU) ?_))))))))
 refine .o (.call Tryz.call46 rfl (kz (s:=exV) (r:=⟨30,1,0,0,5,1,5⟩) hs h1 h2 h3 h4 rfl) ?_);rintro _ w ⟨H8,lo,hi,e,hle8,rfl,hQ,hs⟩
 obtain ⟨rfl,rfl,rfl⟩:=Dp hQ
 have hle08:=hle07.trans hle8
 replace h1:=h1.mono hle8
 replace h2:=h2.mono hle8
 replace h3:=h3.mono hle8
 replace h4:=h4.mono hle8
 refine .z zm (.z zex (.z zex ?_))
 refine .o (.alloc hs cz rfl fun b8 w hs=>?_)
 refine .o (.aO (vs:=[_,_]) hs rfl rfl aJ fun w hs=>?_)
 refine .z zg (.nil (.af (.y hs (zls [_,_,_,_,_,_,_,_] aq an) ?_)))
 refine .o (.alloc hs bK rfl fun b10 w hs=>?_)
 refine .o (.aO (vs:=[_,_,_,_,_,_,_,_]) hs rfl rfl an fun w hs=>?_)
 refine .nil (.af ?_)
 refine .o (.buildSlice (cells:=[]) hs je rfl rfl fun b45 w hs=>?_)
 refine .z (zfa aZ) (.y hs (zld bZ) ?_)
 refine .o (.append (xs:=[]) (ys:=(rdc A4).flatten) hs cn rfl rfl (.full (b:=b45) (len:=0) rfl) (.rs h3) fG (fun l' h=>by have hl:l'=0:=(by simp at h;omega);subst hl;decide) ?_);intro v48 en48 w hO48 hs
 rw [List.nil_append] at hO48
 obtain ⟨a48,c48,rfl⟩:=hO48.fj (gg A4) aj
 refine .z (zbd [_,_,_,_,_,_,_] bU) ?_
 refine .o (.buildSlice (cells:=Rdg.c ⟨15,0,0,300,10,1,5⟩) hs eZ rfl au fun b50 w hs=>?_)
 refine .o (.append (ys:=Rdg.c ⟨15,0,0,300,10,1,5⟩) hs cn rfl rfl hO48 (.own .here rfl rfl) fG (fun l' h=>by rw [bE _ (gg _)] at h;simp [rdc,A4] at h;omega) ?_);intro v51 en51 w hO51 hs
 rw [←qU] at hO51
 obtain ⟨H9,hle9,h3w,hs⟩:=bS.cf (m:=7) (cs:=rdc (A4++[⟨15,0,0,300,10,1,5⟩])) hO51 (gg _) aj fG hs dw
 replace h3w:RRd H9 v51 exW.rs:=h3w
 obtain ⟨a51,c51,rfl⟩:=RRd.shape h3w
 have hle09:=hle08.trans hle9
 replace h1:=h1.mono hle9
 replace h2:=h2.mono hle9
 replace h4:=h4.mono hle9
 refine .z (zfa aZ) ?_
 refine .o (.store hs rfl rfl jg fun w hs=>?_)
 refine .nil (.af (.y hs (zls [_,_,_,_,_,_,_,_] aq an) ?_))
 refine .o (.call Tryz.call32 rfl (oM (s:=exW) hs h1 h2 h3w h4) ?_);rintro _ w ⟨H10,vx,out,e,hle10,rfl,hR,hQ,hs⟩
 obtain ⟨rfl,rfl⟩:=Ce hQ
 have hle010:=hle09.trans hle10
 refine .z zm (.z zex (.z zex (.z zg (.z zg (.nil (.af (.z zm ?_)))))))
 refine .o (.buildSlice (cells:=Is [11,15]) hs gZ rfl au fun b59 w hs=>?_)
 obtain ⟨H11,hle11,r59,hs⟩:=bS.cV (xs:=[11,15]) (v:= .slice (some ⟨b59,0,none⟩) 2 2) (.full rfl) cm hs dw
 have hleF:=hle010.trans hle11
 refine .o (.call Tryz.call34 rfl (nA hs (hR.mono hle11) r59) ?_);rintro _ w ⟨rfl,hs⟩
 refine .z zg (.nil (.af (.z zm (.z ir (.z zm ?_)))))
 refine .kf (t':=63) rfl (fun hb63=>?_) (fun hb63=>?_)
 ·refine .gT rfl rfl ?_
  refine .y hs (zls [_,_] bX aJ) ?_
  refine .gT rfl rfl ?_
  refine .z (zbd [_,_] cE) ?_
  refine .gT rfl rfl ?_
  refine .q hs (ld pN pO dK (fun f hf=>by
   simp only [List.mem_cons,List.not_mem_nil,or_false] at hf
   rcases hf with rfl|rfl<;>exact ⟨by decide,aQ,ae⟩) rfl rfl) ?_
  refine .z zpT (.z zm ?_)
  refine .bif (t':=68) rfl (fun hb68=>?_) (fun hb68=>?_)
  ·refine .gT rfl rfl ?_
   refine .z zm ?_
   refine .gT rfl rfl ?_
   refine .z ir (.z zpT (.z zm ?_))
   refine .kf (t':=72) rfl (fun hb72=>?_) (fun hb72=>?_)
   ·refine .gT rfl rfl ?_
    refine .y hs (zls [_,_] bX aJ) ?_
    refine .gT rfl rfl ?_
    refine .z (zbd [_,_] cE) ?_
    refine .gT rfl rfl ?_
    refine .q hs (ld pN pO dK (fun f hf=>by
     simp only [List.mem_cons,List.not_mem_nil,or_false] at hf
     rcases hf with rfl|rfl<;>exact ⟨by decide,aQ,ae⟩) rfl rfl) ?_
    refine .z zpT (.z zm ?_)
    refine .bif (t':=77) rfl (fun hb77=>?_) (fun hb77=>?_)
    ·refine .gT rfl rfl ?_
     refine .z zm ?_
     refine .gT rfl rfl ?_
     refine .z ir (.z zpT (.z zm ?_))
     refine .kf (t':=81) rfl (fun hb81=>?_) (fun hb81=>?_)
     ·refine .gT rfl rfl ?_
      refine .z zm ?_
      refine .gT rfl rfl ?_
      refine .z ir (.z zpT (.z zm ?_))
      refine .kf (t':=85) rfl (fun hb85=>?_) (fun hb85=>?_)
      ·refine .gT rfl rfl ?_
       refine .z zm ?_
       refine .gT rfl rfl ?_
       refine .z ir (.z zpT (.z zm ?_))
       refine .kf (t':=89) rfl (fun hb89=>?_) (fun hb89=>?_)
       ·refine .gT rfl rfl ?_
        refine .y hs (zls [_,_] bX aJ) ?_
        refine .gT rfl rfl ?_
        refine .z (zbd [_,_] cE) ?_
        refine .gT rfl rfl ?_
        refine .q hs (ld pN pO dK (fun f hf=>by
         simp only [List.mem_cons,List.not_mem_nil,or_false] at hf
         rcases hf with rfl|rfl<;>exact ⟨by decide,aQ,ae⟩) rfl rfl) ?_
        refine .z zpT (.z zm ?_)
        refine .bif (t':=94) rfl (fun hb94=>?_) (fun hb94=>?_)
        ·refine .gT rfl rfl ?_
         refine .z zm ?_
         refine .gT rfl rfl ?_
         refine .z ir (.z zpT (.z zm ?_))
         refine .kf (t':=98) rfl (fun hb98=>?_) (fun hb98=>?_)
         ·refine .gT rfl rfl ?_
          refine .z zm (.z zpT (.z zg (.nil ?_)))
          refine .ret (Fin.bI gn rfl ?_)
          first
          |exact ⟨rfl,H11,hleF,hs.out⟩
          |contradiction
          |(exfalso;simp_all;done)
         ·refine .gFs 1 37 true rfl rfl rfl ?_
          refine .z zpF (.z zg (.nil ?_))
          refine .ret (Fin.bI gn rfl ?_)
          first
          |exact ⟨rfl,H11,hleF,hs.out⟩
          |contradiction
          |(exfalso;simp_all;done)
        ·refine .gFs 2 33 true rfl rfl rfl ?_
         refine .z zpF (.z zm ?_)
         refine .gFs 1 37 true rfl rfl rfl ?_
         refine .z zpF (.z zg (.nil ?_))
         refine .ret (Fin.bI gn rfl ?_)
         first
         |exact ⟨rfl,H11,hleF,hs.out⟩
         |contradiction
         |(exfalso;simp_all;done)
       ·refine .gFs 3 28 true rfl rfl rfl ?_
        refine .z zpF (.z zm ?_)
        refine .gFs 2 33 true rfl rfl rfl ?_
        refine .z zpF (.z zm ?_)
        refine .gFs 1 37 true rfl rfl rfl ?_
        refine .z zpF (.z zg (.nil ?_))
        refine .ret (Fin.bI gn rfl ?_)
        first
        |exact ⟨rfl,H11,hleF,hs.out⟩
        |contradiction
        |(exfalso;simp_all;done)
      ·refine .gFs 2 24 true rfl rfl rfl ?_
       refine .z zpF (.z zm ?_)
       refine .gFs 3 28 true rfl rfl rfl ?_
       refine .z zpF (.z zm ?_)
       refine .gFs 2 33 true rfl rfl rfl ?_
       refine .z zpF (.z zm ?_)
       refine .gFs 1 37 true rfl rfl rfl ?_
       refine .z zpF (.z zg (.nil ?_))
       refine .ret (Fin.bI gn rfl ?_)
       first
       |exact ⟨rfl,H11,hleF,hs.out⟩
       |contradiction
       |(exfalso;simp_all;done)
     ·refine .gFs 2 20 true rfl rfl rfl ?_
      refine .z zpF (.z zm ?_)
      refine .gFs 2 24 true rfl rfl rfl ?_
      refine .z zpF (.z zm ?_)
      refine .gFs 3 28 true rfl rfl rfl ?_
      refine .z zpF (.z zm ?_)
      refine .gFs 2 33 true rfl rfl rfl ?_
      refine .z zpF (.z zm ?_)
      refine .gFs 1 37 true rfl rfl rfl ?_
      refine .z zpF (.z zg (.nil ?_))
      refine .ret (Fin.bI gn rfl ?_)
      first
      |exact ⟨rfl,H11,hleF,hs.out⟩
      |contradiction
      |(exfalso;simp_all;done)
    ·refine .gFs 2 16 true rfl rfl rfl ?_
     refine .z zpF (.z zm ?_)
     refine .gFs 2 20 true rfl rfl rfl ?_
     refine .z zpF (.z zm ?_)
     refine .gFs 2 24 true rfl rfl rfl ?_
     refine .z zpF (.z zm ?_)
     refine .gFs 3 28 true rfl rfl rfl ?_
     refine .z zpF (.z zm ?_)
     refine .gFs 2 33 true rfl rfl rfl ?_
     refine .z zpF (.z zm ?_)
     refine .gFs 1 37 true rfl rfl rfl ?_
     refine .z zpF (.z zg (.nil ?_))
     refine .ret (Fin.bI gn rfl ?_)
     first
     |exact ⟨rfl,H11,hleF,hs.out⟩
     |contradiction
     |(exfalso;simp_all;done)
   ·refine .gFs 3 11 true rfl rfl rfl ?_
    refine .z zpF (.z zm ?_)
    refine .gFs 2 16 true rfl rfl rfl ?_
    refine .z zpF (.z zm ?_)
    refine .gFs 2 20 true rfl rfl rfl ?_
    refine .z zpF (.z zm ?_)
    refine .gFs 2 24 true rfl rfl rfl ?_
    refine .z zpF (.z zm ?_)
    refine .gFs 3 28 true rfl rfl rfl ?_
    refine .z zpF (.z zm ?_)
    refine .gFs 2 33 true rfl rfl rfl ?_
    refine .z zpF (.z zm ?_)
    refine .gFs 1 37 true rfl rfl rfl ?_
    refine .z zpF (.z zg (.nil ?_))
    refine .ret (Fin.bI gn rfl ?_)
    first
    |exact ⟨rfl,H11,hleF,hs.out⟩
    |contradiction
    |(exfalso;simp_all;done)
  ·refine .gFs 2 7 true rfl rfl rfl ?_
   refine .z zpF (.z zm ?_)
   refine .gFs 3 11 true rfl rfl rfl ?_
   refine .z zpF (.z zm ?_)
   refine .gFs 2 16 true rfl rfl rfl ?_
   refine .z zpF (.z zm ?_)
   refine .gFs 2 20 true rfl rfl rfl ?_
   refine .z zpF (.z zm ?_)
   refine .gFs 2 24 true rfl rfl rfl ?_
   refine .z zpF (.z zm ?_)
   refine .gFs 3 28 true rfl rfl rfl ?_
   refine .z zpF (.z zm ?_)
   refine .gFs 2 33 true rfl rfl rfl ?_
   refine .z zpF (.z zm ?_)
   refine .gFs 1 37 true rfl rfl rfl ?_
   refine .z zpF (.z zg (.nil ?_))
   refine .ret (Fin.bI gn rfl ?_)
   first
   |exact ⟨rfl,H11,hleF,hs.out⟩
   |contradiction
   |(exfalso;simp_all;done)
 ·refine .gFs 3 2 true rfl rfl rfl ?_
  refine .z zpF (.z zm ?_)
  refine .gFs 2 7 true rfl rfl rfl ?_
  refine .z zpF (.z zm ?_)
  refine .gFs 3 11 true rfl rfl rfl ?_
  refine .z zpF (.z zm ?_)
  refine .gFs 2 16 true rfl rfl rfl ?_
  refine .z zpF (.z zm ?_)
  refine .gFs 2 20 true rfl rfl rfl ?_
  refine .z zpF (.z zm ?_)
  refine .gFs 2 24 true rfl rfl rfl ?_
  refine .z zpF (.z zm ?_)
  refine .gFs 3 28 true rfl rfl rfl ?_
  refine .z zpF (.z zm ?_)
  refine .gFs 2 33 true rfl rfl rfl ?_
  refine .z zpF (.z zm ?_)
  refine .gFs 1 37 true rfl rfl rfl ?_
  refine .z zpF (.z zg (.nil ?_))
  refine .ret (Fin.bI gn rfl ?_)
  first
  |exact ⟨rfl,H11,hleF,hs.out⟩
  |contradiction
  |(exfalso;simp_all;done)
def SysR(v:Srv)(s:cq)(e:Int):Prop:=se v e∧(e=0→s=v.sys)∧(e≠0→s=⟨0,[]⟩)
theorem nG{s:Srv}{vst vwa vr vc:Value}(hs:St H w σ)(h1:RI H vst s.sp.st)(h2:RI H vwa s.sp.wa)(h3:RRd H vr s.rs)(h4:RCm H vc s.cs):
  Cl Tryz.prog 38 [.agg #[I s.sp.id,I s.sp.src,vst,vwa,I s.sp.al,I s.sp.up,vr,vc]] w fun u w'=>∃H1 t ul e,HLe H H1∧u= .tuple #[.agg #[I t.many,ul],I e]∧RL H1 ul t.bV∧SysR s t e∧St H1 w' σ:=by
 refine Cl.o Tryz.func38 Tryz.ntmps38 ag1 ?_
 refine .af ?_
 refine .bx hs fun b1 w hs=>?_
 refine .o (.alloc hs cu rfl fun b2 w hs=>?_)
 refine .z zg (.nil (.seq (.af (.y hs (zls [_,_,_,_,_,_,_,_] aq an) ?_))))
 refine .o (.call iG rfl (cD (s:=s) hs h1 h2 h3 h4) ?_);rintro _ w ⟨H1,e,hle1,rfl,hC,hs⟩
 refine .z zg (.nil (.af (.z zm (.z fM (.nil ?_)))))
 refine (.eD rfl (fun hc8=>?_) (fun hc8=>?_))
 ·refine .af (.z (zbd [_,_] iF) (.z zm ?_))
  refine .o (.aO (vs:=[_,_]) hs rfl rfl aC fun w hs=>?_)
  refine .z zg (.nil ?_)
  refine .ret (rT (?_))
  exact Fin.gI [] [] hs fun w hs=>⟨_,results2 Tryz.results38 (di (vs:=[_,_]) hs rfl a8 aC) rfl,H1,⟨0,[]⟩,_,_,hle1,rfl,RS.nil H1 4 none 0,⟨hC,fun h=>(hc8 h).elim,fun _=>rfl⟩,hs.out⟩
 ·refine .skip ?_
  refine nT ?_
  refine .af (.y hs (zls [_,_,_,_,_,_,_,_] aq an) ?_)
  have hok:cS s:=hC.bL.1 (by simpa using hc8)
  refine .o (.call qd rfl (dz (s:=s) hs (h1.mono hle1) (h2.mono hle1) (h3.mono hle1) (h4.mono hle1) hok.early) ?_);rintro _ w ⟨H2,hle2,⟨ul,rfl,hL⟩,hs⟩
  obtain ⟨al,cl,rfl⟩:=RL.shape hL
  refine .o (.aO (vs:=[_,_]) hs rfl rfl aC fun w hs=>?_)
  refine .z zg (.nil ?_)
  refine .ret ?_
  exact Fin.gI [] [] hs fun w hs=>⟨_,results2 Tryz.results38 (di (vs:=[_,_]) hs rfl a8 aC) rfl,H2,s.sys,_,_,hle1.trans hle2,rfl,hL,⟨.ok hok.early ⟨hok.many,hok.bV⟩,fun _=>rfl,fun h=>(h rfl).elim⟩,hs.out⟩
inductive DF(s:Spc)(q:Wht):List Int→Int→Int→Prop
 |space (h:¬ez s):DF s q [] 0 30
 |what (h:ez s) (h1:¬eX s q):DF s q [] 0 33
 |ok (h:ez s) (h1:eX s q):DF s q (jk s q) (o8 q) 0
theorem DF.uniq{s:Spc}{q:Wht}{a b:List Int}{d f e g:Int}(h:DF s q a d e)(k:DF s q b f g):a=b∧d=f∧e=g:=by
 cases h<;>cases k<;>first|exact ⟨rfl,rfl,rfl⟩|contradiction
theorem mM{s:Spc}{q:Wht}{vst vwa:Value}(hs:St H w σ)(h1:RI H vst s.st)(h2:RI H vwa s.wa):
  Cl Tryz.prog 44 [.agg #[I s.id,I s.src,vst,vwa,I s.al,I s.up],.agg #[I q.kind,I q.st,I q.wa]] w fun u w'=>∃H1 vl L d e,HLe H H1∧u= .tuple #[vl,I d,I e]∧RI H1 vl L∧DF s q L d e∧St H1 w' σ:=by
 refine Cl.o Tryz.func44 Tryz.ntmps44 ag2 ?_
 refine .af ?_
 refine .bx hs fun b2 w hs=>?_
 refine .bx hs fun b3 w hs=>?_
 refine .z zg (.z zg (.z zg (.nil (.seq (.af (.y hs (zls [_,_,_,_,_,_] aM aE) ?_))))))
 refine .o (.call Tryz.call41 rfl (eg (s:=s) hs h1 h2) ?_);rintro _ w ⟨H1,e,hle1,rfl,he,hs⟩
 refine .z zg (.nil (.af (.z zm (.z fM (.nil ?_)))))
 refine (.eD rfl (fun hc14=>?_) (fun hc14=>?_))
 ·refine .af (.z zm (.z zg (.z zg (.z zg (.nil ?_)))))
  refine .ret (rT (Fin.DW Tryz.results44 rfl rfl rfl ?_))
  have hq:¬ez s∧e=30:=he.resolve_left fun h=>hc14 h.2
  exact ⟨H1,_,[],_,_,hle1,rfl,RS.nil H1 1 none 0,by rw [hq.2];exact .space hq.1,hs.out⟩
 ·refine .skip ?_
  refine nT ?_
  refine .af (.y hs (zls [_,_,_,_,_,_] aM aE) (.y hs (zls [_,_,_] cj bw) ?_))
  have hok:ez s:=(he.resolve_right fun h=>by omega).1
  refine .o (.call Tryz.call102 rfl (gw (s:=s) (q:=q) hs (h1.mono hle1) (h2.mono hle1) hok) ?_);rintro _ w ⟨H2,vl,L,d,b,en,hle2,rfl,hO,hcase,hs⟩
  refine .z zm (.z zex (.z zex (.z zex (.z zg (.z zg (.z zg (.nil (.seq (.af ?_)))))))))
  refine .z zm (.z iq (.nil ?_))
  refine (.cond rfl (fun hc24=>?_) (fun hc24=>?_))
  ·refine .af (.z zg (.z zg (.z zg (.nil ?_))))
   refine .ret (rT (Fin.DW Tryz.results44 rfl rfl rfl ?_))
   have hq:¬eX s q:=by
    rcases hcase with ⟨g,_⟩|⟨_,g,_⟩
    ·subst g;cases hc24
    ·exact g
   exact ⟨H2,_,[],_,_,hle1.trans hle2,rfl,RS.nil H2 1 none 0,.what hok hq,hs.out⟩
  ·refine .skip ?_
   refine nT ?_
   refine .af (.z zm (.z zm (.z zg (.z zg (.z zg (.nil ?_))))))
   refine .ret (Fin.DW Tryz.results44 rfl rfl rfl ?_)
   obtain ⟨rfl,hq,rfl,rfl⟩:b=true∧eX s q∧L=jk s q∧d=o8 q:=hcase.resolve_right fun h=>by rw [h.1] at hc24;cases hc24
   have hsm:=dB hok
   obtain ⟨H3,hle3,hR,hs⟩:=bS.cV hO (by rw [fo];omega) hs dw
   exact ⟨H3,_,_,_,_,hle1.trans (hle2.trans hle3),rfl,hR,.ok hok hq,hs.out⟩
theorem rE{a d:Int}(hs:St H w σ)(hd:1≤d)(ha: -4608000000000000000≤a∧a≤4608000000000000000):
  Cl Tryz.prog 78 [I a,I d] w fun v w'=>v=I (a/d)∧St H w' σ:=by
 have hq: -4608000000000000000≤a.tdiv d∧a.tdiv d≤4608000000000000000:=by
  have h1:=qZ (n:=a) (d:=d) aj
  have h2:a/d≤4608000000000000000:=Int.ediv_le_of_le_mul aj (by
   have:=Int.mul_le_mul_of_nonneg_left hd (show (0:Int)≤4608000000000000000 by omega);omega)
  have h3: -4608000000000000000≤a/d:=Int.le_ediv_of_mul_le aj (by
   have:=Int.mul_le_mul_of_nonneg_left hd (show (0:Int)≤4608000000000000000 by omega);omega)
  by_cases h0:0≤a
  ·rw [Int.tdiv_eq_ediv_of_nonneg h0];omega
  ·split at h1
   ·have:a/d<0:=Int.ediv_neg_of_neg_of_pos aj aj
    omega
   ·omega
 have hfl:=qZ (n:=a) (d:=d) aj
 refine Cl.o Tryz.func78 Tryz.ntmps78 ag2 ?_
 refine .af (.z zg (.nil (.af (.z zm (.z zm ?_)))))
 refine .q hs (vi rfl rfl aj ⟨aj,aj⟩) ?_
 refine .z zg (.nil (.seq (.af (.z zm (.z zm (.z A2 (.z gp (.nil ?_))))))))
 refine (.ck rfl (fun hc12=>?_) (fun hc12=>?_))
 ·refine .region (.z zm (.z hZ (.z zg (.nil ?_))))
  refine nT ?_
  refine .af (.z zm (.z zg (.nil ?_)))
  refine .ret (Fin.bI Tryz.results78 rfl ?_)
  rw [if_pos hc12] at hfl
  exact ⟨by rw [hfl],hs⟩
 ·refine .skip ?_
  refine nT ?_
  refine .af (.z zm (.z zg (.nil ?_)))
  refine .ret (Fin.bI Tryz.results78 rfl ?_)
  rw [if_neg hc12,Int.sub_zero] at hfl
  exact ⟨by rw [hfl],hs⟩
theorem aI{n m:Int}(hs:St H w σ)(hm:1≤m∧m≤4611686018427387904):
  Cl Tryz.prog 31 [I n,I m] w fun u w'=>∃k:Nat,(k:Int)<m∧u=I (k:Int)∧St H w' σ:=by
 have h1:=Int.tmod_lt_of_pos n (show 0<m by omega)
 have h2:=Int.lt_tmod_of_pos n (show 0<m by omega)
 have h3:=Int.tmod_lt_of_pos (n.tmod m+m) (show 0<m by omega)
 have h4:=Int.tmod_nonneg m (show 0≤n.tmod m+m by omega)
 refine Cl.o Tryz.func31 Tryz.ntmps31 ag2 ?_
 refine .af (.z zg (.nil (.af (.z zm (.z zm (.z A2 (.z zm (.z cC (.z zm ?_)))))))))
 refine .z A2 (.z zg (.nil ?_))
 refine .ret (Fin.bI Tryz.results31 rfl ?_)
 exact ⟨((n.tmod m+m).tmod m).toNat,aj,by rw [show (((n.tmod m+m).tmod m).toNat:Int)=(n.tmod m+m).tmod m by omega],hs⟩
theorem cN{v:Value}{l:List Int}{i n:Int}(hs:St H w σ)(hr:RI H v l)(hi:0≤i)(hn:1≤n∧n≤4611686018427387904):
  Cl Tryz.prog 100 [v,I i,I n] w fun u w'=>∃k:Nat,(k:Int)<n∧u=I (k:Int)∧St H w' σ:=by
 obtain ⟨a,c,rfl⟩:=RI.shape hr
 refine Cl.o Tryz.func100 Tryz.ntmps100 ag3 ?_
 refine .af (.z zg (.nil (.seq (.af (.z zm (.z (c9 ad) (.z ir (.nil ?_))))))))
 refine (.ck rfl (fun hc9=>?_) (fun hc9=>?_))
 ·refine .af (.z zg (.nil ?_))
  refine .ret (rT (Fin.bI Tryz.results100 rfl ?_))
  exact ⟨0,aj,rfl,hs⟩
 ·refine .skip ?_
  refine nT ?_
  refine .af (.z zm (.z zm (.z zm (.z (c9 ad) (.z A2 ?_)))))
  have g1:=Int.tmod_lt_of_pos i (show 0<(l.length:Int) by omega)
  have g2:=Int.tmod_nonneg (l.length:Int) hi
  refine .ixY hs hr rfl rfl ad ai (bJ (l:=l) (i:=(i.tmod l.length).toNat) aj) aj ?_;intro b15 o15 hc15
  refine .q hs (bh rfl ae hc15) ?_
  refine .z zm ?_
  refine .o (.call aU rfl (aI hs hn) ?_);rintro _ w ⟨k,hk,rfl,hs⟩
  refine .z zg (.nil ?_)
  refine .ret (Fin.bI Tryz.results100 rfl ?_)
  exact ⟨k,hk,rfl,hs⟩
theorem rG{v vp:Value}{s:cq}{iJ:List Int}(hs:St H w σ)(hr:RSy H v s)(hp:RI H vp iJ)(hgood:s.Ok∧s.Sound):
  Cl Tryz.prog 212 [v,vp] w fun u w'=>∃H1 vx x en,HLe H H1∧u= .tuple #[vx,I 0]∧bS 1 vx (Is x) en∧tt s iJ x∧St H1 w' (en::σ):=by
 obtain ⟨ul,rfl,hl⟩:=hr
 obtain ⟨al,cl,rfl⟩:=RL.shape hl
 obtain ⟨ap,cp,rfl⟩:=RI.shape hp
 refine Cl.o Tryz.func212 Tryz.ntmps212 ag2 ?_
 refine .af ?_
 refine .bx hs fun b2 w hs=>?_
 refine .z zg (.z zg (.nil (.af (.y hs (zls [_,_] a8 aC) ?_))))
 refine .o (.call Tryz.call210 rfl (k9 (s:=s) hs ⟨_,rfl,hl⟩) ?_);rintro _ w ⟨H1,vt,e,hle1,rfl,hcase,hs⟩
 refine .z zm (.z zex (.z zex (.z zg (.z zg (.nil (.seq (.af (.z zm (.z fM ?_)))))))))
 refine .nil ?_
 refine (.eD rfl (fun hc20=>?_) (fun hc20=>?_))
 ·refine .af (.z zm (.z zg (.z zg (.nil ?_))))
  refine .ret (rT (Fin.kK Tryz.results212 rfl rfl ?_))
  rcases hcase with ⟨h1,rfl,rfl⟩|⟨h1,h2,rfl,rfl⟩|⟨_,_,rfl,_⟩
  ·exact (h1 (s.bL.2 hgood.1)).elim
  ·exact (h2 hgood.2).elim
  ·exact (hc20 rfl).elim
 ·refine .skip ?_
  refine nT ?_
  refine .af ?_
  subst hc20
  obtain ⟨hok,hsd,rs,hRT,hSq,hWT⟩:s.Ok∧s.Sound∧∃rs,RT H1 vt rs∧Sq s.n rs∧jF s.n s.cK (gt rs):=by
   rcases hcase with ⟨h1,h2,_⟩|⟨_,_,h2,_⟩|⟨h1,h2,_,h3⟩
   ·exact (h1 h2.symm).elim
   ·omega
   ·exact ⟨h1,h2,h3⟩
  obtain ⟨at',ct,rfl⟩:=hRT.shape
  have hTS:=hok.ES hsd hWT
  have hrl:=hSq.1
  have hm0:=hok.m0
  have hm1:=hok.m1
  have hnn:(s.n:Int)=s.many+1:=by simp only [cq.n];omega
  refine .o (.buildSlice (cells:=[_]) hs bY rfl rfl fun b22 w hs=>?_)
  refine .z zg (.nil (.seq (.af (.z zg (.nil (.block ?_))))))
  refine .loop (fun p:List Int×Value=>⟨109,[],[(9,I (p.1.length:Int)),(8,p.2),(6,.slice at' rs.length ct),(2,.pointer (some ⟨b2,0,none⟩)),(1,.slice ap iJ.length cp)]⟩)
   (fun p w=>DP (gt rs) (oG iJ) p.1∧p.1.length≤s.n∧∃en,bS 1 p.2 (Is p.1) en∧St H1 w (en:: .blk b2 [I s.many,.slice al s.bV.length cl]::σ))
   (fun p=>s.n - p.1.length) ([0],.slice (some ⟨b22,0,none⟩) 1 1) bD
   ⟨.start,s.Ac,_,.full (len:=1) rfl,hs⟩ ?_
  rintro ⟨X,v8⟩ w ⟨hP,hXn,en,hO,hs⟩
  dsimp only at hP hXn hO ⊢
  have hI:=hP.inv (fun i n hn=>tG iJ i hn) hTS hXn
  have hX0:=hI.l0
  have hO1:=hO
  obtain ⟨b,cap,sp,rfl,rfl,hcap⟩:=hO.some hX0
  refine .seq (.af (.z zm (.z (zfa bB) (.y hs (zld ae) (.z wv (.nil ?_))))))
  refine (.ck rfl (fun hc26=>?_) (fun hc26=>?_))
  ·refine .skip ?_
   refine nT ?_
   refine .seq (.block (.af (.z zg (.nil ?_))))
   have hXl:X.length<s.n:=by omega
   refine .af (.z zg (.nil (.seq (.af (.z zm (.z (c9 ad) (.z zm (.nil ?_))))))))
   refine .for (N:=X.length) (J:=fun k fr w=>∃lo hi,fr=[(10,I lo),(11,I hi),(9,I (X.length:Int)),(8,.slice (some ⟨b,0,none⟩) X.length cap),(6,.slice at' rs.length ct),(2,.pointer (some ⟨b2,0,none⟩)),(1,.slice ap iJ.length cp)]∧LoI (gt rs) X X.length k lo∧HiI (gt rs) X X.length k hi∧St H1 w (.blk b (Is X++sp):: .blk b2 [I s.many,.slice al s.bV.length cl]::σ)) aj ?_ ?_ ?_
   ·exact .mk ⟨_,_,rfl,.start _ _ _,.start _ _ _,hs⟩
   ·rintro k fr w hk ⟨lo,hi,rfl,hLo,hHi,hs⟩
    have hXk:=hI.bd k hk
    have hr1:(gr rs X.length).length=s.n:=hSq.2 _ hXl
    have hr2:(gr rs k).length=s.n:=hSq.2 _ aj
    have hb1:gi (gr rs X.length) k≠1000000000→-1400000≤gi (gr rs X.length) k∧gi (gr rs X.length) k≤1400000:=fun h=>hTS.bd X.length k hXl aj h
    have hb2:gi (gr rs k) X.length≠1000000000→-1400000≤gi (gr rs k) X.length∧gi (gr rs k) X.length≤1400000:=fun h=>hTS.bd k X.length aj hXl h
    refine .block (.af (.z zm (.z zg (.nil ?_))))
    refine .cut (fun fs w=>∃lo',mE fs ⟨109,[],[(10,I lo'),(12,I (k:Int)),(31,I (k:Int)),(30,I (X.length:Int)),(11,I hi),(9,I (X.length:Int)),(8,.slice (some ⟨b,0,none⟩) X.length cap),(6,.slice at' rs.length ct),(2,.pointer (some ⟨b2,0,none⟩)),(1,.slice ap iJ.length cp)]⟩∧LoI (gt rs) X X.length (k+1) lo'∧St H1 w (.blk b (Is X++sp):: .blk b2 [I s.many,.slice al s.bV.length cl]::σ)) ?_ ?_
    ·refine .af (.z zm (.z zm ?_))
     refine .ixT hs hRT rfl rfl aA aB (show X.length<rs.length by omega) rfl ?_;intro b36 o36 a36 c36 hc36 hR36
     refine .q hs (bh rfl ak hc36) ?_
     refine .z zm ?_
     refine .ixY hs hR36 rfl rfl ad ai (bJ (l:=gr rs X.length) (i:=k) aj) rfl ?_;intro b39 o39 hc39
     refine .q hs (bh rfl ae hc39) ?_
     refine .z fM (.nil ?_)
     refine (.eD rfl (fun hc41=>?_) (fun hc41=>?_))
     ·refine .draw mix rfl hs fun w hs=>?_
      refine .z 0 rfl zm ?_;refine .z 1 rfl zm ?_;refine .z 2 rfl zm ?_;refine .z 3 rfl (zix ad ai) ?_
      refine .load (i:=4) hs rfl au .none rfl ae ?_ (hv:=eQ hk sp)
      refine .z 5 rfl zm ?_;refine .z 6 rfl zm ?_
      refine .ixT (i:=7) hs rfl au .none hRT rfl rfl aA aB (show X.length<rs.length by omega) rfl ?_;intro b49 o49 a49 c49 hc49 hR49
      refine .r (i:=8) hs rfl au .none (bh rfl ak hc49) ?_
      refine .z 9 rfl zm ?_
      refine .ixX (enc:=fun x=>[I x]) (i:=10) hs rfl au .none hR49 rfl rfl ad ai (bJ (l:=gr rs X.length) (i:=k) aj) rfl ?_;intro b52 o52 hc52;replace hc52:=bQ.one hc52
      refine .r (i:=11) hs rfl au .none (bh rfl ae hc52) ?_
      refine .z 12 rfl hZ ?_;refine .z 13 rfl Cs ?_;refine .z 14 rfl zg ?_;refine .D hs ?_
      refine nT ?_
      exact ⟨_,bD,hLo.put hc41 (by have:=hb1 hc41;have:=hXk;have:=hTS.n65;show -1000000000≤gi X k - gi (gr rs X.length) k;omega),hs⟩
     ·refine .skip ?_
      refine nT ?_
      exact ⟨_,bD,hLo.skip hc41,hs⟩
    ·rintro fs w ⟨lo',hfs,hLo',hs⟩
     refine WE.sub ?_ hfs
     refine .af (.z zm (.z zm ?_))
     refine .ixT hs hRT rfl rfl aA aB (show k<rs.length by omega) rfl ?_;intro b58 o58 a58 c58 hc58 hR58
     refine .q hs (bh rfl ak hc58) ?_
     refine .z zm ?_
     refine .ixY hs hR58 rfl rfl ad ai (bJ (l:=gr rs k) (i:=X.length) aj) rfl ?_;intro b61 o61 hc61
     refine .q hs (bh rfl ae hc61) ?_
     refine .z fM (.nil ?_)
     refine (.eD rfl (fun hc63=>?_) (fun hc63=>?_))
     ·refine .draw mix rfl hs fun w hs=>?_
      refine .z 0 rfl zm ?_;refine .z 1 rfl zm ?_;refine .z 2 rfl zm ?_;refine .z 3 rfl (zix ad ai) ?_
      refine .load (i:=4) hs rfl au .none rfl ae ?_ (hv:=eQ hk sp)
      refine .z 5 rfl zm ?_;refine .z 6 rfl zm ?_
      refine .ixT (i:=7) hs rfl au .none hRT rfl rfl aA aB (show k<rs.length by omega) rfl ?_;intro b71 o71 a71 c71 hc71 hR71
      refine .r (i:=8) hs rfl au .none (bh rfl ak hc71) ?_
      refine .z 9 rfl zm ?_
      refine .ixX (enc:=fun x=>[I x]) (i:=10) hs rfl au .none hR71 rfl rfl ad ai (bJ (l:=gr rs k) (i:=X.length) aj) rfl ?_;intro b74 o74 hc74;replace hc74:=bQ.one hc74
      refine .r (i:=11) hs rfl au .none (bh rfl ae hc74) ?_
      refine .z 12 rfl cC ?_;refine .z 13 rfl A3 ?_;refine .z 14 rfl zg ?_;refine .D hs ?_
      refine nB (nT ?_)
      exact .mk ⟨lo',_,rfl,hLo',hHi.put hc63 (by have:=hb2 hc63;have:=hXk;have:=hTS.n65;show gi X k+gi (gr rs k) X.length≤1000000000;omega),hs⟩
     ·refine .skip ?_
      refine nB (nT ?_)
      exact .mk ⟨lo',_,rfl,hLo',hHi.skip hc63,hs⟩
   ·rintro fr w ⟨lo,hi,rfl,hLo,hHi,hs⟩
    have hlb:=hLo.bd hI hTS hXl (Nat.le_refl _)
    have hhb:=hHi.bd hI hTS hXl (Nat.le_refl _)
    have hle:=hI.le hTS hXl rfl hLo hHi
    simp only [free] at hlb hhb hle
    have hpk:=tG iJ ((X.length:Int) - 1) (n:=hi - lo+1)
    refine nT ?_
    refine .af (.z zg (.nil ?_))
    refine .cut (fun fs w=>mE fs ⟨109,[],[(13,I (iZ lo hi (oG iJ ((X.length:Int) - 1) (hi - lo+1)))),(9,I (X.length:Int)),(8,.slice (some ⟨b,0,none⟩) X.length cap),(6,.slice at' rs.length ct),(2,.pointer (some ⟨b2,0,none⟩)),(1,.slice ap iJ.length cp)]⟩∧St H1 w (.blk b (Is X++sp):: .blk b2 [I s.many,.slice al s.bV.length cl]::σ)) ?_ ?_
    ·refine .block (.af (.z zm (.z fM (.z zm ?_))))
     refine .yU (t':=82) rfl (fun hb82=>?_) (fun hb82=>?_)
     ·refine .gT rfl rfl ?_
      refine .z zm ?_
      refine .gT rfl rfl ?_
      refine .z fM (.z zpT (.z zg (.nil ?_)))
      refine (.eD rfl (fun hc79=>?_) (fun hc79=>?_))
      ·refine .region (.z zm (.z zm (.z zm (.z hZ (.z zm (.z zm (.z hZ (.z cC ?_))))))))
       refine .o (.call Tryz.call264 rfl (rH hs (hp.mono hle1) aj aj) ?_);rintro _ w ⟨rfl,hs⟩
       have hq1:hi≠1000000000:=by simpa using hc79
       have hq2:=hle (by simpa using hb82) hq1
       have hq3:=hpk aj
       refine .z cC (.z zg (.nil ?_))
       refine nB (nT ?_)
       refine ⟨.de rfl ?_ bD,hs⟩
       unfold iZ
       simp only [free] at*
       split<;>(try split)<;>first|rfl|omega|(simp_all;done)|(exfalso;simp_all;omega)
      ·refine .af (.z zm (.z fM (.z zg (.nil ?_))))
       refine (.eD rfl (fun hc96=>?_) (fun hc96=>?_))
       ·refine .region (.z zm (.z zg (.nil ?_)))
        refine nB (nT ?_)
        refine ⟨.de rfl ?_ bD,hs⟩
        unfold iZ
        simp only [free] at*
        split<;>(try split)<;>first|rfl|omega|(simp_all;done)|(exfalso;simp_all;omega)
       ·refine .af (.z zm (.z fM (.z zg (.nil ?_))))
        refine (.eD rfl (fun hc100=>?_) (fun hc100=>?_))
        ·refine .region (.z zm (.z zg (.nil ?_)))
         refine nB (nT ?_)
         refine ⟨.de rfl ?_ bD,hs⟩
         unfold iZ
         simp only [free] at*
         split<;>(try split)<;>first|rfl|omega|(simp_all;done)|(exfalso;simp_all;omega)
        ·refine .skip ?_
         refine nB (nT ?_)
         refine ⟨.de rfl ?_ bD,hs⟩
         unfold iZ
         simp only [free] at*
         split<;>(try split)<;>first|rfl|omega|(simp_all;done)|(exfalso;simp_all;omega)
     ·refine .gFs 2 2 true rfl rfl rfl ?_
      refine .z zpF (.z zg (.nil ?_))
      refine (.cF ?_)
      refine .af (.z zm (.z fM (.z zg (.nil ?_))))
      refine (.eD rfl (fun hc96=>?_) (fun hc96=>?_))
      ·refine .region (.z zm (.z zg (.nil ?_)))
       refine nB (nT ?_)
       refine ⟨.de rfl ?_ bD,hs⟩
       unfold iZ
       simp only [free] at*
       split<;>(try split)<;>first|rfl|omega|(simp_all;done)|(exfalso;simp_all;omega)
      ·refine .af (.z zm (.z fM (.z zg (.nil ?_))))
       refine (.eD rfl (fun hc100=>?_) (fun hc100=>?_))
       ·refine .region (.z zm (.z zg (.nil ?_)))
        refine nB (nT ?_)
        refine ⟨.de rfl ?_ bD,hs⟩
        unfold iZ
        simp only [free] at*
        split<;>(try split)<;>first|rfl|omega|(simp_all;done)|(exfalso;simp_all;omega)
       ·refine .skip ?_
        refine nB (nT ?_)
        refine ⟨.de rfl ?_ bD,hs⟩
        unfold iZ
        simp only [free] at*
        split<;>(try split)<;>first|rfl|omega|(simp_all;done)|(exfalso;simp_all;omega)
    ·rintro fs w ⟨hfs,hs⟩
     refine WE.sub ?_ hfs
     refine .region (.z zm (.z zm ?_))
     refine .o (.buildSlice (cells:=[_]) hs bY rfl rfl fun b106 w hs=>?_)
     refine .o (.append (ys:=Is [iZ lo hi (oG iJ ((X.length:Int) - 1) (hi - lo+1))]) hs bN rfl rfl hO1 (.own .here rfl rfl) (fH _) (fun l' h=>by simp at h;have:=hTS.n65;omega) ?_);intro v107 en107 w hO2 hs
     rw [←List.map_append] at hO2
     refine .z zg (.nil ?_)
     refine nB (nT ?_)
     refine .region (.z zm (.z cC (.z zg (.nil ?_))))
     refine nT ?_
     exact ⟨(X++[iZ lo hi (oG iJ ((X.length:Int) - 1) (hi - lo+1))],v107),.de rfl cm bD,⟨hP.snoc hLo hHi,by simp;omega,_,hO2,hs.sb⟩,by simp;omega⟩
  ·refine .exit ?_
   refine xT (xT (xB (nT ?_)))
   refine .af (.z zm (.z zg (.z zg (.nil ?_))))
   refine .ret (Fin.kK Tryz.results212 rfl rfl ?_)
   exact ⟨H1,_,X,_,hle1,rfl,hO1,⟨gt rs,hWT,hP,aj⟩,hs.sb⟩
theorem lY{s:Srv}{vst vwa vr vc:Value}(hs:St H w σ)(h1:RI H vst s.sp.st)(h2:RI H vwa s.sp.wa)(h3:RRd H vr s.rs)(h4:RCm H vc s.cs)(he:s.early):
  Cl Tryz.prog 211 [.agg #[I s.sp.id,I s.sp.src,vst,vwa,I s.sp.al,I s.sp.up,vr,vc]] w fun u w'=>∃H1,HLe H H1∧RSy H1 u s.mR∧St H1 w' σ:=by
 obtain ⟨ar,cr,rfl⟩:=RRd.shape h3
 have hfl:=xQ s
 have hrl:=he.2.1
 refine Cl.o Tryz.func211 Tryz.ntmps211 ag1 ?_
 refine .af ?_
 refine .bx hs fun b1 w hs=>?_
 refine .o (.alloc hs cu rfl fun b2 w hs=>?_)
 refine .nil (.af (.y hs (zls [_,_,_,_,_,_,_,_] aq an) ?_))
 refine .o (.call Tryz.call95 rfl (pQ (s:=s) hs h1 h2 h3 h4 he) ?_);rintro _ w ⟨H1,hle1,⟨ul,rfl,hL⟩,hs⟩
 have hL:RL H1 ul s.bV:=hL
 obtain ⟨al,cl,rfl⟩:=RL.shape hL
 have hln:=RS.len hL
 rw [List.length_map] at hln
 refine .o (.alloc hs cu rfl fun b3 w hs=>?_)
 refine .o (.aO (vs:=[_,_]) hs rfl rfl aC fun w hs=>?_)
 refine .nil (.af (.z (zfa bF) (.y hs (zld cA) (.z (zfa bF) (.y hs (zld cA) (.z (c9 aN) (.z (zfa aZ) (.y hs (zld bZ) (.z (c9 aF) ?_)))))))))
 refine .z kG (.z hZ ?_)
 refine .q hs (oE (k:=s.mc.length) rfl rfl aN bj aj aj) ?_
 have hT:=RS.head hL (k:=s.mc.length) aj
 rw [←List.map_take,vJ] at hT
 refine .z (zfa bF) ?_
 refine .o (.store hs rfl rfl k7 fun w hs=>?_)
 refine .nil (.af (.y hs (zls [_,_] a8 aC) ?_))
 refine .o (.aO (vs:=[_,_]) hs rfl rfl aC fun w hs=>?_)
 refine .nil ?_
 refine .ret ?_
 exact Fin.gI [] [] hs fun w hs=>⟨_,results1 Tryz.results211 (di (vs:=[_,_]) hs rfl a8 aC),H1,hle1,⟨_,rfl,hT⟩,hs.out⟩
theorem rD{s:Srv}{vst vwa vr vc:Value}(hs:St H w σ)(h1:RI H vst s.sp.st)(h2:RI H vwa s.sp.wa)(h3:RRd H vr s.rs)(h4:RCm H vc s.cs)(he:s.early)(hok:s.mR.Ok):
  Cl Tryz.prog 142 [.agg #[I s.sp.id,I s.sp.src,vst,vwa,I s.sp.al,I s.sp.up,vr,vc]] w fun u w'=>∃H1,∃b:Bool,HLe H H1∧u= .bool b∧(b=false→s.mR.Sound)∧St H1 w' σ:=by
 refine Cl.o Tryz.func142 Tryz.ntmps142 ag1 ?_
 refine .af ?_
 refine .bx hs fun b1 w hs=>?_
 refine .z zg (.nil (.af (.y hs (zls [_,_,_,_,_,_,_,_] aq an) ?_)))
 refine .o (.call Tryz.call211 rfl (lY (s:=s) hs h1 h2 h3 h4 he) ?_);rintro _ w ⟨H1,hle1,hS,hs⟩
 refine .o (.call Tryz.call210 rfl (k9 (s:=s.mR) hs hS) ?_);rintro _ w ⟨H2,vt,e,hle2,rfl,hcase,hs⟩
 refine .z zm (.z zex (.z zex (.z zg (.z zg (.nil (.af (.z zm (.z fM (.z zg ?_)))))))))
 refine .nil ?_
 refine .ret (Fin.bI Tryz.results142 rfl ?_)
 exact ⟨H2,_,hle1.trans hle2,rfl,fun h=>by
  rcases hcase with ⟨k1,_,_⟩|⟨_,_,k3,_⟩|⟨_,k2,_,_⟩
  ·exact (k1 (s.mR.bL.2 hok)).elim
  ·subst k3;simp at h
  ·exact k2,hs.out⟩
theorem rC{s:Srv}{vst vwa vr vc vp:Value}{iJ:List Int}(hs:St H w σ)(h1:RI H vst s.sp.st)(h2:RI H vwa s.sp.wa)(h3:RRd H vr s.rs)(h4:RCm H vc s.cs)(hp:RI H vp iJ)(he:s.early)(hok:s.mR.Ok∧s.mR.Sound):
  Cl Tryz.prog 143 [.agg #[I s.sp.id,I s.sp.src,vst,vwa,I s.sp.al,I s.sp.up,vr,vc],vp] w fun u w'=>∃H1 x en,HLe H H1∧bS 1 u (Is x) en∧tt s.mR iJ x∧St H1 w' (en::σ):=by
 obtain ⟨ap,cp,rfl⟩:=RI.shape hp
 refine Cl.o Tryz.func143 Tryz.ntmps143 ag2 ?_
 refine .af ?_
 refine .bx hs fun b2 w hs=>?_
 refine .z zg (.nil (.af (.y hs (zls [_,_,_,_,_,_,_,_] aq an) ?_)))
 refine .o (.call Tryz.call211 rfl (lY (s:=s) hs h1 h2 h3 h4 he) ?_);rintro _ w ⟨H1,hle1,hS,hs⟩
 refine .z zm ?_
 refine .o (.call Tryz.call212 rfl (rG (s:=s.mR) hs hS (hp.mono hle1) hok) ?_);rintro _ w ⟨H2,vx,x,en,hle2,rfl,hO,hP,hs⟩
 refine .z zm (.z zex (.z zex (.z zg (.z zg (.nil (.af (.z zm (.z zg (.nil ?_)))))))))
 refine .ret (Fin.bI Tryz.results143 rfl ?_)
 exact ⟨H2,x,en,hle1.trans hle2,hO,hP,hs.sb⟩
set_option maxHeartbeats 1000000 in
theorem jx{s:Spc}{vst vwa:Value}{a b c:Int}(hs:St H w σ)(h1:RI H vst s.st)(h2:RI H vwa s.wa)(hk:ez s):
  Cl Tryz.prog 25 [.agg #[I s.id,I s.src,vst,vwa,I s.al,I s.up],.agg #[I a,I b,I c]] w fun u w'=>∃q:Wht,u= .agg #[I q.kind,I q.st,I q.wa]∧eX s q∧St H w' σ:=by
 obtain ⟨ast,cst,rfl⟩:=RI.shape h1
 obtain ⟨awa,cwa,rfl⟩:=RI.shape h2
 have hl1:=hk.st.two
 have hl2:=hk.wa.two
 have hl3:=hk.st.many
 have hl4:=hk.wa.many
 refine Cl.o Tryz.func25 Tryz.ntmps25 ag2 ?_
 refine .af ?_
 refine .bx hs fun b2 w hs=>?_
 refine .bx hs fun b3 w hs=>?_
 refine .o (.alloc hs xi rfl fun b4 w hs=>?_)
 refine .nil (.af ?_)
 refine .z (zia 0 Tryz.runUnderlying25 ai) ?_
 refine .y hs (zld ae) ?_
 refine .o (.call aU rfl (aI hs aj) ?_);rintro _ w ⟨k,hk4,rfl,hs⟩
 refine .z cC (.z (zbd [_,_,_] mm) ?_)
 refine .o (.alloc hs xi rfl fun b5 w hs=>?_)
 refine .o (.aO (vs:=[_,_,_]) hs rfl rfl bw fun w hs=>?_)
 refine .nil (.af ?_)
 refine .z (zia 1 Tryz.runUnderlying25 ai) ?_
 refine .y hs (zld ae) (.z (zfa bu) (.y hs (zld ak) (.z (c9 ad) ?_)))
 refine .o (.call aU rfl (aI hs aj) ?_);rintro _ w ⟨i,hi,rfl,hs⟩
 refine .z zg (.nil (.af ?_))
 refine .z (zia 2 Tryz.runUnderlying25 ai) ?_
 refine .y hs (zld ae) (.z (zfa bn) (.y hs (zld ak) (.z (c9 ad) ?_)))
 refine .o (.call aU rfl (aI hs aj) ?_);rintro _ w ⟨j,hj,rfl,hs⟩
 refine .z zg (.nil (.seq (.af (.z (zfa oZ) (.y hs (zld ae) (.nil (.block (.af (.z ir ?_)))))))))
 refine .z zg (.nil ?_)
 refine (.ck rfl (fun hc27=>?_) (fun hc27=>?_))
 ·refine .region (.z zm (.z Cs (.z (zfa dO) ?_)))
  refine .o (.store hs rfl rfl ai fun w hs=>?_)
  refine .nil ?_
  refine nB (nT ?_)
  refine .af (.y hs (zls [_,_,_] cj bw) ?_)
  refine .o (.aO (vs:=[_,_,_]) hs rfl rfl bw fun w hs=>?_)
  refine .nil ?_
  refine .ret ?_
  exact Fin.gI [] [] hs fun w hs=>⟨_,results1 Tryz.results25 (di (vs:=[_,_,_]) hs rfl cj bw),⟨1+(k:Int),0,max 1 (j:Int)⟩,rfl,.litres (by show (1:Int)+k=1;omega) rfl ⟨by dsimp only;omega,by dsimp only;omega⟩ (by dsimp only;omega),hs.out⟩
 ·refine .af (.z ir (.z zg (.nil ?_)))
  refine (.ck rfl (fun hc32=>?_) (fun hc32=>?_))
  ·refine .region (.z zm (.z (zfa dO) ?_))
   refine .o (.store hs rfl rfl ai fun w hs=>?_)
   refine .nil ?_
   refine nB (nT ?_)
   refine .af (.y hs (zls [_,_,_] cj bw) ?_)
   refine .o (.aO (vs:=[_,_,_]) hs rfl rfl bw fun w hs=>?_)
   refine .nil ?_
   refine .ret ?_
   exact Fin.gI [] [] hs fun w hs=>⟨_,results1 Tryz.results25 (di (vs:=[_,_,_]) hs rfl cj bw),⟨1+(k:Int),0,(j:Int)⟩,rfl,.plane (by show (1:Int)+k=2;omega) rfl ⟨by dsimp only;omega,by dsimp only;omega⟩,hs.out⟩
  ·refine .af (.z ir (.z zg (.nil ?_)))
   refine (.ck rfl (fun hc36=>?_) (fun hc36=>?_))
   ·refine .region (.z zm (.z (zfa ft) ?_))
    refine .o (.store hs rfl rfl ai fun w hs=>?_)
    refine .nil ?_
    refine nB (nT ?_)
    refine .af (.y hs (zls [_,_,_] cj bw) ?_)
    refine .o (.aO (vs:=[_,_,_]) hs rfl rfl bw fun w hs=>?_)
    refine .nil ?_
    refine .ret ?_
    exact Fin.gI [] [] hs fun w hs=>⟨_,results1 Tryz.results25 (di (vs:=[_,_,_]) hs rfl cj bw),⟨1+(k:Int),(i:Int),0⟩,rfl,.section_ (by show (1:Int)+k=3;omega) rfl ⟨by dsimp only;omega,by dsimp only;omega⟩,hs.out⟩
   ·refine .af (.z ir (.z zg (.nil ?_)))
    refine (.ck rfl (fun hc40=>?_) (fun hc40=>?_))
    ·refine .af (.z zm (.z (zfa ft) ?_))
     refine .o (.store hs rfl rfl ai fun w hs=>?_)
     refine .nil (.region (.z zm (.z (zfa dO) ?_)))
     refine .o (.store hs rfl rfl ai fun w hs=>?_)
     refine .nil ?_
     refine nB (nT ?_)
     refine .af (.y hs (zls [_,_,_] cj bw) ?_)
     refine .o (.aO (vs:=[_,_,_]) hs rfl rfl bw fun w hs=>?_)
     refine .nil ?_
     refine .ret ?_
     exact Fin.gI [] [] hs fun w hs=>⟨_,results1 Tryz.results25 (di (vs:=[_,_,_]) hs rfl cj bw),⟨1+(k:Int),(i:Int),(j:Int)⟩,rfl,.offset (by show (1:Int)+k=4;omega) ⟨by dsimp only;omega,by dsimp only;omega⟩ ⟨by dsimp only;omega,by dsimp only;omega⟩,hs.out⟩
    ·refine .skip ?_
     refine nB (nT ?_)
     refine .af (.y hs (zls [_,_,_] cj bw) ?_)
     refine .o (.aO (vs:=[_,_,_]) hs rfl rfl bw fun w hs=>?_)
     refine .nil ?_
     refine .ret ?_
     omega
structure Grow(d D:Int)(L:List Int)(x:Int):Prop where
 low:d≤x
 high:x≤d+D*L.length
 all:∀i<L.length,d≤gi L i∧gi L i<x
 rise:∀i,i+1<L.length→gi L i<gi L (i+1)
theorem Grow.start(d D:Int):Grow d D [] d:=⟨aj,cm,fun i h=>by simp at h,fun i h=>by simp at h⟩
theorem Grow.snoc{d D x y:Int}{L:List Int}(h:Grow d D L x)(h1:x<y)(h2:y≤x+D):Grow d D (L++[x]) y:=by
 obtain ⟨g1,g2,g3,g4⟩:=h
 refine ⟨aj,?_,fun i hi=>?_,fun i hi=>?_⟩
 ·rw [List.length_append,List.length_singleton,Int.natCast_add,Int.mul_add];omega
 ·rw [List.length_append,List.length_singleton] at hi
  rw [tX]
  split
  ·have:=g3 i ef;omega
  ·rw [if_pos aj];omega
 ·rw [List.length_append,List.length_singleton] at hi
  rw [tX,tX,if_pos aj]
  split
  ·exact g4 i ef
  ·rw [if_pos aj];exact (g3 i aj).2
theorem Grow.plc{d D x most:Int}{many:Nat}{L:List Int}(h:Grow d D L x)(hd:0≤d)(h2:2≤L.length)(hm:L.length≤many)(hx:d+D*L.length≤most):fZ many most L:=
 ⟨h2,hm,by have:=(h.all 0 aj).1;omega,by have:=(h.all (L.length - 1) aj).2;have:=h.high;omega,h.rise⟩
structure EO(s:Spc):Prop where
 ok:ez s
 st:s.st.length≤4
 wa:s.wa.length≤3
set_option maxHeartbeats 1000000 in
theorem nC{v:Value}{l:List Int}(hs:St H w σ)(hr:RI H v l):
  Cl Tryz.prog 35 [v] w fun u w'=>∃s vst vwa e1 e2,u= .agg #[I s.id,I s.src,vst,vwa,I s.al,I s.up]∧EO s∧bS 1 vst (Is s.st) e1∧bS 1 vwa (Is s.wa) e2∧St H w' (e1::e2::σ):=by
 obtain ⟨av,cv,rfl⟩:=RI.shape hr
 refine Cl.o Tryz.func35 Tryz.ntmps35 ag1 ?_
 refine .af ?_
 refine .o (.alloc hs im rfl fun b2 w hs=>?_)
 refine .nil (.af (.z zm ?_))
 refine .o (.call fc rfl (cN hs hr aj aj) ?_);rintro _ w ⟨k11,g11,rfl,hs⟩
 refine .z cC (.z zm ?_)
 refine .o (.call fc rfl (cN hs hr aj aj) ?_);rintro _ w ⟨k14,g14,rfl,hs⟩
 refine .z cC (.z (zbd [_,_,_,_,_,_] pw) ?_)
 refine .o (.alloc hs im rfl fun b3 w hs=>?_)
 refine .o (.aO (vs:=[_,_,_,_,_,_]) hs rfl rfl aE fun w hs=>?_)
 refine .nil (.af (.z zm ?_))
 refine .o (.call fc rfl (cN hs hr aj aj) ?_);rintro _ w ⟨k18,g18,rfl,hs⟩
 refine .z cC (.z kG (.z zg (.nil (.af (.z zg (.nil (.seq (.af (.z zg ?_)))))))))
 refine .nil (.block ?_)
 refine .loop (fun p:List Int×Int×Value=>⟨90,[],[(6,I (p.1.length:Int)),(5,I p.2.1),(4,I (100*(1+(k18:Int)))),(0,.slice av l.length cv),(3,.pointer (some ⟨b3,0,none⟩)),(2,.pointer (some ⟨b2,0,none⟩))]⟩)
  (fun p w=>p.1.length≤4∧Grow 0 2707 p.1 p.2.1∧∃en,bS 1 p.2.2 (Is p.1) en∧St H w (en:: .blk b3 [I (1+(k11:Int)),I (1+(k14:Int)),p.2.2,.slice none 0 0,I 0,I 0]:: .blk b2 [I 0,I 0,.slice none 0 0,.slice none 0 0,I 0,I 0]::σ)) (fun p=>4 - p.1.length) ([],0,.slice none 0 0) bD
  ⟨cm,.start _ _,_,.nil 1 none,hs.nul⟩ ?_
 clear hs
 rintro ⟨L,x,vo⟩ w ⟨hL4,hG,en,hO,hs⟩
 dsimp only at hL4 hG hO hs ⊢
 obtain ⟨ao,lo,co,rfl,-⟩:=hO.shape
 have hx0:=hG.low
 have hx1:=hG.high
 refine .seq (.af (.z zm (.z zm ?_)))
 refine .o (.call fc rfl (cN hs hr aj aj) ?_);rintro _ w ⟨k23,g23,rfl,hs⟩
 refine .z cC (.z gp (.nil ?_))
 refine (.ck rfl (fun hc25=>?_) (fun hc25=>?_))
 ·refine .skip ?_
  refine nT ?_
  refine .seq (.block (.af (.z (zfa bu) (.y hs (zld ak) (.z zm ?_)))))
  refine .o (.buildSlice (cells:=[_]) hs bY rfl rfl fun b31 w hs=>?_)
  refine .o (.append (ys:=Is [x]) hs bN rfl rfl hO (.own .here rfl rfl) (fH _) (fun l' h=>by simp at h;omega) ?_);intro v32 en32 w hO2 hs
  rw [←List.map_append] at hO2
  obtain ⟨a32,l32,c32,rfl,-⟩:=hO2.shape
  refine .z (zfa bu) ?_
  refine .o (.store hs rfl rfl aB fun w hs=>?_)
  refine .nil (.region (.z zm (.z zm (.z zm (.z zm (.z cC ?_))))))
  refine .o (.call fc rfl (cN hs hr aj aj) ?_);rintro _ w ⟨k39,g39,rfl,hs⟩
  have m41:=l7 (a:=100*(1+(k18:Int))) (b:=1+(k39:Int)) (A:=900) (B:=3) aj aj
  have m41':100≤100*(1+(k18:Int))*(1+(k39:Int)):=by
   have:=Int.mul_le_mul (a:=100) (c:=100*(1+(k18:Int))) (b:=1) (d:=1+(k39:Int)) aj aj aj aj
   omega
  refine .z cC (.z kG (.z cC (.z zm ?_)))
  refine .o (.call fc rfl (cN hs hr aj aj) ?_);rintro _ w ⟨k44,g44,rfl,hs⟩
  refine .z zm (.z zm (.z cC ?_))
  refine .o (.call fc rfl (cN hs hr aj aj) ?_);rintro _ w ⟨k48,g48,rfl,hs⟩
  have m49:0≤(k44:Int)*(k48:Int)∧(k44:Int)*(k48:Int)≤1:=by
   have e1:k44=0∨k44=1:=by omega
   rcases e1 with rfl|rfl<;>simp<;>omega
  refine .z kG (.z kG (.z cC (.z zg (.nil ?_))))
  refine nB (nT ?_)
  refine .region (.z zm (.z cC (.z zg (.nil ?_))))
  refine nT ?_
  exact ⟨(L++[x],_,.slice a32 l32 c32),.de rfl cm bD,⟨by simp;omega,hG.snoc (by dsimp only;omega) (by dsimp only;omega),_,hO2,hs.sb⟩,by simp;omega⟩
 ·refine .exit ?_
  refine xT (xT (xB (nT ?_)))
  refine .af (.z zm ?_)
  have hL2:2≤L.length:=by omega
  refine .o (.call fc rfl (cN hs hr aj aj) ?_);rintro _ w ⟨k53,g53,rfl,hs⟩
  refine .z cC (.z kG (.z zg (.nil (.af (.z zm ?_)))))
  refine .o (.call fc rfl (cN hs hr aj aj) ?_);rintro _ w ⟨k57,g57,rfl,hs⟩
  refine .z kG (.z zg (.nil (.seq (.af (.z zg (.nil (.block ?_)))))))
  refine .loop (fun p:List Int×Int×Value=>⟨90,[],[(9,I (p.1.length:Int)),(8,I p.2.1),(7,I (50*(1+(k53:Int)))),(0,.slice av l.length cv),(3,.pointer (some ⟨b3,0,none⟩)),(2,.pointer (some ⟨b2,0,none⟩))]⟩)
   (fun p w=>p.1.length≤3∧Grow (10*(k57:Int)) 1350 p.1 p.2.1∧∃en2,bS 1 p.2.2 (Is p.1) en2∧St H w (en2:: .blk b3 [I (1+(k11:Int)),I (1+(k14:Int)),.slice ao lo co,p.2.2,I 0,I 0]:: .blk b2 [I 0,I 0,.slice none 0 0,.slice none 0 0,I 0,I 0]::en::σ)) (fun p=>3 - p.1.length) ([],10*(k57:Int),.slice none 0 0) bD
   ⟨cm,.start _ _,_,.nil 1 none,(hs.sb).nul⟩ ?_
  clear hs
  rintro ⟨L2,y,vo2⟩ w ⟨hM4,hG2,en2,hO2,hs⟩
  dsimp only at hM4 hG2 hO2 hs ⊢
  obtain ⟨ap,lp,cp,rfl,-⟩:=hO2.shape
  have hy0:=hG2.low
  have hy1:=hG2.high
  refine .seq (.af (.z zm (.z zm ?_)))
  refine .o (.call fc rfl (cN hs hr aj aj) ?_);rintro _ w ⟨k61,g61,rfl,hs⟩
  refine .z cC (.z gp (.nil ?_))
  refine (.ck rfl (fun hc63=>?_) (fun hc63=>?_))
  ·refine .skip ?_
   refine nT ?_
   refine .seq (.block (.af (.z (zfa bn) (.y hs (zld ak) (.z zm ?_)))))
   refine .o (.buildSlice (cells:=[_]) hs bY rfl rfl fun b69 w hs=>?_)
   refine .o (.append (ys:=Is [y]) hs bN rfl rfl hO2 (.own .here rfl rfl) (fH _) (fun l' h=>by simp at h;omega) ?_);intro v70 en70 w hO3 hs
   rw [←List.map_append] at hO3
   obtain ⟨a70,l70,c70,rfl,-⟩:=hO3.shape
   refine .z (zfa bn) ?_
   refine .o (.store hs rfl rfl aB fun w hs=>?_)
   refine .nil (.region (.z zm (.z zm (.z zm (.z zm (.z cC ?_))))))
   refine .o (.call fc rfl (cN hs hr aj aj) ?_);rintro _ w ⟨k77,g77,rfl,hs⟩
   have m79:=l7 (a:=50*(1+(k53:Int))) (b:=1+(k77:Int)) (A:=450) (B:=3) aj aj
   have m79':50≤50*(1+(k53:Int))*(1+(k77:Int)):=by
    have:=Int.mul_le_mul (a:=50) (c:=50*(1+(k53:Int))) (b:=1) (d:=1+(k77:Int)) aj aj aj aj
    omega
   refine .z cC (.z kG (.z cC (.z zg (.nil ?_))))
   refine nB (nT ?_)
   refine .region (.z zm (.z cC (.z zg (.nil ?_))))
   refine nT ?_
   exact ⟨(L2++[y],_,.slice a70 l70 c70),.de rfl cm bD,⟨by simp;omega,hG2.snoc (by dsimp only;omega) (by dsimp only;omega),_,hO3,hs.sb⟩,by simp;omega⟩
  ·refine .exit ?_
   refine xT (xT (xB (nT ?_)))
   refine .af (.z zm ?_)
   refine .o (.call fc rfl (cN hs hr aj aj) ?_);rintro _ w ⟨k83,g83,rfl,hs⟩
   refine .z kG (.z zm ?_)
   refine .o (.call fc rfl (cN hs hr aj aj) ?_);rintro _ w ⟨k86,g86,rfl,hs⟩
   refine .z kG (.z (zbd [_,_] qn) (.z (zfa eU) ?_))
   refine .o (.aO (vs:=[_,_]) hs rfl rfl Tryz.sizeOf32 fun w hs=>?_)
   refine .nil (.af (.y hs (zls [_,_,_,_,_,_] aM aE) ?_))
   refine .o (.aO (vs:=[_,_,_,_,_,_]) hs rfl rfl aE fun w hs=>?_)
   refine .nil ?_
   refine .ret ?_
   exact Fin.gI [] [] hs fun w hs=>⟨_,results1 Tryz.results35 (di (vs:=[_,_,_,_,_,_]) hs rfl aM aE),⟨1+(k11:Int),1+(k14:Int),L,L2,100*(k83:Int),100*(k86:Int)⟩,.slice ao lo co,.slice ap lp cp,en,en2,rfl,
    ⟨⟨hG.plc aj hL2 aj aj,hG2.plc aj aj aj aj,by dsimp only;omega,by dsimp only;omega,by dsimp only;omega,by dsimp only;omega⟩,hL4,hM4⟩,hO,hO2,hs.sb⟩
instance (s:Spc) (r:Rdg):Decidable (fN s r):=
 decidable_of_iff ((1≤r.src∧r.src≤99999)∧(0≤r.st∧r.st≤(s.st.length:Int) - 1)∧(0≤r.wa∧r.wa≤(s.wa.length:Int) - 1)∧(0≤r.tol∧r.tol≤1000)∧(0≤r.val∧r.val≤20000 - r.tol)∧(1≤r.tape∧r.tape≤99)∧(0≤r.day∧r.day≤100000))
  ⟨fun ⟨a,b,c,d,e,f,g⟩=>⟨a,b,c,d,e,f,g⟩,fun ⟨a,b,c,d,e,f,g⟩=>⟨a,b,c,d,e,f,g⟩⟩
def gy(s:Spc)(rs:List Rdg):List Rdg:=rs.filter fun r=>decide (fN s r)
theorem yL(s:Spc){rs:List Rdg}{k:Nat}{r:Rdg}(h:rs[k]? =some r):gy s (rs.take (k+1))=if fN s r then gy s (rs.take k)++[r] else gy s (rs.take k):=by
 unfold gy
 rw [cM h,List.filter_append]
 by_cases e:fN s r
 ·simp [e]
 ·simp [e]
theorem rV(s:Spc)(rs:List Rdg):(gy s rs).length≤rs.length:=List.length_filter_le _ _
theorem vF{s:Spc}{rs:List Rdg}{r:Rdg}(h:r∈gy s rs):r∈rs∧fN s r:=by
 unfold gy at h;simpa using List.mem_filter.1 h
theorem B1{s:Spc}{rs:List Rdg}{t:TD}(h:t∈aS (gy s rs)):t∈aS rs:=by
 obtain ⟨r,h1,h2⟩:=dV.1 h
 exact dV.2 ⟨r,(vF h1).1,h2⟩
def lI(v:Srv)(x:List Int)(t:TD):Int:=gi x (v.sp.many+1+(gS v.bg t).toNat)
def EC(v:Srv)(x:List Int):List Int:=x.take (v.sp.many+1)++(aS (gy v.sp v.rs)).map (lI v x)
set_option maxHeartbeats 1000000 in
theorem rA{vr:Value}{rs:List Rdg}(hs:St H w σ)(hr:RRd H vr rs)(hl:rs.length≤1000000):
  Cl Tryz.prog 94 [vr] w fun u w'=>∃en,bS 2 u (tdc (aS rs)).flatten en∧St H w' (en::σ):=by
 obtain ⟨ar,cr,rfl⟩:=RRd.shape hr
 refine Cl.o Tryz.func94 Tryz.ntmps94 ag1 ?_
 refine .af (.z zg (.nil (.af (.z zg (.nil (.seq (.af (.z zg (.nil ?_)))))))))
 refine .block ?_
 refine .loop (fun p:Nat×Value=>⟨32,[],[(4,I (p.1:Int)),(3,p.2),(0,.slice ar rs.length cr)]⟩)
  (fun p w=>p.1≤rs.length∧∃en,bS 2 p.2 (tdc (aS (rs.take p.1))).flatten en∧St H w (en::σ)) (fun p=>rs.length - p.1) (0,.slice none 0 0) bD
  ⟨Nat.zero_le _,_,.nil 2 none,hs.nul⟩ ?_
 rintro ⟨k,vo⟩ w ⟨hk,en,hO,hs⟩
 dsimp only at hk hO ⊢
 have htl:=js rs k aj
 obtain ⟨ao,co,rfl⟩:=hO.fj (j5 _) aj
 rw [da] at hO ⊢
 refine .seq (.af (.z zm (.z zm (.z (c9 aF) (.z gp (.nil ?_))))))
 refine (.ck rfl (fun hc9=>?_) (fun hc9=>?_))
 ·refine .skip ?_
  refine nT ?_
  refine .seq (.block ?_)
  refine .seq (.draw mix rfl hs fun w hs=>?_)
  refine .z 0 rfl zm ?_;refine .z 1 rfl zm ?_
  obtain ⟨r,hx⟩:=nth (l:=rs) (k:=k) aj
  have htk:=gY hx
  refine .ixX (enc:=Rdg.c) (i:=2) hs rfl au .none hr rfl rfl aF aD hx dx ?_;intro b14 o14 hc14
  have d14:cellAt H b14 (o14+5)=some (I r.tape):=hc14 5 _ rfl
  refine .z 3 rfl (zfa dY) ?_;refine .y 4 rfl hs ae ?_;refine .z 5 rfl zm ?_;refine .z 6 rfl zm ?_
  refine .ixX (enc:=Rdg.c) (i:=7) hs rfl au .none hr rfl rfl aF aD hx dx ?_;intro b19 o19 hc19
  have d19:cellAt H b19 (o19+6)=some (I r.day):=hc19 6 _ rfl
  refine .z 8 rfl (zfa dX) ?_;refine .y 9 rfl hs ae ?_;refine .z 10 rfl (zbd [_,_] fb) ?_
  refine .E 11 hs ?_
  refine .alloc hs kj rfl ?_;intro b5 w hs
  refine .go ?_
  refine .E 12 hs ?_
  refine .aO (vs:=[_,_]) hs rfl rfl bq ?_;intro w hs
  refine .go ?_
  refine .D hs ?_
  refine .af (.z zm (.y hs (zls [_,_] df bq) ?_))
  refine .o (.call Tryz.call93 rfl (lX (t:=r.td) (hs.sb:St H w (en:: .blk b5 [I r.tape,I r.day]::σ)) hO aj) ?_);rintro _ w ⟨rfl,hs⟩
  have hnn:=jK (l:=aS (rs.take k)) (t:=r.td)
  refine .z gp (.nil ?_)
  refine (.ck rfl (fun hc26=>?_) (fun hc26=>?_))
  ·refine .region (.z zm (.y hs (zls [_,_] df bq) ?_))
   refine .o (.buildSlice (cells:=[_,_]) hs eY rfl rfl fun b29 w hs=>?_)
   refine .o (.append (ys:=r.td.c) hs dm rfl rfl hO (.own .here rfl rfl) (by simp [TD.c,Value.oneCell']) (fun l h=>by rw [bE _ (j5 _),da] at h;omega) ?_);intro v30 en30 w hO2 hs
   refine .z zg (.nil ?_)
   refine nB (nT ?_)
   refine .region (.z zm (.z cC (.z zg (.nil ?_))))
   refine nT ?_
   have hn:r.td∉aS (rs.take k):=fun hm=>by have:=hnn.2 hm;omega
   rw [←qQ,show aS (rs.take k)++[r.td]=aS (rs.take (k+1)) by rw [htk];unfold mW;rw [if_neg hn]] at hO2
   exact ⟨(k+1,v30),.de rfl cm bD,⟨by dsimp only;omega,_,hO2,hs.sb⟩,by dsimp only;omega⟩
  ·refine .skip ?_
   refine nB (nT ?_)
   refine .region (.z zm (.z cC (.z zg (.nil ?_))))
   refine nT ?_
   have hm:r.td∈aS (rs.take k):=hnn.1 aj
   exact ⟨(k+1,_),.de rfl cm bD,⟨by dsimp only;omega,en,by dsimp only;rw [htk];unfold mW;rw [if_pos hm];exact hO,hs.sb⟩,by dsimp only;omega⟩
 ·refine .exit ?_
  refine xT (xT (xB (nT ?_)))
  refine .af (.z zm (.z zg (.nil ?_)))
  refine .ret (Fin.bI Tryz.results94 rfl ?_)
  obtain rfl:k=rs.length:=by omega
  rw [List.take_length] at hO
  exact ⟨en,by rw [List.take_length];exact hO,hs⟩
set_option maxHeartbeats 2000000 in
theorem oC{s:Srv}{x:List Int}{vst vwa vr vc vx:Value}(hs:St H w σ)(h1:RI H vst s.sp.st)(h2:RI H vwa s.sp.wa)(h3:RRd H vr s.rs)(hc:∃a l c,vc= .slice a l c)(hx:RI H vx x)(hxl:x.length=s.sys.n)(hb:s.sp.st.length≤1000∧s.sp.wa.length≤1000∧s.rs.length≤1000):
  Cl Tryz.prog 144 [.agg #[I s.sp.id,I s.sp.src,vst,vwa,I s.sp.al,I s.sp.up,vr,vc],vx] w fun u w'=>∃H1 vr' vy e1 e2,HLe H H1∧u= .tuple #[.agg #[I s.sp.id,I s.sp.src,vst,vwa,I s.sp.al,I s.sp.up,vr',vc],vy]∧bS 7 vr' (rdc (gy s.sp s.rs)).flatten e1∧bS 1 vy (Is (EC s x)) e2∧St H1 w' (e1::e2::σ):=by
 obtain ⟨ast,cst,rfl⟩:=RI.shape h1
 obtain ⟨awa,cwa,rfl⟩:=RI.shape h2
 obtain ⟨ar,cr,rfl⟩:=RRd.shape h3
 obtain ⟨ac,lc,cc,rfl⟩:=hc
 obtain ⟨ax,cx,rfl⟩:=RI.shape hx
 have hm:s.sp.many≤1000000:=Nat.mul_le_mul hb.1 hb.2.1
 have hn:=kI s
 have htl:=cH s.rs
 refine Cl.o Tryz.func144 Tryz.ntmps144 ag2 ?_
 refine .af ?_
 refine .bx hs fun b2 w hs=>?_
 refine .o (.alloc hs bK rfl fun b4 w hs=>?_)
 refine .z zg (.nil (.af (.z (zfa aZ) (.y hs (zld bZ) ?_))))
 refine .o (.call Tryz.call94 rfl (gJ (rs:=s.rs) hs h3 aj) ?_);rintro v15 w ⟨H1,hle1,hT,hs⟩
 obtain ⟨at',ct,rfl⟩:=RTd.shape hT
 refine .z zg (.nil (.af (.z (zfa aK) (.y hs (zls [_,_,_,_,_,_] aM aE) ?_))))
 refine .o (.call Tryz.call97 rfl (fI (s:=s.sp) hs (h1.mono hle1) (h2.mono hle1) ⟨hb.1,hb.2.1⟩) ?_);rintro _ w ⟨rfl,hs⟩
 refine .z zg (.nil (.af (.y hs (zls [_,_,_,_,_,_,_,_] aq an) ?_)))
 refine .o (.alloc hs bK rfl fun b8 w hs=>?_)
 refine .o (.aO (vs:=[_,_,_,_,_,_,_,_]) hs rfl rfl an fun w hs=>?_)
 refine .nil (.af (.z (zfa aZ) ?_))
 refine .o (.store hs rfl rfl jg fun w hs=>?_)
 refine .nil (.seq (.af (.z zg (.nil (.block ?_)))))
 refine .loop (fun p:Nat×Value=>⟨78,[],[(9,I (p.1:Int)),(8,.pointer (some ⟨b8,0,none⟩)),(7,I (s.sp.many:Int)),(6,.slice at' (aS s.rs).length ct),(4,.pointer (some ⟨b4,0,none⟩)),(2,.pointer (some ⟨b2,0,none⟩)),(1,.slice ax x.length cx)]⟩)
  (fun p w=>p.1≤s.rs.length∧∃en,bS 7 p.2 (rdc (gy s.sp (s.rs.take p.1))).flatten en∧St H1 w (en:: .blk b8 [I s.sp.id,I s.sp.src,.slice ast s.sp.st.length cst,.slice awa s.sp.wa.length cwa,I s.sp.al,I s.sp.up,p.2,.slice ac lc cc]:: .blk b4 [I 0,I 0,.slice none 0 0,.slice none 0 0,I 0,I 0,.slice none 0 0,.slice none 0 0]:: .blk b2 [I s.sp.id,I s.sp.src,.slice ast s.sp.st.length cst,.slice awa s.sp.wa.length cwa,I s.sp.al,I s.sp.up,.slice ar s.rs.length cr,.slice ac lc cc]::σ)) (fun p=>s.rs.length - p.1) (0,.slice none 0 0) bD
  ⟨Nat.zero_le _,_,.nil 7 none,hs.nul⟩ ?_
 clear hs
 rintro ⟨k,vo⟩ w ⟨hk,en,hO,hs⟩
 dsimp only at hk hO hs ⊢
 have hkl:=rV s.sp (s.rs.take k)
 rw [List.length_take] at hkl
 obtain ⟨ao,lo,co,rfl,-⟩:=hO.shape
 refine .seq (.af (.z zm (.z (zfa aZ) (.y hs (zld bZ) (.z (c9 aF) (.z gp (.nil ?_)))))))
 refine (.ck rfl (fun hc25=>?_) (fun hc25=>?_))
 ·refine .skip ?_
  refine nT ?_
  refine .seq (.block ?_)
  refine .seq (.draw mix rfl hs fun w hs=>?_)
  refine .z 0 rfl (zfa aK) ?_;refine .ys 1 rfl hs [_,_,_,_,_,_] aM aE ?_;refine .z 2 rfl (zfa aZ) ?_;refine .y 3 rfl hs bZ ?_;refine .z 4 rfl zm ?_
  obtain ⟨r,hr⟩:=nth (l:=s.rs) (k:=k) aj
  have hsn:=yL s.sp hr
  refine .ixX (enc:=Rdg.c) (i:=5) hs rfl au .none (h3.mono hle1) rfl rfl aF aD hr dx ?_;intro b33 o33 hc33
  refine .r (i:=6) hs rfl au .none (cd (vs:=r.c) rfl cg aD hc33) ?_
  refine .E 7 hs ?_
  refine .call Tryz.call109 rfl (kL (s:=s.sp) (r:=r) hs (h1.mono hle1) (h2.mono hle1)) ?_;rintro _ w ⟨b35,rfl,hb35,hs⟩
  refine .go ?_
  refine .D hs ?_
  refine (.cond rfl (fun hc35=>?_) (fun hc35=>?_))
  ·refine .draw mix rfl hs fun w hs=>?_
   refine .z 0 rfl (zfa aZ) ?_;refine .y 1 rfl hs bZ ?_;refine .z 2 rfl (zfa aZ) ?_;refine .y 3 rfl hs bZ ?_;refine .z 4 rfl zm ?_
   refine .ixX (enc:=Rdg.c) (i:=5) hs rfl au .none (h3.mono hle1) rfl rfl aF aD hr dx ?_;intro b41 o41 hc41
   refine .r (i:=6) hs rfl au .none (cd (vs:=r.c) rfl cg aD hc41) ?_
   refine .E 7 hs ?_
   refine .buildSlice (cells:=r.c) hs eZ rfl au ?_;intro b43 w hs
   refine .go ?_
   refine .E 8 hs ?_
   refine .append (ys:=r.c) hs cn rfl rfl hO (.own .here rfl rfl) (by simp [Rdg.c,Value.oneCell']) (fun l' h=>by rw [bE _ (gg _),cJ] at h;omega) ?_;intro v44 en44 w hO2 hs
   rw [←qU,show gy s.sp (s.rs.take k)++[r]=gy s.sp (s.rs.take (k+1)) by rw [hsn,if_pos (hb35.1 (by simpa using hc35))]] at hO2
   obtain ⟨a44,l44,c44,rfl,-⟩:=hO2.shape
   refine .go ?_
   refine .z 9 rfl (zfa aZ) ?_
   refine .E 10 hs ?_
   refine .store hs rfl rfl jg ?_;intro w hs
   refine .go ?_
   refine .D hs ?_
   refine nB (nT ?_)
   refine .region (.z zm (.z cC (.z zg (.nil ?_))))
   refine nT ?_
   exact ⟨(k+1,.slice a44 l44 c44),.de rfl cm bD,⟨by dsimp only;omega,_,hO2,hs.sb⟩,by dsimp only;omega⟩
  ·refine .skip ?_
   refine nB (nT ?_)
   refine .region (.z zm (.z cC (.z zg (.nil ?_))))
   refine nT ?_
   exact ⟨(k+1,.slice ao lo co),.de rfl cm bD,⟨by dsimp only;omega,en,by dsimp only;rw [hsn,if_neg (fun h=>by rw [hb35.2 h] at hc35;cases hc35)];exact hO,hs.sb⟩,by dsimp only;omega⟩
 ·refine .exit ?_
  refine xT (xT (xB (nT ?_)))
  refine .af ?_
  obtain rfl:k=s.rs.length:=by omega
  rw [List.take_length] at hO
  refine .o (.buildSlice (cells:=[]) hs ml rfl rfl fun b46 w hs=>?_)
  refine .z zm (.z zm (.z cC ?_))
  refine .q hs (oE (k:=s.sp.many+1) rfl rfl ad ai rfl (by have:=(RS.len hx).2.1;omega)) ?_
  refine .o (.append (xs:=[]) (ys:=Is (x.take (s.sp.many+1))) hs bN rfl rfl (.full (len:=0) rfl) (.ints (RI.head (hx.mono hle1) (k:=s.sp.many+1) aj)) (fH _) (fun l h=>by simp at h;rw [List.length_take];omega) ?_);intro v51 en51 w hO3 hs
  rw [List.nil_append] at hO3
  refine .z zg (.nil (.af (.z (zfa aZ) (.y hs (zld bZ) ?_))))
  have hkl:=rV s.sp s.rs
  obtain ⟨H2,hle2,hRR,hs2,back⟩:=hO.uI (gg _) aj (by rw [cJ];omega) (hs.sb:St H1 w (en::en51:: .blk b8 [I s.sp.id,I s.sp.src,.slice ast s.sp.st.length cst,.slice awa s.sp.wa.length cwa,I s.sp.al,I s.sp.up,.slice ao lo co,.slice ac lc cc]:: .blk b4 [I 0,I 0,.slice none 0 0,.slice none 0 0,I 0,I 0,.slice none 0 0,.slice none 0 0]:: .blk b2 [I s.sp.id,I s.sp.src,.slice ast s.sp.st.length cst,.slice awa s.sp.wa.length cwa,I s.sp.al,I s.sp.up,.slice ar s.rs.length cr,.slice ac lc cc]::σ))
  refine .o (.call Tryz.call94 rfl (rA (rs:=gy s.sp s.rs) hs2 hRR aj) ?_);rintro v54 w ⟨enT,hOT,hsT⟩
  have hs:=back (HLe.refl _) hsT
  have htl':=cH (gy s.sp s.rs)
  obtain ⟨H3,hle3,hT3,hs⟩:=bS.cf (m:=2) (cs:=tdc (aS (gy s.sp s.rs))) hOT (j5 _) aj (by rw [da];omega) hs (.there .here)
  have hT3:RTd H3 v54 (aS (gy s.sp s.rs)):=hT3
  obtain ⟨a54,c54,rfl⟩:=RTd.shape hT3
  refine .z zg (.nil (.seq (.af (.z zg (.nil (.block ?_))))))
  refine .loop (fun p:Nat×Value=>⟨78,[],[(12,I (p.1:Int)),(10,p.2),(11,.slice a54 (aS (gy s.sp s.rs)).length c54),(8,.pointer (some ⟨b8,0,none⟩)),(7,I (s.sp.many:Int)),(6,.slice at' (aS s.rs).length ct),(4,.pointer (some ⟨b4,0,none⟩)),(1,.slice ax x.length cx)]⟩)
   (fun p w=>p.1≤(aS (gy s.sp s.rs)).length∧∃en2,bS 1 p.2 (Is (x.take (s.sp.many+1)++((aS (gy s.sp s.rs)).take p.1).map (lI s x))) en2∧St H3 w (en2:: .blk b8 [I s.sp.id,I s.sp.src,.slice ast s.sp.st.length cst,.slice awa s.sp.wa.length cwa,I s.sp.al,I s.sp.up,.slice ao lo co,.slice ac lc cc]:: .blk b4 [I 0,I 0,.slice none 0 0,.slice none 0 0,I 0,I 0,.slice none 0 0,.slice none 0 0]::en::σ)) (fun p=>(aS (gy s.sp s.rs)).length - p.1) (0,v51) bD
   ⟨Nat.zero_le _,en51,by simpa using hO3,hs.sb⟩ ?_
  clear hs
  rintro ⟨j,vy⟩ w ⟨hj,en2,hO4,hs⟩
  dsimp only at hj hO4 hs ⊢
  obtain ⟨ay,ly,cy,rfl,-⟩:=hO4.shape
  refine .seq (.af (.z zm (.z zm (.z (c9 aP) (.z gp (.nil ?_))))))
  refine (.ck rfl (fun hc58=>?_) (fun hc58=>?_))
  ·refine .skip ?_
   refine nT ?_
   refine .seq (.block (.region (.z zm (.z zm (.z zm (.z cC (.z zm (.z zm (.z zm ?_)))))))))
   obtain ⟨t,ht⟩:=nth (l:=aS (gy s.sp s.rs)) (k:=j) aj
   have htm:t∈s.bg:=B1 (List.mem_of_getElem? ht)
   obtain ⟨q,q1,q2,q3⟩:=ee htm
   have q3':q<(aS s.rs).length:=q3
   have q1':gS (aS s.rs) t=(q:Int):=q1
   have hnt:s.sys.n=s.sp.many+(aS s.rs).length+1:=hn
   have herr:lI s x t=gi x (s.sp.many+1+q):=by unfold lI;rw [q1,Int.toNat_natCast]
   refine .ixX (enc:=TD.c) hs hT3 rfl rfl aP bq ht dx ?_;intro b68 o68 hc68
   refine .q hs (cd (vs:=t.c) rfl df bq hc68) ?_
   refine .o (.call Tryz.call93 rfl (iS (t:=t) hs (hT.mono hle3) aj) ?_);rintro _ w ⟨rfl,hs⟩
   rw [q1']
   refine .z cC ?_
   refine .ixY hs (hx.mono (hle1.trans hle3)) rfl rfl ad ai (bJ (l:=x) (i:=s.sp.many+1+q) aj) aj ?_;intro b72 o72 hc72
   refine .q hs (bh rfl ae hc72) ?_
   refine .o (.buildSlice (cells:=[_]) hs bY rfl rfl fun b74 w hs=>?_)
   refine .o (.append (ys:=Is [gi x (s.sp.many+1+q)]) hs bN rfl rfl hO4 (.own .here rfl rfl) (fH _) (fun l' h=>by simp at h;omega) ?_);intro v75 en75 w hO5 hs
   rw [←List.map_append,List.append_assoc,←herr,show ((aS (gy s.sp s.rs)).take j).map (lI s x)++[lI s x t]=((aS (gy s.sp s.rs)).take (j+1)).map (lI s x) by rw [cM ht];simp] at hO5
   obtain ⟨a75,l75,c75,rfl,-⟩:=hO5.shape
   refine .z zg (.nil ?_)
   refine nB (nT ?_)
   refine .region (.z zm (.z cC (.z zg (.nil ?_))))
   refine nT ?_
   exact ⟨(j+1,.slice a75 l75 c75),.de rfl cm bD,⟨by dsimp only;omega,_,hO5,hs.sb⟩,by dsimp only;omega⟩
  ·refine .exit ?_
   refine xT (xT (xB (nT ?_)))
   refine .af (.y hs (zls [_,_,_,_,_,_,_,_] aq an) (.z zm ?_))
   refine .o (.aO (vs:=[_,_,_,_,_,_,_,_]) hs rfl rfl an fun w hs=>?_)
   refine .z zg (.nil ?_)
   refine .ret ?_
   obtain rfl:j=(aS (gy s.sp s.rs)).length:=by omega
   rw [List.take_length] at hO4
   exact Fin.gI [] [] hs fun w hs=>⟨_,results2 Tryz.results144 (di (vs:=[_,_,_,_,_,_,_,_]) hs rfl aq an) rfl,H3,_,_,en,en2,hle1.trans hle3,rfl,hO,hO4,hs.sb⟩
end Go.Proofs.YtddaejgfjlneoaaGreat
