/-
  Texts of these claims, joined: Vu Vv Vw Vx Oph.
-/
import Derived.Test.YtfnfiekkdpphjaaGreatTe
namespace Go.Proofs.YtfnfiekkdpphjaaGreat
open Go.MW Tryz
variable{H:bp}{σ:List Ent}{a0 a1 a2 m a most hi lo f e z1 z2 z3 known fl id number day:Int}{ls:List Lim}{g b k b1 bf bt bl cl i bm bc bn:Nat}{cap sp:List Value}{s:Spc}{xs lf ws l X Y pk days:List Int}{en:Ent}{ts:List TD}{vl vt vd vp vw v1 v2 vr vc d vs v5 v4 b' tap dn b2 c2 d2 ve:Value}{t:TD}{rows:List (List Int)}{fG:List F5}{fL:List F4}{th:Bool}
def psL(rs:List (Int×Int))(k:Nat):List Psg:=(List.range k).map fun i:Nat=>⟨(i:Int)+1,9,10+CA (rs.getD i (0,0)).1 90,0,CA (rs.getD i (0,0)).2 10001⟩
theorem yq(rs:List (Int×Int))(k:Nat):(psL rs k).length=k:=by simp [psL]
theorem MD(rs:List (Int×Int))(k:Nat):psL rs (k+1)=psL rs k++[⟨(k:Int)+1,9,10+CA (rs.getD k (0,0)).1 90,0,CA (rs.getD k (0,0)).2 10001⟩]:=by
 simp [psL,List.range_succ]
theorem SL{rs:List (Int×Int)}(hk:k≤3):zr (psL rs k) where
 few:=by rw [yq];omega
 ok p hp:=by
  obtain ⟨i,hi,rfl⟩:=List.mem_map.1 hp;have Ko:=List.mem_range.1 hi;have h1:=rE (rs.getD i (0,0)).1 (m:=90) cR;have h2:=rE (rs.getD i (0,0)).2 (m:=10001) cR;refine ⟨⟨?_,?_⟩,⟨?_,?_⟩,⟨?_,?_⟩,⟨?_,?_⟩,?_,?_⟩<;>dsimp only<;>omega
 inc i hi:=by
  rw [yq] at hi;have e:∀j,j<k→(Ov (psL rs k) j).id=(j:Int)+1:=fun j hj=>by simp [Ov,psL,hj]
  rw [e i ak,e (i+1) hi];omega
theorem Qf(l:List Psg):∀c∈l.map Psg.c,c.length=5:=fun c hc=>by simp only [List.mem_map] at hc;obtain ⟨p,_,rfl⟩:=hc;rfl
set_option maxHeartbeats 4000000 in
theorem qO{w:World}{E:List Ev}{rs:List (Int×Int)}{x:Cod}{r0 r1 r2 r3:Option Addr}{q0 q1 q2 q3 p0 p1 p2 p3:Nat}{i0 i1 i2:Int}{ad ar:Option Addr}{nd kd kr:Nat}(hs:St H w σ)(hE:REv H ve E)(hC:Hd H x)(hr:RS H 2 (.slice ar rs.length kr) (rs.map plP)):
  aaq 9 [.agg #[.slice r0 q0 p0,.slice r1 q1 p1,.slice r2 q2 p2,.slice r3 q3 p3,I i0,I i1,I i2,.slice ad nd kd,.string x.name,x.sl,.slice ar rs.length kr],ve] w fun v w'=>∃H1 vl vp,HLe H H1∧v= .agg #[ve,vl,vp]∧EA H1 ve vl vp E x (psL rs (min 3 rs.length))∧St H1 w' σ:=by
 obtain ⟨ae,ce,rfl⟩:=hE.shape;have EL:rs.length≤9223372036854775807:=by have:=hr.len.2.2;exact this
 refine Cl.o func9 ntmps9 ag2 ?_;refine .af (.bx hs fun b2 w hs=>?_);refine .o (.alloc hs IK rfl fun b4 w hs=>?_);refine .nil (.af (.z zm (.z (zfa pH) (.y hs (zls [_,_] N9 oX) (.z (zbd [_,_,_] FX) (.o (.buildSlice (cells:=[I 1,.string x.name,.slice x.a x.vers.length x.c]) hs xg rfl rfl fun oE w hs=>?_)))))));refine .z (zbd [_,_,_] Ci) (.o (.alloc hs IK rfl fun b5 w hs=>?_));refine .o (.aL (vs:=[_,_,_]) hs rfl rfl dQ fun w hs=>?_);refine .nil (.seq (.af (.z (zfa pG) (.y hs (zld isAgg31) (.z (bT runUnderlying31) (.zn zm (.for (N:=rs.length) (J:=fun k fr w=>∃av nv cv en,k≤3∧fr=[(15,.slice ar rs.length kr),(5,Pt b5),(4,Pt b4)]∧bE 5 (.slice av nv cv) ((psL rs k).map Psg.c).flatten en∧St H w (en:: .blk b5 [.slice ae E.length ce,.slice (some ⟨oE,0,none⟩) 1 1,.slice av nv cv]:: .blk oE [I 1,.string x.name,.slice x.a x.vers.length x.c]:: .blk b4 [.slice none 0 0,.slice none 0 0,.slice none 0 0]::σ)) ak ?_ ?_ ?_)))))))
 ·exact .mk ⟨none,0,0,.nul,ak,rfl,by simpa [psL] using bE.nil 5 none,hs.nul.sb⟩
 ·rintro k fr w hk ⟨av,nv,cv,en,hk3,rfl,hO,hs⟩;obtain ⟨⟨x1,x2⟩,hx⟩:=nth (l:=rs) hk;have VA:rs.getD k (0,0)=(x1,x2):=by simp [List.getD,hx]
  have D6:=rE x1 (m:=90) cR;have AV:=rE x2 (m:=10001) cR;refine .block (.af (.z zm (.ixX (enc:=plP) hs hr rfl rfl runUnderlying31 sizeOf127 hx rfl ?_)));intro US o20 uR;refine .q hs (bj (vs:=[I x1,I x2]) rfl isAgg127 sizeOf127 uR) (.o (.alloc hs zeroValue127 rfl fun b7 w hs=>?_));refine .z zg (.o (.aL (vs:=[_,_]) hs rfl rfl sizeOf127 fun w hs=>?_));refine .nil (.seq (.af (.z zm (.zn fW (.bQ rfl (fun jM=>?_) (fun jM=>?_))))))
  ·refine .exit (xT (xN (xT (xB (nT (.af (.y hs (zls [_,_,_] jT dQ) (.o (.aL (vs:=[_,_,_]) hs rfl rfl dQ fun w hs=>?_)))))))));refine .nil (.ret ?_);exact Fin.ki [] [] hs fun w hs=>by
    obtain rfl:k=3:=by omega
    have hm:min 3 rs.length=3:=by omega
    rw [hm];obtain ⟨H2,aN,zE,hs⟩:=bE.bG (m:=5) hO (Qf _) ak (by rw [List.length_map,yq];omega) hs cg;have eG:nv=(psL rs (min 3 rs.length)).length:=by have:=zE.len.1;rw [List.length_map] at this;rw [hm];exact this
    obtain ⟨H3,bA,IZ,hs⟩:=bE.bG (m:=3) (cs:=[[I 1,.string x.name,.slice x.a x.vers.length x.c]]) (bE.full (b:=oE) (len:=1) (xs:=[I 1,.string x.name,.slice x.a x.vers.length x.c]) rfl) aU ak aU hs cg;exact ⟨_,results1 results9 (dK (vs:=[.slice ae E.length ce,.slice (some ⟨oE,0,none⟩) 1 1,.slice av nv cv]) hs rfl jT dQ),H3,_,_,aN.trans bA,rfl,⟨hE.mono (aN.trans bA),IZ,hC.mono (aN.trans bA),RS.mono zE bA⟩,hs.sb⟩
  ·refine .skip (nT (.draw mix rfl hs fun w hs=>?_));refine .zw 0 rfl (zfa iN) ?_;refine .y 1 rfl hs isAgg48 ?_;refine .z 2 rfl zm ?_;refine .z 3 rfl cC ?_;refine .zw 4 rfl (zia 0 CO an) (.zv 5 rfl hs (uM aj) (.zw 8 rfl (zia 1 CO an) (.zv 9 rfl hs (uM aj) (.E 6 hs ?_))));refine .call kP rfl (kz hs cR) ?_;rintro _ w ⟨rfl,hs⟩;refine .go (.zw 7 rfl cC (.E 10 hs ?_));refine .call kP rfl (kz hs cR) ?_;rintro _ w ⟨rfl,hs⟩;refine .go (.zw 11 rfl (zbd [_,_,_,_,_] zi) (.E 12 hs ?_));refine .buildSlice (cells:=[I ((k:Int)+1),I 9,I (10+CA x1 90),I 0,I (CA x2 10001)]) hs qD rfl aF ?_;intro YC w hs;refine .go (.E 13 hs ?_);refine .append (ys:=[I ((k:Int)+1),I 9,I (10+CA x1 90),I 0,I (CA x2 10001)]) hs kM rfl rfl hO (.own cg rfl rfl) (by simp [Value.oneCell']) (fun l h=>by rw [a7 _ (Qf _),List.length_map,yq] at h;omega) ?_;intro v37 en37 w hO hs;obtain ⟨a37,n37,c37,rfl,h37⟩:=hO.shape;refine .go (.zw 14 rfl (zfa iN) (.E 15 hs ?_));refine .store hs rfl rfl sizeOf48 ?_;intro w hs;exact .go (.D hs (nB (nT (.mk ⟨a37,n37,c37,en37,ak,rfl,by rw [MD,List.map_append,List.flatten_append,VA];exact hO,hs.sb⟩))))
 ·rintro fr w ⟨av,nv,cv,en,hk3,rfl,hO,hs⟩;refine nT (.af (.y hs (zls [_,_,_] jT dQ) (.o (.aL (vs:=[_,_,_]) hs rfl rfl dQ fun w hs=>?_))));refine .nil (.ret ?_);exact Fin.ki [] [] hs fun w hs=>by
   have hm:min 3 rs.length=rs.length:=by omega
   rw [hm];obtain ⟨H2,aN,zE,hs⟩:=bE.bG (m:=5) hO (Qf _) ak (by rw [List.length_map,yq];omega) hs cg;have eG:nv=(psL rs (min 3 rs.length)).length:=by have:=zE.len.1;rw [List.length_map] at this;rw [hm];exact this
   obtain ⟨H3,bA,IZ,hs⟩:=bE.bG (m:=3) (cs:=[[I 1,.string x.name,.slice x.a x.vers.length x.c]]) (bE.full (b:=oE) (len:=1) (xs:=[I 1,.string x.name,.slice x.a x.vers.length x.c]) rfl) aU ak aU hs cg;exact ⟨_,results1 results9 (dK (vs:=[.slice ae E.length ce,.slice (some ⟨oE,0,none⟩) 1 1,.slice av nv cv]) hs rfl jT dQ),H3,_,_,aN.trans bA,rfl,⟨hE.mono (aN.trans bA),IZ,hC.mono (aN.trans bA),RS.mono zE bA⟩,hs.sb⟩
end Go.Proofs.YtfnfiekkdpphjaaGreat
namespace Go.MW
variable{H H':bp}{k a b known room:Int}{i j:Nat}{kd:Int→Int}
theorem yY{p:Ev→Bool}(hp:∀x,p x.core=p x){l m:List Ev}(h:l.map Ev.core=m.map Ev.core):(l.filter p).map Ev.core=(m.filter p).map Ev.core:=by
 have e:∀l:List Ev,(l.filter p).map Ev.core=(l.map Ev.core).filter p:=fun l=>by
  rw [List.filter_map]
  congr 1
  exact List.filter_congr fun x _=>(hp x).symm
 rw [e,e,h]
theorem Ej(P:List Ev)(j:Nat):(evG (P.map Ev.core) j).day=(evG P j).day:=by
 by_cases h:j<P.length
 ·have e1:=B8 Ev.core h;have e2:=dp (l:=P.map Ev.core) (i:=j) (by simpa using h);rw [e1] at e2;rw [←Option.some.inj e2];rfl
 ·have e1:P[j]? =none:=List.getElem?_eq_none (by omega);have e2:(P.map Ev.core)[j]? =none:=List.getElem?_eq_none (by simp;omega);unfold evG;simp only [List.getD,e1,e2]
theorem Dj(x:Ev)(P:List Ev):∀j,Br x.core (P.map Ev.core) j=Br x P j
 |0=>rfl
 |j+1=>by
  simp only [Br];rw [Ej,Dj x P j];rfl
theorem J3(x:Ev)(P:List Ev):IT x.core (P.map Ev.core)=(IT x P).map Ev.core:=by
 unfold IT;rw [List.length_map,Dj,List.map_append,List.map_cons,List.map_take,List.map_drop]
theorem uu(l:List Ev):∀{n:Nat},n≤l.length→dc (l.map Ev.core) n=(dc l n).map Ev.core
 |0,_=>rfl
 |n+1,h=>by
  have e1:=B8 Ev.core (l:=l) (i:=n) (by omega);have e2:=dp (l:=l.map Ev.core) (i:=n) (by rw [List.length_map];omega);rw [e1] at e2;simp only [dc];rw [←Option.some.inj e2,uu l (n:=n) (by omega),J3]
theorem Jl{l m:List Ev}(h:l.map Ev.core=m.map Ev.core):(dc l l.length).map Ev.core=(dc m m.length).map Ev.core:=by
 have hlen:l.length=m.length:=by have:=congrArg List.length h;simpa using this
 rw [←uu l (Nat.le_refl _),←uu m (Nat.le_refl _),h,hlen]
theorem yV{cs:List Cmp}:∀{S:List Ev} {L:Liv},S.foldl (eJ cs) L=(S.map Ev.core).foldl (eJ cs) L
 |[],_=>rfl
 |x::S,L=>by
  rw [List.map_cons,List.foldl_cons,List.foldl_cons];exact yV (S:=S) (L:=eJ cs L x)
theorem OkE.core{L:Liv}{x:Ev}(h:OkE L x):OkE L x.core:=by
 cases h with
 |build g a b=>exact .build ⟨g.kind,g.num,⟨g.new.ok,g.new.id,g.new.src⟩,g.room,g.opn,g.crew,g.rd,g.cm⟩ a b
 |room g a b c=>exact .room ⟨g.kind,g.num,⟨g.new.ok,g.new.id,g.new.src⟩,g.room,g.opn,g.crew,g.rd,g.cm⟩ a b c
 |hull g a b c d=>exact .hull ⟨g.kind,g.room,g.src,g.day,g.st,g.wa,g.tol,g.val,g.tape,g.num,g.opn,g.crew,g.sp,rfl,rfl,rfl,rfl,g.cm⟩ a b c d
 |cell g a b c d e f=>exact .cell ⟨g.kind,g.room,g.src,g.day,g.st,g.wa,g.tol,g.val,g.tape,g.num,g.opn,g.crew,g.sp,rfl,rfl,rfl,rfl,g.cm⟩ a b c d e f
theorem VdE.core{L:Liv}{x:Ev}(h:VdE L x):VdE L x.core:=by
 cases h with
 |early a b=>exact .early a b
 |lost g a b c=>exact .lost ⟨g.kind,g.room,g.src,g.day,g.st,g.wa,g.tol,g.val,g.tape,g.num,g.opn,g.crew,g.sp,rfl,rfl,rfl,rfl,g.cm⟩ a b c
theorem OkE.uD{L:Liv}{x:Ev}(hx:oH x)(h:OkE L x.core):OkE L x:=by
 cases h with
 |build g a b=>exact .build (hx.build g.kind) a b
 |room g a b c=>exact .room (hx.Gz g.kind) a b c
 |hull g a b c d=>exact .hull (hx.read g.kind) a b c d
 |cell g a b c d e f=>exact .cell (hx.read g.kind) a b c d e f
theorem VdE.uD{L:Liv}{x:Ev}(hx:oH x)(h:VdE L x.core):VdE L x:=by
 cases h with
 |early a b=>exact .early a b
 |lost g a b c=>exact .lost (hx.read g.kind) a b c
theorem kN.core{cs:List Cmp}:∀{S:List Ev} {L:Liv},kN cs L S→kN cs L (S.map Ev.core)
 |[],_,_=>trivial
 |_::_,_,⟨h1,h2⟩=>⟨h1.imp OkE.core VdE.core,h2.core⟩
theorem kN.uD{cs:List Cmp}:∀{S:List Ev} {L:Liv},(∀x∈S,oH x)→kN cs L (S.map Ev.core)→kN cs L S
 |[],_,_,_=>trivial
 |x::S,L,hx,⟨h1,h2⟩=>⟨h1.imp (.uD (hx x (by simp))) (.uD (hx x (by simp))),kN.uD (L:=eJ cs L x) (fun y hy=>hx y (by simp [hy])) h2⟩
theorem yv{l:List Ev}{x:Ev}:x∈dc l l.length↔x∈l:=by
 have:=mX l (n:=l.length) (Nat.le_refl _);rw [List.take_length] at this;exact this.mem_iff
theorem Ew{l m S:List Ev}{cs:List Cmp}(hA:vF m S cs a b k)(hl:ub l)(h:l.map Ev.core=m.map Ev.core):∃S',vF l S' cs a b k∧S'.foldl (eJ cs) fK=S.foldl (eJ cs) fK:=by
 have e1:(kh l a b k l.length).map Ev.core=(kh m a b k m.length).map Ev.core:=by
  unfold kh;rw [List.take_length,List.take_length];exact yY (fun _=>rfl) h
 have e2:lF l k l.length=cs:=by
  rw [←hA.cmps];unfold lF vL;rw [List.take_length,List.take_length];exact K8 (f:=(·.cm)) (fun _=>rfl) (yY (fun _=>rfl) h)
 have e3:=Jl e1;rw [hA.sorted] at e3;refine ⟨_,⟨hl,?_,rfl,e2,?_⟩,?_⟩
 ·have:=congrArg List.length e1;simp only [List.length_map] at this;rw [this];exact hA.few
 ·refine kN.uD (fun x hx=>?_) (by rw [e3];exact hA.ok.core);rw [yv] at hx;unfold kh at hx;rw [List.take_length] at hx;exact hl.good x (List.mem_filter.1 hx).1
 ·rw [yV,e3,←yV]
theorem erase_filter:∀{l:List Ev} {off i:Nat},(∀j,j<l.length→(evG l j).seq=((off+j:Nat):Int))→l.eraseIdx i=l.filter fun x=>decide (x.seq≠((off+i:Nat):Int))
 |[],_,_,_=>rfl
 |x::l,off,i,h=>by
  have h0:x.seq=((off+0:Nat):Int):=h 0 (by simp);have hs:∀j,j<l.length→(evG l j).seq=((off+1+j:Nat):Int):=fun j hj=>by
   have:=h (j+1) (by simpa using hj);rw [show evG (x::l) (j+1)=evG l j from rfl] at this;rw [this];congr 1;omega
  cases i with
  |zero=>
   rw [List.filter_cons_of_neg (by rw [h0];simp),List.eraseIdx_cons_zero];refine (List.filter_eq_self.2 fun y hy=>?_).symm;obtain ⟨j,hj,rfl⟩:=List.getElem_of_mem hy;have:=hs j hj;have e:=dp hj;rw [List.getElem?_eq_getElem hj] at e;rw [←Option.some.inj e] at this;simp only [decide_eq_true_eq];omega
  |succ i=>
   rw [List.filter_cons_of_pos (by simp only [decide_eq_true_eq];omega),List.eraseIdx_cons_succ,erase_filter hs]
   congr 2;funext y;congr 2;rw [show off+1+i=off+(i+1) by omega]
theorem Ek{cs:List Cmp}:∀{S:List Ev} {L:Liv},L.there=false→(∀x∈S,x.kind≠1)→kN cs L S∧S.foldl (eJ cs) L=L
 |[],_,_,_=>⟨trivial,rfl⟩
 |x::S,L,h,hx=>by
  have hv:VdE L x:= .early h (hx x (by simp));have ha:=hv.app (cs:=cs);obtain ⟨h1,h2⟩:=Ek (cs:=cs) (S:=S) h (fun y hy=>hx y (by simp [hy]));exact ⟨⟨.inr hv,by rw [ha];exact h1⟩,by rw [List.foldl_cons,ha];exact h2⟩
theorem Gv{cs:List Cmp}:∀{S:List Ev} {L:Liv},L.there=true→L.cells=[]→(∀x∈S,jJ x∧L.hu.sp.id≠x.room)→kN cs L S∧S.foldl (eJ cs) L=L
 |[],_,_,_,_=>⟨trivial,rfl⟩
 |x::S,L,h,hc,hx=>by
  have hv:VdE L x:= .lost (hx x (by simp)).1 h (hx x (by simp)).2 hc;have ha:=hv.app (cs:=cs);obtain ⟨h1,h2⟩:=Gv (cs:=cs) (S:=S) h hc (fun y hy=>hx y (by simp [hy]));exact ⟨⟨.inr hv,by rw [ha];exact h1⟩,by rw [List.foldl_cons,ha];exact h2⟩
theorem Qs{v u:Srv}(z6:u.sp=spE v.sp a b)(hr:∀r∈u.rs,∃i<v.rs.length,r=rdK (vO v.rs i) (i+2))(hc:∀c∈u.cs,∃j<v.cs.length,c=cmK (w6 v.cs j) (j+(v.rs.length+2))){g:Nat→Nat→Int}{f:TD→Int}(hk:Kp v g f):Kp u g f:=by
 have Zk:∀t,t∈u.bN→t∈v.bN:=fun t ht=>by
  obtain ⟨r,h1,rfl⟩:=ee.1 ht;obtain ⟨i,hi,rfl⟩:=hr r h1;exact ee.2 ⟨_,List.mem_of_getElem? (jy hi),rfl⟩
 obtain ⟨k1,k2,k3,k4,k5,k6⟩:=hk;refine ⟨?_,?_,?_,fun t ht=>k4 t (Zk t ht),fun c h t ht=>?_,fun r h=>?_⟩
 ·rw [z6];exact k1
 ·rw [z6];exact k2
 ·rw [z6];exact k3
 ·obtain ⟨j,hj,rfl⟩:=hc c h;exact k5 (w6 v.cs j) (List.mem_of_getElem? (qi hj)) t (Zk t ht)
 ·obtain ⟨i,hi,rfl⟩:=hr r h;exact k6 (vO v.rs i) (List.mem_of_getElem? (jy hi))
def UC(k:Int)(x:Ev):Prop:=o9 k x=true∨(x.known≤k∧x.kind=9)
theorem Ei{v:Srv}{q:At4}(i:Nat):(jV 5 kd v q v.cs.length).eraseIdx i=(jV 5 kd v q v.cs.length).filter fun x=>decide (x.seq≠((i:Nat):Int)):=by
 have:=erase_filter (l:=jV 5 kd v q v.cs.length) (off:=0) (i:=i) (fun j hj=>by rw [p4 5 kd v q v.cs.length j hj,Nat.zero_add])
 rwa [Nat.zero_add] at this
theorem Rc{v:Srv}{q:At4}{x:Ev}(hx:x∈jV 5 kd v q v.cs.length)(h:x.seq=(i:Int)):x=evG (jV 5 kd v q v.cs.length) i:=by
 obtain ⟨j,hj,rfl⟩:=List.getElem_of_mem hx;have e:=dp hj;rw [List.getElem?_eq_getElem hj] at e;have e2:=Option.some.inj e;have:=p4 5 kd v q v.cs.length j hj;rw [←e2,h] at this;obtain rfl:i=j:=by omega
 exact e2
theorem yX{v:Srv}{q:At4}{p:Ev→Bool}(h:p (evG (jV 5 kd v q v.cs.length) i)=false):((jV 5 kd v q v.cs.length).eraseIdx i).filter p=(jV 5 kd v q v.cs.length).filter p:=by
 rw [Ei,List.filter_filter];refine List.filter_congr fun x hx=>?_
 by_cases e:x.seq=(i:Int)
 ·have:=Rc hx e;rw [this,h];rfl
 ·simp [e]
theorem Lm{v:Srv}{q:At4}(hM:xj v)(hk:∀i,0≤kd i∧kd i<50){k:Int}(DV:0≤k∧k≤100000){y:List Int}(hK:ra v y){i:Nat}(hi:i<(jV 5 kd v q v.cs.length).length):
  ∃S cs,vF ((jV 5 kd v q v.cs.length).eraseIdx i) S cs 9 10 k∧vE (S.foldl (eJ cs) fK)∧
   (¬UC k (evG (jV 5 kd v q v.cs.length) i)→∀S0 cs0,vF (jV 5 kd v q v.cs.length) S0 cs0 9 10 k→S.foldl (eJ cs) fK=S0.foldl (eJ cs0) fK):=by
 have nx:=B4 (room:=5) (q:=q) hM (by omega) hk;have hH0:ub (jV 5 kd v q v.cs.length):=by
  have:=GP (room:=5) (q:=q) hM (by omega) hk fun _=>true
  rwa [List.filter_eq_self.2 (fun _ _=>rfl)] at this
 have VN:=AT hH0 hi rfl (fun x hx=>nx x (List.mem_of_mem_eraseIdx hx));obtain ⟨E,hE⟩:∃E,E=jV 5 kd v q v.cs.length:=⟨_,rfl⟩;have qQ:∀S cs,dc (kh (E.eraseIdx i) 9 10 k (E.eraseIdx i).length) (kh (E.eraseIdx i) 9 10 k (E.eraseIdx i).length).length=S→lF (E.eraseIdx i) k (E.eraseIdx i).length=cs→
   ¬UC k (evG E i)→∀S0 cs0,vF E S0 cs0 9 10 k→S.foldl (eJ cs) fK=S0.foldl (eJ cs0) fK:=fun S cs hS hc hn S0 cs0 hA=>by
  have e1:kh (E.eraseIdx i) 9 10 k (E.eraseIdx i).length=kh E 9 10 k E.length:=by
   unfold kh;rw [List.take_length,List.take_length,hE];exact yX (p:=o9 k) (by rw [←hE];have:=fun h=>hn (.inl h);simpa using this)
  have e2:lF (E.eraseIdx i) k (E.eraseIdx i).length=lF E k E.length:=by
   unfold lF vL;rw [List.take_length,List.take_length,hE];rw [yX (by rw [←hE];exact decide_eq_false fun h=>hn (.inr h))]
  rw [←hS,←hc,←hA.sorted,←hA.cmps,e1,e2]
 have GD:(lF (E.eraseIdx i) k (E.eraseIdx i).length).Sublist (tpK kd v k):=by
  unfold lF vL;rw [List.take_length,←B5 (room:=5) (q:=q),hE];exact ((List.eraseIdx_sublist _ _).filter _).map _
 have aag:=hM.rs;have h5:=hM.cs;obtain ⟨cs,AU⟩:∃cs,cs=lF (E.eraseIdx i) k (E.eraseIdx i).length:=⟨_,rfl⟩;rw [←AU] at GD;have tX:cs.length≤6:=by have h1:=GD.length_le;have:=E3 (kd:=kd) (v:=v) (k:=k);omega
 have QL:∀c∈cs,qH c:=fun c hc=>I6 hM c (GD.subset hc)
 have z6:=Gb hM.ok.early.1 (a:=5) (b:=2) (by omega) (by omega);have hT:kh (E.eraseIdx i) 9 10 k (E.eraseIdx i).length=E.filter fun x=>o9 k x&&decide (x.seq≠((i:Nat):Int)):=by
  unfold kh;rw [List.take_length,hE,Ei,List.filter_filter];rfl
 have TP:∀p:Ev→Bool,(E.filter fun x=>o9 k x&&p x).length≤19:=fun p=>by
  have e1:(E.filter fun x=>o9 k x&&p x)=(E.filter (o9 k)).filter p:=by rw [List.filter_filter];congr 1;funext x;rw [Bool.and_comm]
  have e2:=List.length_filter_le p (E.filter (o9 k));rw [e1];have e3:(E.filter (o9 k)).length≤17:=by
   rw [hE,FT DV.1];have:=List.length_filter_le (o9 k) (rdE 5 kd v.rs v.rs.length);rw [nj] at this;simp only [List.length_cons];omega
  omega
 have FB:(kh (E.eraseIdx i) 9 10 k (E.eraseIdx i).length).length≤19:=by rw [hT];exact TP _
 rw [←hE] at VN hi ⊢;have Xa:∀{p:Ev→Bool} {x:Ev},x∈(rdE 5 kd v.rs v.rs.length).filter p→∃j<v.rs.length,x=Ah 5 (kd j) (j+2) (vO v.rs j):=fun hx=>rF.1 (List.mem_filter.1 hx).1
 have ZE:∀j,j<v.rs.length→jJ (Ah 5 (kd j) (j+2) (vO v.rs j)):=fun j hj=>(nx _ (lC.2 (.inr (.inl ⟨j,hj,rfl⟩)))).read rfl
 have ZF:tM (evB v.sp q):=(nx _ (lC.2 (.inl (.inl rfl)))).build rfl;have hgM:xH (evR v.sp q):=(nx _ (lC.2 (.inl (.inr rfl)))).Gz rfl;have J9:∀p:Ev→Bool,(E.filter fun x=>o9 k x&&p x)=([evB v.sp q,evR v.sp q].filter fun x=>o9 k x&&p x)++(rdE 5 kd v.rs v.rs.length).filter fun x=>o9 k x&&p x:=fun p=>by
  have e2:(tpE kd v.rs.length v.cs v.cs.length).filter (fun x=>o9 k x&&p x)=[]:=List.filter_eq_nil_iff.2 fun x hx=>by simp [o9,Bb hx]
  rw [hE];unfold jV FU;rw [List.filter_append,List.filter_append,e2,List.append_nil]
 have Zm:o9 k (evB v.sp q)=true:=by simp [o9,evB,DV.1]
 have htR:o9 k (evR v.sp q)=true:=by simp [o9,evR,DV.1]
 rcases Nat.lt_or_ge i 2 with hi2|hi2
 ·obtain rfl|rfl:i=0∨i=1:=by omega
  ·
   have hK1:∀x∈dc (kh (E.eraseIdx 0) 9 10 k (E.eraseIdx 0).length) (kh (E.eraseIdx 0) 9 10 k (E.eraseIdx 0).length).length,x.kind≠1:=fun x hx=>by
    rw [yv,hT] at hx;obtain ⟨h1,h2⟩:=List.mem_filter.1 hx;rw [hE] at h1
    rcases lC.1 h1 with (rfl|rfl)|⟨j,_,rfl⟩|⟨j,_,rfl⟩
    ·simp [evB] at h2
    ·simp [evR]
    ·simp [Ah]
    ·simp [K3]
   obtain ⟨g1,g2⟩:=Ek (cs:=cs) (L:=fK) rfl hK1;exact ⟨_,cs,⟨VN,FB,rfl,AU.symm,g1⟩,by rw [g2];exact ⟨(fun h=>by cases h),.inl rfl⟩,qQ _ _ rfl AU.symm⟩
  ·
   have Q2:kh (E.eraseIdx 1) 9 10 k (E.eraseIdx 1).length=evB v.sp q::(rdE 5 kd v.rs v.rs.length).filter fun x=>o9 k x&&decide (x.seq≠((1:Nat):Int)):=by
    rw [hT,J9];rw [List.filter_cons_of_pos (by rw [Zm];rfl),List.filter_cons_of_neg (by simp [evR])];rfl
   obtain ⟨T,X1⟩:∃T,T=kh (E.eraseIdx 1) 9 10 k (E.eraseIdx 1).length:=⟨_,rfl⟩;rw [←X1] at Q2 FB qQ;have hd:∀x∈T,0≤x.day:=fun x hx=>by
    rw [Q2] at hx
    rcases List.mem_cons.1 hx with rfl|hx
    ·exact Int.le_refl _
    ·obtain ⟨j,hj,rfl⟩:=Xa hx;exact (hM.ok.early.2.2.2.1 _ (List.mem_of_getElem? (jy hj))).day.1
   have e1:=pY hd (p:=1) (fun j hj=>by rw [show j=0 by omega,Q2];rfl) (n:=T.length) (Nat.le_refl _) (by rw [Q2];simp);have e2:=mX T (n:=T.length) (Nat.le_refl _);rw [List.take_length] at e2;have e3:dc T T.length=evB v.sp q::(dc T T.length).drop 1:=by
    have:=(List.take_append_drop 1 (dc T T.length)).symm;rw [e1,Q2] at this;rw [Q2];exact this
   obtain ⟨R,hR⟩:∃R,R=(dc T T.length).drop 1:=⟨_,rfl⟩;rw [←hR] at e3;rw [e3] at e2;have hP:R.Perm ((rdE 5 kd v.rs v.rs.length).filter fun x=>o9 k x&&decide (x.seq≠((1:Nat):Int))):=by
    have:=e2;rw [Q2] at this;exact (List.perm_cons _).1 this
   obtain ⟨g1,g2⟩:=Gv (cs:=cs) (S:=R) (L:=⟨true,1,⟨spE v.sp 900 1,[],cs⟩,[]⟩) rfl rfl (fun x hx=>by
    obtain ⟨j,hj,rfl⟩:=Xa (hP.mem_iff.1 hx);exact ⟨ZE j hj,by simp [Ah,spE]⟩)
   have hf:(evB v.sp q::R).foldl (eJ cs) fK=⟨true,1,⟨spE v.sp 900 1,[],cs⟩,[]⟩:=g2;exact ⟨evB v.sp q::R,cs,⟨VN,by rw [←X1];exact FB,by rw [←X1];exact e3,AU.symm,.inl (.build ZF rfl rfl),g1⟩,by rw [hf];exact ⟨fun _=>rfl,.inl rfl⟩,qQ _ _ e3 AU.symm⟩
 ·
  have hT2:kh (E.eraseIdx i) 9 10 k (E.eraseIdx i).length=evB v.sp q::evR v.sp q::(rdE 5 kd v.rs v.rs.length).filter fun x=>o9 k x&&decide (x.seq≠((i:Nat):Int)):=by
   rw [hT,J9];rw [List.filter_cons_of_pos (by rw [Zm,Bool.true_and];exact decide_eq_true (by show (0:Int)≠_;omega)),List.filter_cons_of_pos (by rw [htR,Bool.true_and];exact decide_eq_true (by show (1:Int)≠_;omega))];rfl
  obtain ⟨S,hS,hP⟩:=F9 (room:=5) (kd:=kd) (q:=q) hM _ _ hT2;have s4:∀x∈S,∃j<v.rs.length,x=Ah 5 (kd j) (j+2) (vO v.rs j):=fun x hx=>Xa (hP.mem_iff.1 hx)
  have hlen:S.length≤v.rs.length:=by
   rw [hP.length_eq];have:=List.length_filter_le (fun x=>o9 k x&&decide (x.seq≠((i:Nat):Int))) (rdE 5 kd v.rs v.rs.length)
   rwa [nj] at this
  have Nh:∀x∈S,jJ x∧(900:Int)≠x.room∧(5:Int)=x.room∧k8 (spE v.sp 5 2) x.rd:=fun x hx=>by
   obtain ⟨j,hj,rfl⟩:=s4 x hx;exact ⟨ZE j hj,by simp [Ah],rfl,Ol hM hj⟩
  have Q4:pU cs fK (evB v.sp q::evR v.sp q::S):=by
   refine ⟨.build ZF rfl rfl,.room hgM rfl rfl (by show (900:Int)≠5;omega),?_⟩;exact Qj (rs:=[]) z6 hM.st hM.wa tX QL rfl rfl (by simp;omega) (fun x hx=>by cases hx) Nh
  have hF:(evB v.sp q::evR v.sp q::S).foldl (eJ cs) fK=⟨true,1,⟨spE v.sp 900 1,[],cs⟩,[(⟨5,1,0,0⟩,⟨spE v.sp 5 2,S.map (·.rd),cs⟩)]⟩:=by
   have:=FQ (cs:=cs) (r:=⟨5,1,0,0⟩) (S:=S) (L:=⟨true,1,⟨spE v.sp 900 1,[],cs⟩,[(⟨5,1,0,0⟩,⟨spE v.sp 5 2,[],cs⟩)]⟩) (u:=⟨spE v.sp 5 2,[],cs⟩) rfl rfl (fun x hx=>⟨(Nh x hx).1.kind,(Nh x hx).2.1⟩);exact this
  have ZY:iE ⟨spE v.sp 5 2,S.map (·.rd),cs⟩:=Bi z6 hM.st hM.wa (by rw [List.length_map];omega) tX (fun x hx=>by
   obtain ⟨y,hy,rfl⟩:=List.mem_map.1 hx;exact (Nh y hy).2.2.2) QL
  have hSd:(⟨spE v.sp 5 2,S.map (·.rd),cs⟩:Srv).sys.Sound:=by
   obtain ⟨-,⟨f,h2⟩,-⟩:=DI hM.ok hK;refine (Gc ZY.early).2 ⟨_,f,Qs (v:=v) (a:=5) (b:=2) rfl (fun r hr=>?_) (fun c hc=>?_) h2⟩
   ·obtain ⟨y,hy,rfl⟩:=List.mem_map.1 hr;obtain ⟨j,hj,rfl⟩:=s4 y hy;exact ⟨j,hj,rfl⟩
   ·obtain ⟨j,h1,-,h3⟩:=Fl.1 (GD.subset hc);exact ⟨j,h1,h3⟩
  exact ⟨_,cs,⟨VN,FB,hS,AU.symm,Q4.v⟩,by rw [hF];exact ⟨fun _=>rfl,.inr ⟨_,_,rfl,ZY,hSd⟩⟩,qQ _ _ hS AU.symm⟩
theorem M1{v:Srv}{q:At4}(hM:xj v)(hk:∀i,0≤kd i∧kd i<50){k:Int}(DV:0≤k∧k≤100000){y:List Int}(hK:ra v y){S0:List Ev}{cs0:List Cmp}(Uu:vF (jV 5 kd v q v.cs.length) S0 cs0 9 10 k):
  ∃Lw:Nat→Liv,∀i<(jV 5 kd v q v.cs.length).length,(∃S cs,vF ((jV 5 kd v q v.cs.length).eraseIdx i) S cs 9 10 k∧S.foldl (eJ cs) fK=Lw i)∧vE (Lw i)∧(¬UC k (evG (jV 5 kd v q v.cs.length) i)→Lw i=S0.foldl (eJ cs0) fK):=by
 haveI:Inhabited Liv:=⟨fK⟩
 exact Go.Deep.choose_lt (p:=fun i L=>(∃S cs,vF ((jV 5 kd v q v.cs.length).eraseIdx i) S cs 9 10 k∧S.foldl (eJ cs) fK=L)∧vE L∧(¬UC k (evG (jV 5 kd v q v.cs.length) i)→L=S0.foldl (eJ cs0) fK)) (fun i hi=>by
  obtain ⟨S,cs,h1,h2,h3⟩:=Lm (q:=q) hM hk DV hK hi;exact ⟨S.foldl (eJ cs) fK,⟨S,cs,h1,rfl⟩,h2,fun h=>h3 h S0 cs0 Uu⟩)
theorem Rj{E S D:List Ev}{cs:List Cmp}(hA:vF E S cs 9 10 k)(hD:D=S)(hi:i<E.length)(h:UC k (evG E i)):evG E i∈D++vL E k E.length:=by
 have hm:=mM hi;rw [List.mem_append]
 rcases h with h|h
 ·refine .inl ?_;rw [hD,←hA.sorted,yv];unfold kh;rw [List.take_length];exact List.mem_filter.2 ⟨hm,h⟩
 ·refine .inr ?_;unfold vL;rw [List.take_length];exact List.mem_filter.2 ⟨hm,decide_eq_true h⟩
theorem Nf{E:List Ev}(h:ub E){i j:Nat}(hi:i<E.length)(hj:j<E.length)(e:(evG E i).seq=(evG E j).seq):i=j:=by
 rcases Nat.lt_trichotomy i j with g|g|g
 ·have:=s5 h g hj;omega
 ·exact g
 ·have:=s5 h g hi;omega
end Go.MW
namespace Go.Proofs.YtfnfiekkdpphjaaGreat
open Go.MW Tryz
variable{H:bp}{σ:List Ent}{a0 a1 a2 m a most hi lo f e z1 z2 z3 known fl id number day:Int}{ls:List Lim}{g b k b1 bf bt bl cl i bm bc bn:Nat}{cap sp:List Value}{s:Spc}{xs lf ws l X Y pk days:List Int}{en:Ent}{ts:List TD}{vl vt vd vp vw v1 v2 vr vc d vs v5 v4 b' tap dn b2 c2 d2 ve:Value}{t:TD}{rows:List (List Int)}{fG:List F5}{fL:List F4}{th:Bool}
theorem u9{w:World}{E S:List Ev}{cs:List Cmp}{c:Cod}{ps:List Psg}{n:Int}{t:Tol}{Lw:Nat→Liv}(hs:St H w σ)(hF:EA H ve vl vp E c ps)(hp:zr ps)(hA:vF E S cs n day known)(hL:vE (S.foldl (eJ cs) fK))(hn:1≤n∧n≤999)(hd:0≤day∧day≤100000)(hk:0≤known∧known≤100000)(aac:E.length≤4096)
  (he:(¬mc c∧e=81)∨(mc c∧e=t.e∧EV (S.foldl (eJ cs) fK) c day t))
  (hW:∀i<E.length,(∃S' cs',vF (E.eraseIdx i) S' cs' n day known∧S'.foldl (eJ cs') fK=Lw i)∧vE (Lw i)):
  aaq 12 [.agg #[ve,vl,vp],I n,I day,I known] w fun v w'=>∃H1 a m qs,HLe H H1∧v= .tuple #[.slice a (List.length qs) m,I e]∧RS H1 2 (.slice a (List.length qs) m) (qs.map plP)∧(e=0→N5 E c day t Lw E.length qs)∧St H1 w' σ:=by
 by_cases h0:e=0
 ·obtain ⟨bw,rfl,hT⟩:=he.resolve_left fun h=>by have:=h.2;omega
  refine (u7 (t0:=t) (Lw:=Lw) hs hF hp hA hL hn hd hk bw hT h0 aac (fun i hi l' h1 h2=>?_) (fun i hi=>(hW i hi).2)).mono ?_
  ·obtain ⟨⟨S',cs',g1,g2⟩,-⟩:=hW i hi;obtain ⟨S2,g3,g4⟩:=Ew g1 h1 h2;exact ⟨S2,cs',g3,by rw [g4,g2]⟩
  ·rintro v w' ⟨H1,v',qs,h1,rfl,h2,h3,h4⟩;obtain ⟨a,m,rfl⟩:=h2.shape;rw [List.length_map] at h2 ⊢;exact ⟨H1,a,m,qs,h1,by rw [h0],h2,fun _=>h3,h4⟩
 ·refine (wV hs hF hp hA hL hn hd hk ?_).mono ?_
  ·rcases he with ⟨h,_⟩|⟨_,h1,h2⟩
   ·exact .inl h
   ·exact .inr ⟨t,h2,by rw [←h1];exact h0⟩
  ·rintro v w' ⟨H1,e',h1,rfl,h2,h4⟩;have:e'=e:=by
    rcases he with ⟨h,rfl⟩|⟨h,rfl,hT⟩
    ·rcases h2 with ⟨_,rfl⟩|⟨g,_⟩
     ·rfl
     ·exact (h g).elim
    ·rcases h2 with ⟨g,_⟩|⟨_,t',rfl,KN⟩
     ·exact (g h).elim
     ·rw [hT.uniq KN]
   subst this;exact ⟨H1,none,0,[],h1,rfl,RS.nil _ _ _ _,fun h=>(h0 h).elim,h4⟩
set_option maxRecDepth 100000 in
theorem Dk:Tryz.prog.stoodInHeld 65=false:=by kernel_rfl
set_option maxRecDepth 100000 in
theorem Dl:Tryz.prog.eqGuardType Tryz.prog.depth 65=false:=by kernel_rfl
set_option maxHeartbeats 16000000 in
theorem rP{w:World}{sl:List Int}{at_ n:Int}{x:Cod}{rs:List (Int×Int)}(hs:St H w σ)(g1:RI H vs sl)(g2:RF5 H v5 fG)(g3:RF4 H v4 fL)(g4:RI H vp pk)(gd:RI H vd days)(gC:Hd H x)(gr:RS H 2 vr (rs.map plP)):
  aaq 3 [.agg #[vs,v5,v4,vp,I z1,I z2,I z3,vd,.string x.name,x.sl,vr],I at_,I n] w fun v w'=>v= .bool true∧∃H',HLe H H'∧St H' w' σ:=by
 obtain ⟨a0,k0,rfl⟩:=RI.shape g1;obtain ⟨a1,k1,rfl⟩:=RF5.shape g2;obtain ⟨a2,k2,rfl⟩:=RF4.shape g3;obtain ⟨a3,k3,rfl⟩:=RI.shape g4;obtain ⟨ad,cd,rfl⟩:=RI.shape gd;obtain ⟨ar,cr,rfl⟩:=gr.shape;rw [List.length_map] at gr ⊢;have m0:=rE at_ (m:=60) ak;refine Cl.o func3 ntmps3 ag3 ?_;refine .af (.bx hs fun b3 w hs=>?_);refine .zn zg (.af (.o (.call call5 rfl (zJ hs) ?_)));rintro _ w ⟨rfl,H1,az,hs⟩;refine .z zm (.T (.o (.call call6 rfl (zK hs) ?_)));rintro _ w ⟨rfl,H2,aN,hs⟩;have eI:=az.trans aN;refine .z zpT (.zn zg (.af (.z (zfa pJ) (.y hs (zls [_,_,_,_,_,_,_] isAgg27 sizeOf27) (.o (.call call7 rfl (zO hs (g1.mono eI) (g2.mono eI) (g3.mono eI) (g4.mono eI)) ?_))))));rintro _ w ⟨H3,s,y,vst,vwa,vrd,vc,vy,bA,rfl,hM,hK,h1,h2,h3,h4,hY,hs⟩;obtain ⟨ast,cst,rfl⟩:=RI.shape h1;obtain ⟨awa,cwa,rfl⟩:=RI.shape h2;obtain ⟨ard,crd,rfl⟩:=RRd.shape h3;obtain ⟨ac,cc,rfl⟩:=RCm.shape h4;obtain ⟨ay,cy,rfl⟩:=RI.shape hY;have OG:=hM.rs;have AU:=hM.cs;have jm:=eI.trans bA;refine .z zm (.z zex (.z zex (.o (.alloc hs mP rfl fun b8 w hs=>?_))));refine .o (.aL (vs:=[_,_,_,_,_,_,_,_]) hs rfl rfl bu fun w hs=>?_);refine .zn zg (.af (.y hs (zls [_,_,_,_,_,_,_,_] df bu) (.z (zfa pI) (.y hs (zld aC) (.o (.call call8 rfl (um (s:=s) (hull:=false) (room:=5) hs h1 h2 h3 h4 (gd.mono jm) hM rfl) ?_))))));rintro v43 w ⟨H5,ib,hE,hs⟩;have Vx:=JY days;obtain ⟨S,cs,u,hA,-,Pc,hU,Q4⟩:=N0 (q:=⟨ast,cst,awa,cwa⟩) (k:=CA at_ 60) hM Vx ak;obtain ⟨Lw,VM⟩:=M1 (q:=⟨ast,cst,awa,cwa⟩) (k:=CA at_ 60) hM Vx ak hK hA;have hL:vE (S.foldl (eJ cs) fK):=by rw [Pc];exact ⟨fun _=>rfl,.inr ⟨_,u,rfl,hU.ok,hU.sound hM hK⟩⟩
 have hth:(S.foldl (eJ cs) fK).there=true:=by rw [Pc]
 have Z6:=kf 5 (eV days) s ⟨ast,cst,awa,cwa⟩ s.cs.length;clear Pc hU;generalize jV 5 (eV days) s ⟨ast,cst,awa,cwa⟩ s.cs.length=E at*;obtain ⟨aE,cE,rfl⟩:=hE.shape;have vT:=jm.trans ib;refine .zn zg (.af (.y hs (zls [_,_,_,_,_,_,_,_,_,_,_] isAgg33 sizeOf33) (.z zm (.o (.call call9 rfl (qO hs hE (gC.mono vT) (RS.mono gr vT)) ?_)))));rintro _ w ⟨H6,vl,vps,l7,rfl,hF,hs⟩;obtain ⟨al,cl,rfl⟩:=hF.law.shape;obtain ⟨ap,cp,rfl⟩:=hF.psg.shape;have QC:=SL (rs:=rs) (k:=min 3 rs.length) ak;refine .o (.alloc hs IK rfl fun EU w hs=>?_);refine .o (.aL (vs:=[_,_,_]) hs rfl rfl dQ fun w hs=>?_);refine .nil (.af (.z zm (.o (.call kP rfl (kz hs ak) ?_))));rintro _ w ⟨rfl,hs⟩;refine .zn zg (.af (.y hs (zls [_,_,_] jT dQ) (.z zm (.o (.call call11 rfl (ir hs hF QC hA hL ak ak ak) ?_)))));rintro _ w ⟨H7,t,e,HU,rfl,he,hs⟩;refine .z zm (.z zex (.z zex (.o (.alloc hs IJ rfl fun lJ w hs=>?_))));refine .o (.aL (vs:=[_,_,_,_]) hs rfl rfl jP fun w hs=>?_);refine .zn zg (.af (.y hs (zls [_,_,_] jT dQ) (.z zm (.o (.call call12 rfl (u9 (Lw:=Lw) hs (hF.mono HU) QC hA hL ak ak ak ak he (fun i hi=>⟨(VM i hi).1,(VM i hi).2.1⟩)) ?_)))));rintro _ w ⟨H8,aq,cq,qs,HT,rfl,hQ,NB,hs⟩;have yL:=vT.trans l7;have OS:=yL.trans (HU.trans HT);have OQ:=l7.trans (HU.trans HT);refine .z zm (.z zex (.z zex (.z zg (.zn zg (.seq (.af (.z zm (.z fF (.z zm (.T (.z zm (.T (.z zm (.T (.z gv ?_)))))))))))))));rw [decide_eq_true rfl];refine .zn zpF (.cF (.skip (nT (.seq (.af (.z zm (.zn gv (.gN rfl (fun TY=>?_) (fun TY=>?_)))))))))
 ·exact .af (.zn zg (.ret (rT (Fin.aW results3 rfl ⟨rfl,H8,OS,hs.out⟩))))
 ·refine .skip (nT (.af (.z zm (.z zm ?_))));have Xu:e=0:=by simpa using TY
  obtain ⟨bw,hte,hT⟩:=he.resolve_left fun h=>by have:=h.2;omega
  replace NB:=NB Xu;refine .o (.call call13 rfl (yE hs (hE.mono OQ) hA ak ak ak ak hth) ?_);rintro _ w ⟨H9,v70,rps,D,QG,rfl,X4,Tr,hD,hs⟩;obtain ⟨arp,crp,rfl⟩:=X4.shape;rw [List.length_map] at*;have hrpl:rps.length≤9223372036854775807:=X4.len.2.2;have Zp:qs.length≤9223372036854775807:=hQ.len.2.2;have Tz:∀q∈qs,q∈rps:=fun q hq=>by
   obtain ⟨j,hj,rfl,hS⟩:=(NB q).1 hq;refine Tr.mem_iff.2 (List.mem_map.2 ⟨evG E j,Rj hA (hD Q4) hj ?_,rfl⟩);refine Classical.byContradiction fun hn=>?_
   rw [(VM j hj).2.2 hn,G7.iff hT] at hS
   rcases hS with g|g
   ·exact g ak
   ·exact g ⟨⟨rfl,rfl⟩,rfl,rfl⟩
  have Yu:(1:Int)≤E.length:=by omega
  have Vs:=rE n (m:=(E.length:Int)) ak;obtain ⟨i0,hi0⟩:∃i0:Nat,CA n (E.length:Int)=(i0:Int):=⟨(CA n (E.length:Int)).toNat,ak⟩;have Kn:i0<E.length:=by omega
  have CB:=dp Kn;have OP:=OQ.trans QG;have TH:=OS.trans QG;refine .z zm (.z zex (.z zex (.z zg (.zn zg (.af (.z zm (.z zm (.z zm (.z (bT aD) (.o (.call kP rfl (kz hs ⟨Yu,ak⟩) ?_)))))))))));rintro _ w ⟨rfl,hs⟩;rw [hi0];refine .ixX (enc:=Ev.c) hs (hE.mono OP).rs rfl rfl aD aH CB rfl ?_;intro b81 o81 QO;refine .z (zfa bM) ?_;refine .q hs (bj (vs:=[I (evG E i0).off,I (evG E i0).seq]) rfl cj bk (fun j v hj=>by
   have ZA:j<2:=(List.getElem?_eq_some_iff.1 hj).1;have:j=0∨j=1:=by omega
   rcases this with rfl|rfl
   ·exact QO 0 v hj
   ·exact QO 1 v hj)) ?_
  refine .o (.alloc hs IH rfl fun Cj w hs=>?_);refine .o (.aL (vs:=[_,_]) hs rfl rfl bk fun w hs=>?_);refine .nil (.af (.zn zg (.seq (.af (.z zm (.z (bT du) (.zn zm (.for (N:=qs.length) (J:=fun k fr w=>∃is,fr=[(84,.slice aq qs.length cq),(20,.bool is),(19,Pt Cj),(18,I 0),(17,.slice arp rps.length crp),(13,Pt lJ),(12,I (CA at_ 60)),(10,.slice aE E.length cE),(3,Pt b3)]∧(is=true↔atP (evG E i0)∈qs.take k)∧St H9 w (.blk Cj [I (evG E i0).off,I (evG E i0).seq]:: .blk lJ [I t.gl,I t.gh,I t.nl,I t.nh]:: .blk b3 [.slice a0 sl.length k0,.slice a1 fG.length k1,.slice a2 fL.length k2,.slice a3 pk.length k3,I z1,I z2,I z3,.slice ad days.length cd,.string x.name,x.sl,.slice ar rs.length cr]::σ)) ak ?_ ?_ ?_))))))))
  ·exact .mk ⟨false,rfl,aU,hs.sb⟩
  ·rintro k fr w hk ⟨is,rfl,TL,hs⟩;obtain ⟨⟨q1,q2⟩,hq⟩:=nth (l:=qs) hk;have hqm:=Tz _ (List.mem_of_getElem? hq);have DP:=eH hq;refine .block (.af (.ixX (enc:=plP) hs (RS.mono hQ QG) rfl rfl du bk hq rfl ?_));intro b88 o88 TW;refine .q hs (bj (vs:=[I q1,I q2]) rfl cj bk TW) (.o (.alloc hs IH rfl fun Iw w hs=>?_));refine .o (.aL (vs:=[_,_]) hs rfl rfl bk fun w hs=>?_);refine .nil (.af (.zn zg (.seq (.af (.z zm (.z (bT du) (.zn zm (.for (N:=rps.length) (J:=fun j fr w=>∃m,fr=[(90,.slice arp rps.length crp),(23,.bool m),(22,Pt Iw),(86,I (k:Int)),(85,I (qs.length:Int)),(84,.slice aq qs.length cq),(20,.bool is),(19,Pt Cj),(18,I 0),(17,.slice arp rps.length crp),(13,Pt lJ),(12,I (CA at_ 60)),(10,.slice aE E.length cE),(3,Pt b3)]∧(m=true↔(q1,q2)∈rps.take j)∧St H9 w (.blk Iw [I q1,I q2]:: .blk Cj [I (evG E i0).off,I (evG E i0).seq]:: .blk lJ [I t.gl,I t.gh,I t.nl,I t.nh]:: .blk b3 [.slice a0 sl.length k0,.slice a1 fG.length k1,.slice a2 fL.length k2,.slice a3 pk.length k3,I z1,I z2,I z3,.slice ad days.length cd,.string x.name,x.sl,.slice ar rs.length cr]::σ)) ak ?_ ?_ ?_))))))))
   ·exact .mk ⟨false,rfl,aU,hs.sb⟩
   ·rintro j fr w hj ⟨m,rfl,hm,hs⟩;obtain ⟨⟨p1,p2⟩,hp⟩:=nth (l:=rps) hj;have Zl:=eH hp;refine .block (.af (.ixX (enc:=plP) hs X4 rfl rfl du bk hp rfl ?_));intro b94 o94 TU;refine .q hs (bj (vs:=[I p1,I p2]) rfl cj bk TU) (.o (.alloc hs IH rfl fun Lj w hs=>?_));refine .o (.aL (vs:=[_,_]) hs rfl rfl bk fun w hs=>?_);refine .nil (.region (.z zm (.z zm (.bif (t':=97) rfl (fun D4=>?_) (fun D4=>?_)))))
    ·exact .Fs 3 1 false (.z zpT (.zn zg (nB (nT (.mk ⟨true,rfl,by rw [Zl,List.mem_append];exact ⟨fun _=> .inl (hm.1 (by simpa using D4)),fun _=>rfl⟩,hs.sb⟩)))))
    ·refine .T (.y hs (zls [_,_] cj bk) (.T (.y hs (zls [_,_] cj bk) (.T ?_))));refine .q hs (sI Dk Dl jS (fun f hf=>by
      simp only [List.mem_cons,List.not_mem_nil,or_false] at hf
      rcases hf with rfl|rfl<;>exact ⟨by decide,aJ,aj⟩) rfl rfl) ?_
     refine .z zpF (.zn zg (nB (nT ?_)));exact .mk ⟨decide (p1=q1∧p2=q2),rfl,by
      have W9:¬(q1,q2)∈rps.take j:=fun h=>by have:=hm.2 h;simp [this] at D4
      rw [Zl,List.mem_append,List.mem_singleton,decide_eq_true_eq,Prod.mk.injEq];exact ⟨fun h=> .inr ⟨h.1.symm,h.2.symm⟩,fun h=>h.elim (fun g=>(W9 g).elim) (fun g=>⟨g.1.symm,g.2.symm⟩)⟩,hs.sb⟩
   ·rintro fr w ⟨m,rfl,hm,hs⟩;rw [List.take_length] at hm;obtain rfl:m=true:=hm.2 hqm;refine nT (.seq (.af (.z zm (.zn fF (.cF (.skip (nT (.region (.z zm (.z zm (.bif (t':=106) rfl (fun KL=>?_) (fun KL=>?_))))))))))))
    ·exact .Fs 3 1 false (.z zpT (.zn zg (nB (nT (.mk ⟨true,rfl,by rw [DP,List.mem_append];exact ⟨fun _=> .inl (TL.1 (by simpa using KL)),fun _=>rfl⟩,hs.sb⟩)))))
    ·refine .T (.y hs (zls [_,_] cj bk) (.T (.y hs (zls [_,_] cj bk) (.T ?_))));refine .q hs (sI Dk Dl jS (fun f hf=>by
      simp only [List.mem_cons,List.not_mem_nil,or_false] at hf
      rcases hf with rfl|rfl<;>exact ⟨by decide,aJ,aj⟩) rfl rfl) ?_
     refine .z zpF (.zn zg (nB (nT ?_)));exact .mk ⟨decide (q1=(evG E i0).off∧q2=(evG E i0).seq),rfl,by
      have W9:¬atP (evG E i0)∈qs.take k:=fun h=>by have:=TL.2 h;simp [this] at KL
      rw [DP,List.mem_append,List.mem_singleton,decide_eq_true_eq];unfold atP at*;rw [Prod.mk.injEq];exact ⟨fun h=> .inr ⟨h.1.symm,h.2.symm⟩,fun h=>h.elim (fun g=>(W9 g).elim) (fun g=>⟨g.1.symm,g.2.symm⟩)⟩,hs.sb⟩
  ·rintro fr w ⟨is,rfl,TL,hs⟩;rw [List.take_length] at TL;have KO:is=true↔G7 x (10:Int) t (Lw i0):=by
    rw [TL,NB];constructor
    ·rintro ⟨j,hj,h1,h2⟩;have:=congrArg Prod.snd h1;obtain rfl:=Nf hA.hist Kn hj this;exact h2
    ·exact fun h=>⟨i0,Kn,rfl,h⟩
   refine nT (.af (.z zm (.y hs (zls [_,_] cj bk) (.o (.call call14 rfl (nu hs (hE.mono OP) hA.hist Kn) ?_)))));rintro _ w ⟨H10,l',u',TG,rfl,Z3,hH',QL,hs⟩;obtain ⟨au,cu,rfl⟩:=Z3.shape;obtain ⟨⟨S1,cs1,hA1,Xq⟩,Sa,-⟩:=VM i0 Kn;obtain ⟨S2,NC,TQ⟩:=Ew hA1 hH' QL;rw [Xq] at TQ;have Fy:=TH.trans TG;refine .z zm (.z zex (.z zex (.z zg (.zn zg (.af (.y hs (zls [_,_,_,_,_,_,_,_,_,_,_] isAgg33 sizeOf33) (.z zm (.o (.call call9 rfl (qO hs Z3 (gC.mono Fy) (RS.mono gr Fy)) ?_)))))))));rintro _ w ⟨H11,tU,vps',Kj,rfl,Yt,hs⟩;refine .z zm (.o (.call call11 rfl (ir hs Yt QC NC (by rw [TQ];exact Sa) ak ak ak) ?_));rintro _ w ⟨H12,t',e',lk,rfl,R3,hs⟩;obtain ⟨-,hte',KN⟩:=R3.resolve_left fun h=>h.1 bw
   rw [TQ] at KN;rw [G7.iff KN] at KO;have TE:=Fy.trans (Kj.trans lk);refine .z zm (.z zex (.z zex (.o (.alloc hs IJ rfl fun UR w hs=>?_))));refine .o (.aL (vs:=[_,_,_,_]) hs rfl rfl jP fun w hs=>?_);refine .zn zg (.af (.z zm (.z fW (.z zm ?_))));refine .T (.z zm (.T (.z fW (.z zpT (.z zm (.T (.z zm (.T (.z zm (.T (.z fW (.T (.z zm (.jK (t':=136) rfl (fun KJ=>?_) (fun KJ=>?_)))))))))))))))
   ·refine .T (.y hs (zls [_,_,_,_] Y7 jP) (.T (.y hs (zls [_,_,_,_] Y7 jP) (.T ?_))));refine .q hs (Gl rfl rfl runUnderlying56 aF aF cR cR F6 om cD aF (fun f hf=>by
     simp only [List.mem_cons,List.not_mem_nil,or_false] at hf
     rcases hf with rfl|rfl<;>exact ⟨by decide,aJ,aj⟩)).1 ?_
    refine .T (.z zpT (.T (.q hs (Sz rfl rfl runUnderlying4) (.z zpT (.zn zg (.ret (Fin.aW results3 rfl ⟨?_,H12,TE,hs.out⟩)))))));have he1:e'=0:=by simpa using KJ
    have Xt:t'.e=0:=by omega
    have key:is=true↔¬((t.gl=t'.gl∧t.gh=t'.gh)∧t.nl=t'.nl∧t.nh=t'.nh):=by
     rw [KO];exact ⟨fun h=>h.elim (fun g=>(g Xt).elim) (fun g q=>g ⟨⟨q.1.1.symm,q.1.2.symm⟩,q.2.1.symm,q.2.2.symm⟩),fun h=> .inr fun q=>h ⟨⟨q.1.1.symm,q.1.2.symm⟩,q.2.1.symm,q.2.2.symm⟩⟩
    by_cases hq:(t.gl=t'.gl∧t.gh=t'.gh)∧t.nl=t'.nl∧t.nh=t'.nh
    ·rw [decide_eq_true hq];have:is=false:=by cases is<;>simp_all
     rw [this];rfl
    ·rw [decide_eq_false hq,key.2 hq];rfl
   ·refine .Fs 3 10 true (.T (.z zpF (.T (.q hs (Sz rfl rfl runUnderlying4) (.z zpT (.zn zg (.ret (Fin.aW results3 rfl ⟨?_,H12,TE,hs.out⟩))))))));have he1:e'≠0:=by simpa using KJ
    have Xt:t'.e≠0:=by omega
    rw [KO.2 (.inl Xt)];rfl
end Go.Proofs.YtfnfiekkdpphjaaGreat
namespace Go.Proofs.YtfnfiekkdpphjaaGreat
open Go.MW Go.ChangeShapes Go.WideShapes Go.RowKit Go.Deep Tryz
set_option maxRecDepth 100000
theorem Pv:Tryz.prog.cellsOf 30=2:=by kernel_rfl
theorem Rr:Tryz.prog.cellsOf 28=1:=by kernel_rfl
theorem UH:Tryz.prog.cellsOf 157=12:=by kernel_rfl
theorem Rt:Tryz.prog.cellsOf 152=1:=by kernel_rfl
theorem UJ:Tryz.prog.cellsOf 216=2:=by kernel_rfl
theorem NW:Tryz.prog.cellsOf 214=1:=by kernel_rfl
theorem UI:Tryz.prog.cellsOf 312=3:=by kernel_rfl
theorem GZ:Tryz.prog.cellsOf 155=10:=by kernel_rfl
theorem Lg:Tryz.prog.cellsOf 154=5:=by kernel_rfl
theorem Le:Tryz.prog.cellsOf 153=1:=by kernel_rfl
theorem Rv:Tryz.prog.cellsOf 315=3:=by kernel_rfl
theorem Ru:Tryz.prog.cellsOf 33=11:=by kernel_rfl
theorem Rs:Tryz.prog.cellsOf 31=1:=by kernel_rfl
theorem UF:Tryz.prog.cellsOf 127=2:=by kernel_rfl
theorem UG:Tryz.prog.cellsOf 9=1:=by kernel_rfl
theorem Wj{α:Type}{l:List α}(h:l.length=11):∃a b c d e f g i j k m,l=[a,b,c,d,e,f,g,i,j,k,m]:=by match l,h with|[a,b,c,d,e,f,g,i,j,k,m],_=>exact ⟨a,b,c,d,e,f,g,i,j,k,m,rfl⟩
theorem Wi{α:Type}{l:List α}(h:l.length=12):∃a b c d e f g i j k m n,l=[a,b,c,d,e,f,g,i,j,k,m,n]:=by match l,h with|[a,b,c,d,e,f,g,i,j,k,m,n],_=>exact ⟨a,b,c,d,e,f,g,i,j,k,m,n,rfl⟩
theorem Wl{α:Type}{l:List α}(h:l.length=10):∃a b c d e f g i j k,l=[a,b,c,d,e,f,g,i,j,k]:=by match l,h with|[a,b,c,d,e,f,g,i,j,k],_=>exact ⟨a,b,c,d,e,f,g,i,j,k,rfl⟩
structure Trd where
 raw:YR
 days:List Int
 cod:Cod
 rs:List (Int×Int)
def aap(H:bp)(v:Value)(t:Trd):Prop:=∃vs v5 v4 vp vd vr,v= .agg #[vs,v5,v4,vp,I t.raw.x,I t.raw.y,I t.raw.z,vd,.string t.cod.name,t.cod.sl,vr]∧(RI H vs t.raw.sp∧RF5 H v5 t.raw.rs∧RF4 H v4 t.raw.cs∧RI H vp t.raw.pk)∧RI H vd t.days∧Hd H t.cod∧RS H 2 vr (t.rs.map plP)
section
variable{H:Type}{enc:TypeId×Value→H}{w:World}{sp:Nat→Bool}{held:Bool}{n:Nat}{cs:List Value}{y:DataW H×List MemPlace}{v:Value}{d:DataW H}{p:List MemPlace}{r:Reach}{base:Nat}
theorem MM(hw:Wt Tryz.prog 153 y.1)(h:DataW.trod enc Tryz.prog w 0 sp held n 153 cs=some y):∃l:Ln,cs=[l.v]∧N4 (hp w) l:=by
 obtain ⟨v,zs,h1,h2,_,h3⟩:=I5 (k:=3) underlying153 underlying315 rfl cR (by
  intro i f hf
  match i with
  |0|1|2=>cases hf;exact ⟨rfl,e9,Cb⟩
  |i+3=>simp at hf) Rv hw h
 obtain ⟨ps,h4,_⟩:=all_map (f:=Pce.c) (Q:=fun _=>True) (css:=zs.map Is) fun c hc=>by
  obtain ⟨z,hz,rfl⟩:=List.mem_map.1 hc;obtain ⟨a,b,c,rfl⟩:=Wg (h3 z hz).1;exact ⟨⟨a,b,c⟩,rfl,trivial⟩
 rw [h4] at h2;obtain ⟨a,c,rfl⟩:=h2.shape;rw [List.length_map] at*;exact ⟨⟨ps,a,c⟩,h1,h2⟩
theorem Ql(hw:Wt Tryz.prog 214 y.1)(h:DataW.trod enc Tryz.prog w 0 sp held n 214 cs=some y):∃(ts:List Tst) (a:Option Addr) (c:Nat),cs=[.slice a ts.length c]∧RS (hp w) 3 (.slice a ts.length c) (ts.map Tst.c):=by
 obtain ⟨v,zs,h1,h2,_,h3⟩:=I5 (k:=3) underlying214 underlying312 rfl cR (by
  intro i f hf
  match i with
  |0|1|2=>cases hf;exact ⟨rfl,e9,Cb⟩
  |i+3=>simp at hf) UI hw h
 obtain ⟨ps,h4,_⟩:=all_map (f:=Tst.c) (Q:=fun _=>True) (css:=zs.map Is) fun c hc=>by
  obtain ⟨z,hz,rfl⟩:=List.mem_map.1 hc;obtain ⟨a,b,c,rfl⟩:=Wg (h3 z hz).1;exact ⟨⟨a,b,c⟩,rfl,trivial⟩
 rw [h4] at h2;obtain ⟨a,c,rfl⟩:=h2.shape;rw [List.length_map] at*;exact ⟨ps,a,c,h1,h2⟩
theorem SR(hw:Wt Tryz.prog 216 y.1)(h:DataW.trod enc Tryz.prog w 0 sp held n 216 cs=some y):∃p:Put,cs=p.v∧N3 (hp w) p:=by
 obtain ⟨ys,m,_,rfl,hlen,qg,hg⟩:=DataW.trod_struct underlying216 h;rw [UJ] at hlen;obtain ⟨c0,c1,rfl⟩:=Wh hlen;obtain ⟨_,h0,k0⟩:=fld hg qg 0 rfl rfl rfl Cb underlying216 hw;obtain ⟨_,h1,k1⟩:=fld hg qg 1 rfl rfl rfl NW underlying216 hw;obtain ⟨m,e0,i0⟩:=CU e9 h0;obtain ⟨ts,a,c,e1,r1⟩:=Ql k1 h1;cases e0;cases e1
 exact ⟨⟨m,ts,a,c⟩,rfl,r1⟩
theorem SO(hw:Wt Tryz.prog 152 y.1)(h:DataW.trod enc Tryz.prog w 0 sp held n 152 cs=some y):∃(ps:List Put) (a:Option Addr) (c:Nat),cs=[.slice a ps.length c]∧RS (hp w) 2 (.slice a ps.length c) (ps.map Put.v)∧∀p∈ps,N3 (hp w) p:=by
 obtain ⟨v,css,h1,h2,_,h3⟩:=xK (k:=2) underlying152 UJ cR hw h;obtain ⟨ps,rfl,h4⟩:=all_map (f:=Put.v) (Q:=fun p=>N3 (hp w) p) (fun c hc=>by
  obtain ⟨m,z,hz,Vh⟩:=h3 c hc;exact SR Vh hz)
 obtain ⟨a,c,rfl⟩:=h2.shape;rw [List.length_map] at*;exact ⟨ps,a,c,h1,h2,h4⟩
theorem SP(hw:Wt Tryz.prog 154 y.1)(h:DataW.trod enc Tryz.prog w 0 sp held n 154 cs=some y):∃G:Nat→Ln,cs=[(G 0).v,(G 1).v,(G 2).v,(G 3).v,(G 4).v]∧∀k<5,N4 (hp w) (G k):=by
 obtain ⟨xs,m,_,rfl,hlen,AR,hg⟩:=DataW.trod_array underlying154 h;rw [Lg] at hlen;have key:∀i,i<5→∃l:Ln,(cs.drop i).take 1=[l.v]∧N4 (hp w) l:=fun i hi=>by
  have h3:=hg i hi;rw [Le,Nat.mul_one,List.getElem?_eq_getElem ak] at h3;exact MM (hw.item underlying154 (List.mem_map.2 ⟨_,List.getElem_mem _,rfl⟩)) h3
 haveI:Inhabited Ln:=⟨⟨[],none,0⟩⟩
 obtain ⟨G,hG⟩:=choose_lt key;obtain ⟨c0,c1,c2,c3,c4,rfl⟩:=len5 hlen;have e0:=(hG 0 cR).1;have e1:=(hG 1 cR).1;have e2:=(hG 2 cR).1;have e3:=(hG 3 cR).1;have e4:=(hG 4 cR).1;simp only [List.drop_succ_cons,List.drop_zero,List.take_succ_cons,List.take_zero,List.cons.injEq,and_true] at e0 e1 e2 e3 e4;exact ⟨G,by rw [e0,e1,e2,e3,e4],fun k hk=>(hG k hk).2⟩
theorem Qm(hw:Wt Tryz.prog 155 y.1)(h:DataW.trod enc Tryz.prog w 0 sp held n 155 cs=some y):∃G:Nat→Ln,cs=[(G 0).v,(G 1).v,(G 2).v,(G 3).v,(G 4).v,(G 5).v,(G 6).v,(G 7).v,(G 8).v,(G 9).v]∧∀k<10,N4 (hp w) (G k):=by
 obtain ⟨xs,m,_,rfl,hlen,AR,hg⟩:=DataW.trod_array underlying155 h;rw [GZ] at hlen;have key:∀i,i<2→∃G:Nat→Ln,(cs.drop (i*5)).take 5=[(G 0).v,(G 1).v,(G 2).v,(G 3).v,(G 4).v]∧∀k<5,N4 (hp w) (G k):=fun i hi=>by
  have h3:=hg i hi;rw [Lg,List.getElem?_eq_getElem ak] at h3;exact SP (hw.item underlying155 (List.mem_map.2 ⟨_,List.getElem_mem _,rfl⟩)) h3
 obtain ⟨G,e0,m0⟩:=key 0 cR;obtain ⟨K,e1,m1⟩:=key 1 cR;obtain ⟨c0,c1,c2,c3,c4,c5,c6,c7,c8,c9,rfl⟩:=Wl hlen;simp only [Nat.zero_mul,Nat.one_mul,List.drop_succ_cons,List.drop_zero,List.take_succ_cons,List.take_zero,List.cons.injEq,and_true] at e0 e1;obtain ⟨rfl,rfl,rfl,rfl,rfl⟩:=e0;obtain ⟨rfl,rfl,rfl,rfl,rfl⟩:=e1;refine ⟨fun k=>if k<5 then G k else K (k - 5),rfl,fun k hk=>?_⟩;by_cases h5:k<5
 ·simp only [h5,if_true];exact m0 k h5
 ·simp only [h5,if_false];exact m1 (k - 5) ak
theorem SQ(hw:Wt Tryz.prog 157 y.1)(h:DataW.trod enc Tryz.prog w 0 sp held n 157 cs=some y):∃x:Ver,cs=x.v∧I0 (hp w) x:=by
 obtain ⟨ys,m,_,rfl,hlen,qg,hg⟩:=DataW.trod_struct underlying157 h;rw [UH] at hlen;obtain ⟨c0,c1,c2,c3,c4,c5,c6,c7,c8,c9,c10,c11,rfl⟩:=Wi hlen;obtain ⟨_,h0,k0⟩:=fld hg qg 0 rfl rfl rfl Cb underlying157 hw;obtain ⟨_,h1,k1⟩:=fld hg qg 1 rfl rfl rfl Rt underlying157 hw;obtain ⟨_,h2,k2⟩:=fld hg qg 2 rfl rfl rfl GZ underlying157 hw;obtain ⟨m,e0,i0⟩:=CU e9 h0;obtain ⟨ps,a,c,e1,r1,r2⟩:=SO k1 h1;obtain ⟨G,e2,r3⟩:=Qm k2 h2;cases e0;cases e1;cases e2
 exact ⟨⟨m,ps,a,c,G⟩,rfl,r1,r2,r3⟩
theorem SN(hw:Wt Tryz.prog 28 y.1)(h:DataW.trod enc Tryz.prog w 0 sp held n 28 cs=some y):∃(ps:List Ver) (a:Option Addr) (c:Nat),cs=[.slice a ps.length c]∧RS (hp w) 12 (.slice a ps.length c) (ps.map Ver.v)∧∀p∈ps,I0 (hp w) p:=by
 obtain ⟨v,css,h1,h2,_,h3⟩:=xK (k:=12) underlying28 UH cR hw h;obtain ⟨ps,rfl,h4⟩:=all_map (f:=Ver.v) (Q:=fun p=>I0 (hp w) p) (fun c hc=>by
  obtain ⟨m,z,hz,Vh⟩:=h3 c hc;exact SQ Vh hz)
 obtain ⟨a,c,rfl⟩:=h2.shape;rw [List.length_map] at*;exact ⟨ps,a,c,h1,h2,h4⟩
theorem Qo(hw:Wt Tryz.prog 30 y.1)(h:DataW.trod enc Tryz.prog w 0 sp held n 30 cs=some y):∃x:Cod,cs=[.string x.name,x.sl]∧Hd (hp w) x:=by
 obtain ⟨ys,m,_,rfl,hlen,qg,hg⟩:=DataW.trod_struct underlying30 h;rw [Pv] at hlen;obtain ⟨c0,c1,rfl⟩:=Wh hlen;obtain ⟨_,h0,k0⟩:=fld hg qg 0 rfl rfl rfl UG underlying30 hw;obtain ⟨_,h1,k1⟩:=fld hg qg 1 rfl rfl rfl Rr underlying30 hw;obtain ⟨s,e0,_,_⟩:=DataW.trod_string underlying9 h0;obtain ⟨ps,a,c,e1,r1,r2⟩:=SN k1 h1;cases e0;cases e1
 exact ⟨⟨s,ps,a,c⟩,rfl,r1,r2⟩
theorem Qk(hw:Wt Tryz.prog 31 y.1)(h:DataW.trod enc Tryz.prog w 0 sp held n 31 cs=some y):∃(v:Value) (rs:List (Int×Int)),cs=[v]∧RS (hp w) 2 v (rs.map plP):=by
 obtain ⟨v,zs,h1,h2,_,h3⟩:=E2 (k:=2) underlying31 underlying127 e9 Cb cR UF hw h;obtain ⟨ls,h4,_⟩:=all_map (f:=plP) (Q:=fun _=>True) (css:=zs.map Is) fun c hc=>by
  obtain ⟨z,hz,rfl⟩:=List.mem_map.1 hc;obtain ⟨a,b,rfl⟩:=Wh (h3 z hz).1;exact ⟨(a,b),rfl,trivial⟩
 exact ⟨v,ls,h1,by rw [←h4];exact h2⟩
theorem Qn(hw:Wt Tryz.prog 27 y.1)(h:DataW.trod enc Tryz.prog w 0 sp held n 27 cs=some y):∃q:YR,YS (hp w) (.agg cs.toArray) q:=by
 obtain ⟨ys,m,_,rfl,hlen,qg,hg⟩:=DataW.trod_struct EG h;rw [Lh] at hlen;obtain ⟨c0,c1,c2,c3,c4,c5,c6,rfl⟩:=len7 hlen;obtain ⟨_,h0,k0⟩:=fld hg qg 0 rfl rfl rfl Lf EG hw;obtain ⟨_,h1,k1⟩:=fld hg qg 1 rfl rfl rfl NY EG hw;obtain ⟨_,h2,k2⟩:=fld hg qg 2 rfl rfl rfl NX EG hw;obtain ⟨_,h3,k3⟩:=fld hg qg 3 rfl rfl rfl Lf EG hw;obtain ⟨_,h4,k4⟩:=fld hg qg 4 rfl rfl rfl aak EG hw;obtain ⟨v0,s0,e0,r0,i0⟩:=JJ k0 h0;obtain ⟨v1,l1,e1,r1⟩:=MO k1 h1;obtain ⟨v2,l2,e2,r2⟩:=MN k2 h2;obtain ⟨v3,s3,e3,r3,i3⟩:=JJ k3 h3;obtain ⟨xs,g1,g2,g3⟩:=F8 underlying25 e9 Cb aak h4;obtain ⟨a,b,c,rfl⟩:=Wg g1;cases e0;cases e1;cases e2;cases e3;cases g2
 exact ⟨⟨s0,l1,l2,s3,a,b,c⟩,⟨_,_,_,_,rfl,r0,r1,r2,r3⟩⟩
theorem HI(hv:Value.okWide Tryz.prog w r base 33 v)(h:DataW.Trod enc Tryz.prog w 0 sp held 33 v d p)(hw:Wt Tryz.prog 33 d):∃x:Trd,aap (hp w) v x∧True:=by
 obtain ⟨cs,n,rfl,hn,_⟩:=Iz EF hv h;obtain ⟨ys,m,_,e,hlen,qg,hg⟩:=DataW.trod_struct EF hn;cases e
 rw [Ru] at hlen;obtain ⟨c0,c1,c2,c3,c4,c5,c6,c7,c8,c9,c10,rfl⟩:=Wj hlen;obtain ⟨_,h0,k0⟩:=fld hg qg 0 rfl rfl rfl Lh EF hw;obtain ⟨_,h1,k1⟩:=fld hg qg 1 rfl rfl rfl Lf EF hw;obtain ⟨_,h2,k2⟩:=fld hg qg 2 rfl rfl rfl Pv EF hw;obtain ⟨_,h3,k3⟩:=fld hg qg 3 rfl rfl rfl Rs EF hw;obtain ⟨q,vs,v5,v4,vp,e0,r0,r1,r2,r3⟩:=Qn k0 h0;obtain ⟨vd,days,e1,r4,_⟩:=JJ k1 h1;obtain ⟨x,e2,r5⟩:=Qo k2 h2;obtain ⟨vr,rs,e3,r6⟩:=Qk k3 h3;cases e0;cases e1;cases e2;cases e3
 exact ⟨⟨q,days,x,rs⟩,⟨_,_,_,_,_,_,rfl,⟨r0,r1,r2,r3⟩,r4,r5,r6⟩,trivial⟩
end
end Go.Proofs.YtfnfiekkdpphjaaGreat
