/-
  Texts of these claims, joined: Mzn Mzo Mzp Mzq Mzr.
-/
import Derived.Test.YteajddicacjkhaaGreatEb
namespace Go.MW
inductive xl(v:Srv)(k:Nat):Int→Int→Int→Prop
 |up {lo hi e:Int} (h:0<k) (g:xa v ⟨1,0,k⟩ lo hi e):xl v k lo hi e
 |fls (h:k=0) (g:cI v) (g1:¬v.sys.Sound):xl v k 0 0 35
 |zero (h:k=0) (g:cI v) (g1:v.sys.Sound):xl v k 0 0 0
theorem xl.uniq{v:Srv}{k:Nat}{a b c d e f:Int}(h:xl v k a b e)(g:xl v k c d f):a=c∧b=d∧e=f:=by
 cases h with
 |up h h1=>
  cases g with
  |up _ g1=>exact h1.uniq g1
  |fls g=>omega
  |zero g=>omega
 |fls h _ h1=>
  cases g with
  |up g=>omega
  |fls=>exact ⟨rfl,rfl,rfl⟩
  |zero _ _ g=>exact (h1 g).elim
 |zero h _ h1=>
  cases g with
  |up g=>omega
  |fls _ _ g=>exact (g h1).elim
  |zero=>exact ⟨rfl,rfl,rfl⟩
def lE(n d:Int):Int:=n*d/1000
def xA(lo dlo dhi:Int):Int:=min (lE lo dlo) (lE lo dhi)
def xC(hi dlo dhi:Int):Int:=max (lE hi dlo) (lE hi dhi)
structure Rng where
 lo:Int
 hi:Int
def Rng.c(r:Rng):List Value:=[I r.lo,I r.hi]
def GV(m:Rng)(x:Lg):Rng:=⟨max (m.lo - x.bhi) 0,max (m.hi - x.blo) 0⟩
def mm(m:Rng)(r:List Lg):Nat→Rng
 |0=>m
 |k+1=>GV (mm m r k) (lg0 r k)
def msL(m:Rng)(r:List Lg)(k:Nat):List Rng:=(List.range (k+1)).map (mm m r)
theorem EJ(m:Rng)(r:List Lg)(k:Nat):msL m r (k+1)=msL m r k++[mm m r (k+1)]:=by unfold msL;rw [List.range_succ,List.map_append];rfl
theorem nx(m:Rng)(r:List Lg)(k:Nat):(msL m r k).length=k+1:=by simp [msL]
theorem Cz(m:Rng)(r:List Lg){k i:Nat}(h:i≤k):(msL m r k)[i]? =some (mm m r i):=by
 unfold msL;rw [List.getElem?_map,List.getElem?_range (by omega)];rfl
theorem CA{m:Rng}{r:List Lg}(hm:eQ m.lo m.hi)(hr:∀i<r.length,AR (lg0 r i)):∀{i:Nat},i≤r.length→eQ (mm m r i).lo (mm m r i).hi
 |0,_=>hm
 |i+1,h=>by
  have h1:=CA hm hr (i:=i) (by omega)
  have h2:=(hr i (by omega)).burn
  simp only [mm,GV,eQ] at h1 h2 ⊢
  omega
def rgc(l:List Rng):List (List Value):=l.map Rng.c
theorem Gl(l:List Rng):∀c∈rgc l,c.length=2:=fun c hc=>by simp only [rgc,List.mem_map] at hc;obtain ⟨x,_,rfl⟩:=hc;rfl
theorem qS(l:List Rng):(rgc l).length=l.length:=by simp [rgc]
theorem Eh(l:List Rng)(t:Rng):(rgc (l++[t])).flatten=(rgc l).flatten++t.c:=by simp [rgc]
def RRg(H:bB)(v:Value)(l:List Rng):Prop:=RS H 2 v (rgc l)
theorem RRg.mono{H H':bB}{v:Value}{l:List Rng}(h:RRg H v l)(hl:HLe H H'):RRg H' v l:=RS.mono h hl
theorem RRg.shape{H:bB}{v:Value}{l:List Rng}(h:RRg H v l):∃a cap,v= .slice a l.length cap:=by
 obtain ⟨a,c,h⟩:=RS.shape h
 exact ⟨a,c,by rw [h,qS]⟩
theorem RS.clip{H:bB}{m n cap:Nat}{a:Option Addr}{cs:List (List Value)}(h:RS H m (.slice a n cap) cs):n≤cap∧RS H m (.slice a n n) cs:=by
 obtain ⟨a',cap',e,h3,h4,h5⟩:=h
 cases e
 exact ⟨h3,a,cs.length,rfl,Nat.le_refl _,h4,h5⟩
theorem RFb.mono{H H':bB}{v:Value}{l:List Fbd}(h:RFb H v l)(hl:HLe H H'):RFb H' v l:=RS.mono h hl
theorem RSn.mono{H H':bB}{v:Value}{l:List Ssn}(h:RSn H v l)(hl:HLe H H'):RSn H' v l:=RS.mono h hl
theorem RLg.mono{H H':bB}{v:Value}{l:List Lg}(h:RLg H v l)(hl:HLe H H'):RLg H' v l:=RS.mono h hl
abbrev svC(s:Srv)(a b c d:Value):List Value:=[I s.sp.id,I s.sp.src,a,b,I s.sp.al,I s.sp.up,c,d]
abbrev svA(s:Srv)(a b c d:Value):Value:= .agg #[I s.sp.id,I s.sp.src,a,b,I s.sp.al,I s.sp.up,c,d]
abbrev lnC(l:Lns)(a b:Value):List Value:=[I l.length,I l.depth,a,b]
abbrev lnA(l:Lns)(a b:Value):Value:= .agg #[I l.length,I l.depth,a,b]
abbrev lgC(x:Lg):List Value:=[I x.zone,I x.fr,I x.to,I x.dlo,I x.dhi,I x.blo,I x.bhi]
abbrev lgA(x:Lg):Value:= .agg #[I x.zone,I x.fr,I x.to,I x.dlo,I x.dhi,I x.blo,I x.bhi]
structure SvM(H:bB)(s:Srv)(a b c d:Value):Prop where
 st:RI H a s.sp.st
 wa:RI H b s.sp.wa
 rd:RRd H c s.rs
 cm:RCm H d s.cs
theorem SvM.mono{H H':bB}{s:Srv}{a b c d:Value}(h:SvM H s a b c d)(hl:HLe H H'):SvM H' s a b c d:=⟨h.st.mono hl,h.wa.mono hl,h.rd.mono hl,h.cm.mono hl⟩
structure LnM(H:bB)(l:Lns)(a b:Value):Prop where
 tb:RFb H a l.table
 sn:RSn H b l.seasons
theorem LnM.mono{H H':bB}{l:Lns}{a b:Value}(h:LnM H l a b)(hl:HLe H H'):LnM H' l a b:=⟨h.tb.mono hl,h.sn.mono hl⟩
structure RtV where
 s:Srv
 l:Lns
 a:Value
 b:Value
 c:Value
 d:Value
 t:Value
 n:Value
 lg:Value
 ms:Value
 mr:Value
abbrev RtV.cs(z:RtV):List Value:=[I z.s.sp.id,I z.s.sp.src,z.a,z.b,I z.s.sp.al,I z.s.sp.up,z.c,z.d,I z.l.length,I z.l.depth,z.t,z.n,z.lg,z.ms,z.mr]
abbrev RtV.agg(z:RtV):Value:= .agg #[I z.s.sp.id,I z.s.sp.src,z.a,z.b,I z.s.sp.al,I z.s.sp.up,z.c,z.d,I z.l.length,I z.l.depth,z.t,z.n,z.lg,z.ms,z.mr]
abbrev RtV.zero:RtV:=⟨⟨⟨0,0,[],[],0,0⟩,[],[]⟩,⟨0,0,[],[]⟩,.slice none 0 0,.slice none 0 0,.slice none 0 0,.slice none 0 0,.slice none 0 0,.slice none 0 0,.slice none 0 0,.slice none 0 0,.slice none 0 0⟩
theorem RS.one{H:bB}{m:Nat}{v:Value}{cs:List (List Value)}(h:RS H m v cs):v.oneCell'=true:=by obtain ⟨a,c,rfl⟩:=h.shape;rfl
theorem RtV.one{H:bB}{s:Srv}{l:Lns}{r:List Lg}{a b c d t n lg ms mr:Value}(g:SvM H s a b c d)(gl:LnM H l t n)(gr:RLg H lg r)(hm:ms.oneCell'=true)(hk:mr.oneCell'=true):(RtV.cs ⟨s,l,a,b,c,d,t,n,lg,ms,mr⟩).all Value.oneCell'=true:=by
 have h1:=RS.one g.st
 have h2:=RS.one g.wa
 have h3:=RS.one g.rd
 have h4:=RS.one g.cm
 have h5:=RS.one gl.tb
 have h6:=RS.one gl.sn
 have h7:=RS.one gr
 simp only [List.all_cons,List.all_nil,h1,h2,h3,h4,h5,h6,h7,hm,hk,Bool.and_true]
 rfl
theorem Jd{a d:Int}(hd:1≤d)(ha: -4608000000000000000≤a∧a≤4608000000000000000): -4608000000000000000≤a.tdiv d∧a.tdiv d≤4608000000000000000:=by
 have h1:=sR (n:=a) (d:=d) (by omega)
 have h2:a/d≤4608000000000000000:=Int.ediv_le_of_le_mul (by omega) (by
  have:=Int.mul_le_mul_of_nonneg_left hd (show (0:Int)≤4608000000000000000 by omega);omega)
 have h3: -4608000000000000000≤a/d:=Int.le_ediv_of_mul_le (by omega) (by
  have:=Int.mul_le_mul_of_nonneg_left hd (show (0:Int)≤4608000000000000000 by omega);omega)
 by_cases h0:0≤a
 ·rw [Int.tdiv_eq_ediv_of_nonneg h0];omega
 ·split at h1
  ·have:a/d<0:=Int.ediv_neg_of_neg_of_pos (by omega) (by omega)
   omega
  ·omega
theorem CW{l:Lns}(hl:gL l){i:Nat}(hi:i<l.table.length)(h1:(fb0 l.table (i - 1)).len<l.length)(h2:l.length<(fb0 l.table i).len):
  (-500000000≤((fb0 l.table (i - 1)).least - (fb0 l.table i).least)*(l.length - (fb0 l.table (i - 1)).len)∧((fb0 l.table (i - 1)).least - (fb0 l.table i).least)*(l.length - (fb0 l.table (i - 1)).len)≤500000000)∧
  -5000≤((fb0 l.table (i - 1)).least - (fb0 l.table i).least)*(l.length - (fb0 l.table (i - 1)).len)/((fb0 l.table i).len - (fb0 l.table (i - 1)).len)∧((fb0 l.table (i - 1)).least - (fb0 l.table i).least)*(l.length - (fb0 l.table (i - 1)).len)/((fb0 l.table i).len - (fb0 l.table (i - 1)).len)≤5000:=by
 have ha:=hl.table (i - 1) (by omega)
 have hb:=hl.table i hi
 have a1:=ha.len
 have a2:=ha.least
 have b1:=hb.len
 have b2:=hb.least
 have hX: -5000≤(fb0 l.table (i - 1)).least - (fb0 l.table i).least∧(fb0 l.table (i - 1)).least - (fb0 l.table i).least≤5000:=by omega
 generalize (fb0 l.table (i - 1)).least - (fb0 l.table i).least=X at*
 have m1:=Int.mul_le_mul_of_nonneg_right hX.2 (show 0≤l.length - (fb0 l.table (i - 1)).len by omega)
 have m2:=Int.mul_le_mul_of_nonneg_right hX.1 (show 0≤l.length - (fb0 l.table (i - 1)).len by omega)
 exact ⟨by omega,Int.le_ediv_of_mul_le (by omega) (by omega),Int.ediv_le_of_le_mul (by omega) (by omega)⟩
theorem uJ.bd{l:Lns}(hl:gL l){n:Int}{b:Bool}(h:uJ l n b): -10000≤n∧n≤10000:=by
 cases h with
 | @at_ i hi h=>have:=(hl.table i hi).least;omega
 | @mid i hi h0 h1 h2=>
  have:=CW hl hi h1 h2
  have:=(hl.table (i - 1) (by omega)).least
  unfold Az;omega
 |none=>omega
theorem yZ.less{l:List Int}{h g:Int}(p:yZ l h (-1))(hg:g≤h):yZ l g (-1):=
 ⟨by omega,by omega,fun i hi=>by have:=p.all i hi;omega⟩
def mn(ss:List Ssn)(zone fr:Int):Nat→Int
 |0=>0
 |n+1=>max (mn ss zone fr n) (jG ss zone (1+(fr+n)%365))
theorem An{ss:List Ssn}(h:∀s∈ss,Bu s)(zone fr:Int):∀n,0≤mn ss zone fr n∧mn ss zone fr n≤5000
 |0=>by simp [mn]
 |n+1=>by
  have:=An h zone fr n
  have:=yu h zone (1+(fr+n)%365)
  simp only [mn];omega
theorem ve(ss:List Ssn)(zone fr:Int){n:Nat}:∀{m:Nat},n≤m→mn ss zone fr n≤mn ss zone fr m
 |0,h=>by obtain rfl:n=0:=by omega
          exact Int.le_refl _
 |m+1,h=>by
  rcases Nat.lt_or_ge n (m+1) with e|e
  ·have:=ve ss zone fr (m:=m) (n:=n) (by omega)
   simp only [mn];omega
  ·obtain rfl:n=m+1:=by omega
   exact Int.le_refl _
theorem EK(ss:List Ssn)(zone fr:Int){i n:Nat}(h:i<n):jG ss zone (1+(fr+i)%365)≤mn ss zone fr n:=by
 have:=ve ss zone fr (n:=i+1) (m:=n) (by omega)
 simp only [mn] at this;omega
def lH(x:Lg):Nat:=(min x.to (x.fr+364) - x.fr+1).toNat
theorem tP{x:Lg}(h:AR x):0<lH x∧lH x≤365∧x.fr+lH x - 1≤x.to:=by
 have:=h.fr
 unfold lH;omega
inductive uI(wa:List Int)(l:Lns)(x:Lg):Int→Int→Prop
 |none {b:Int} (h:uJ l b false):uI wa l x 0 3
 |above {n:Int} (h:uJ l n true) (hk:yZ wa (l.depth - n - mn l.seasons x.zone x.fr (lH x)) (-1)):uI wa l x 0 66
 |ok {n k:Int} (h:uJ l n true) (hk:yZ wa (l.depth - n - mn l.seasons x.zone x.fr (lH x)) k) (hn:0≤k):uI wa l x k 0
theorem uI.uniq{wa:List Int}{l:Lns}{x:Lg}(hl:gL l){a b e f:Int}(h:uI wa l x a e)(g:uI wa l x b f):a=b∧e=f:=by
 cases h with
 |none h=>
  cases g with
  |none=>exact ⟨rfl,rfl⟩
  |above g=>cases (h.uniq hl g).2
  |ok g=>cases (h.uniq hl g).2
 |above h hk=>
  cases g with
  |none g=>cases (h.uniq hl g).2
  |above=>exact ⟨rfl,rfl⟩
  |ok g gk gn=>
   obtain ⟨rfl,_⟩:=h.uniq hl g
   have:=hk.uniq gk
   omega
 |ok h hk hn=>
  cases g with
  |none g=>cases (h.uniq hl g).2
  |above g gk=>
   obtain ⟨rfl,_⟩:=h.uniq hl g
   have:=hk.uniq gk
   omega
  |ok g gk _=>
   obtain ⟨rfl,_⟩:=h.uniq hl g
   exact ⟨hk.uniq gk,rfl⟩
theorem uI.bd{wa:List Int}{l:Lns}{x:Lg}{k e:Int}(h:uI wa l x k e)(hw:0<wa.length):0≤k∧k<wa.length∧(e≠0→k=0):=by
 cases h with
 |none=>omega
 |above=>omega
 |ok _ hk hn=>have:=hk.high;omega
inductive yM(l:Lns):Int→Int→Prop
 |lines (h:¬gL l):yM l 0 60
 |none {b:Int} (h:gL l) (h1:uJ l b false):yM l 0 3
 |ok {n:Int} (h:gL l) (h1:uJ l n true):yM l n 0
theorem yM.uniq{l:Lns}{a b e f:Int}(h:yM l a e)(g:yM l b f):a=b∧e=f:=by
 cases h with
 |lines h=>cases g with
  |lines=>exact ⟨rfl,rfl⟩
  |none g=>exact (h g).elim
  |ok g=>exact (h g).elim
 |none h h1=>cases g with
  |lines g=>exact (g h).elim
  |none=>exact ⟨rfl,rfl⟩
  |ok _ g=>cases (h1.uniq h g).2
 |ok h h1=>cases g with
  |lines g=>exact (g h).elim
  |none _ g=>cases (h1.uniq h g).2
  |ok _ g=>exact ⟨(h1.uniq h g).1,rfl⟩
inductive yY(l:Lns)(zone day:Int):Int→Prop
 |lines (h:¬gL l):yY l zone day 60
 |zone (h:gL l) (h1:¬(1≤zone∧zone≤20)):yY l zone day 65
 |day (h:gL l) (h1:1≤zone∧zone≤20) (h2:¬(0≤day∧day≤100000)):yY l zone day 6
 |ok (h:gL l) (h1:1≤zone∧zone≤20) (h2:0≤day∧day≤100000):yY l zone day 0
theorem yY.uniq{l:Lns}{z d e f:Int}(h:yY l z d e)(g:yY l z d f):e=f:=by
 cases h<;>cases g<;>first|rfl|contradiction
theorem yY.zero{l:Lns}{z d:Int}(h:yY l z d 0):gL l∧(1≤z∧z≤20)∧0≤d∧d≤100000:=by
 generalize he:(0:Int)=e at h
 cases h with
 |ok h h1 h2=>exact ⟨h,h1,h2⟩
 |_=>omega
inductive IU(l:Lns)(z d:Int):Int→Int→Prop
 |bad {e:Int} (h:yY l z d e) (he:e≠0):IU l z d 0 e
 |ok (h:yY l z d 0):IU l z d (jG l.seasons z (1+d%365)) 0
theorem IU.uniq{l:Lns}{z d a b e f:Int}(h:IU l z d a e)(g:IU l z d b f):a=b∧e=f:=by
 cases h with
 |bad h he=>cases g with
  |bad g=>exact ⟨rfl,h.uniq g⟩
  |ok g=>exact (he (h.uniq g)).elim
 |ok h=>cases g with
  |bad g ge=>exact (ge (g.uniq h)).elim
  |ok=>exact ⟨rfl,rfl⟩
inductive Dz(l:Lns)(z d:Int):Int→Int→Prop
 |bad {e:Int} (h:yY l z d e) (he:e≠0):Dz l z d 0 e
 |none {b:Int} (h:yY l z d 0) (h1:uJ l b false):Dz l z d 0 3
 |ok {n:Int} (h:yY l z d 0) (h1:uJ l n true):Dz l z d (l.depth - n - jG l.seasons z (1+d%365)) 0
theorem Dz.uniq{l:Lns}{z d a b e f:Int}(h:Dz l z d a e)(g:Dz l z d b f):a=b∧e=f:=by
 cases h with
 |bad h he=>cases g with
  |bad g=>exact ⟨rfl,h.uniq g⟩
  |none g=>exact (he (h.uniq g)).elim
  |ok g=>exact (he (h.uniq g)).elim
 |none h h1=>cases g with
  |bad g ge=>exact (ge (g.uniq h)).elim
  |none=>exact ⟨rfl,rfl⟩
  |ok _ g=>cases (h1.uniq h.zero.1 g).2
 |ok h h1=>cases g with
  |bad g ge=>exact (ge (g.uniq h)).elim
  |none _ g=>cases (h1.uniq h.zero.1 g).2
  |ok _ g=>obtain ⟨rfl,_⟩:=h1.uniq h.zero.1 g;exact ⟨rfl,rfl⟩
inductive xc(s:Spc)(l:Lns)(z d:Int):Int→Int→Prop
 |space (h:¬dP s):xc s l z d 0 30
 |bad {a e:Int} (h:dP s) (h1:Dz l z d a e) (he:e≠0):xc s l z d 0 e
 |above {a:Int} (h:dP s) (h1:Dz l z d a 0) (hk:yZ s.wa a (-1)):xc s l z d 0 66
 |ok {a k:Int} (h:dP s) (h1:Dz l z d a 0) (hk:yZ s.wa a k) (hn:0≤k):xc s l z d k 0
theorem xc.uniq{s:Spc}{l:Lns}{z d a b e f:Int}(h:xc s l z d a e)(g:xc s l z d b f):a=b∧e=f:=by
 cases h with
 |space h=>cases g with
  |space=>exact ⟨rfl,rfl⟩
  |bad g=>exact (h g).elim
  |above g=>exact (h g).elim
  |ok g=>exact (h g).elim
 |bad h h1 he=>cases g with
  |space g=>exact (g h).elim
  |bad _ g=>exact ⟨rfl,(h1.uniq g).2⟩
  |above _ g=>exact (he (h1.uniq g).2).elim
  |ok _ g=>exact (he (h1.uniq g).2).elim
 |above h h1 hk=>cases g with
  |space g=>exact (g h).elim
  |bad _ g ge=>exact (ge (g.uniq h1).2).elim
  |above=>exact ⟨rfl,rfl⟩
  |ok _ g gk gn=>
   obtain ⟨rfl,_⟩:=h1.uniq g
   have:=hk.uniq gk
   omega
 |ok h h1 hk hn=>cases g with
  |space g=>exact (g h).elim
  |bad _ g ge=>exact (ge (g.uniq h1).2).elim
  |above _ g gk=>
   obtain ⟨rfl,_⟩:=h1.uniq g
   have:=hk.uniq gk
   omega
  |ok _ g gk gn=>
   obtain ⟨rfl,_⟩:=h1.uniq g
   exact ⟨hk.uniq gk,rfl⟩
inductive G4(s:Spc)(l:Lns)(x:Lg):Int→Int→Prop
 |space (h:¬dP s):G4 s l x 0 30
 |lines (h:dP s) (h1:¬gL l):G4 s l x 0 60
 |leg (h:dP s) (h1:gL l) (h2:¬AR x):G4 s l x 0 61
 |go {k e:Int} (h:dP s) (h1:gL l) (h2:AR x) (h3:uI s.wa l x k e):G4 s l x k e
theorem G4.uniq{s:Spc}{l:Lns}{x:Lg}{a b e f:Int}(h:G4 s l x a e)(g:G4 s l x b f):a=b∧e=f:=by
 cases h<;>cases g<;>first|exact ⟨rfl,rfl⟩|contradiction|exact uI.uniq (by assumption) (by assumption) (by assumption)
theorem Cd{v:Srv}{k:Nat}(h:0<k)(hk:k<v.sp.wa.length):eI v.sp ⟨1,0,k⟩:=
 .litres rfl rfl ⟨by dsimp only;omega,by dsimp only;omega⟩ (by dsimp only;omega)
theorem xl.err{v:Srv}(hv:cI v){k:Nat}(hk:k<v.sp.wa.length){a b e:Int}(h:xl v k a b e):(e=0∧v.sys.Sound)∨(e=35∧¬v.sys.Sound∧a=0∧b=0):=by
 cases h with
 |up h g=>
  cases g with
  |bad g ge=>exact (ge (g.aP.2 hv)).elim
  |what _ g=>exact (g (Cd h hk)).elim
  |fls _ _ g=>exact .inr ⟨rfl,g,rfl,rfl⟩
  |ok _ _ g=>exact .inl ⟨rfl,g⟩
 |fls _ _ g=>exact .inr ⟨rfl,g,rfl,rfl⟩
 |zero _ _ g=>exact .inl ⟨rfl,g⟩
theorem xl.bd{v:Srv}{k:Nat}{a b e:Int}(h:xl v k a b e): -200000000≤a∧a≤b∧b≤200000000:=by
 cases h with
 |up h g=>
  cases g with
  |bad=>omega
  |what=>omega
  |fls=>omega
  |ok g g1 g2 g3=>
   have:=zn g g1 g3
   have e:qB ⟨1,0,k⟩=648000000:=rfl
   rw [e];omega
 |fls=>omega
 |zero=>omega
theorem vC{n d:Int}(hn: -200000000≤n∧n≤200000000)(hd:0≤d∧d≤1100): -220000000≤lE n d∧lE n d≤220000000:=by
 have:=kv (a:=n) (b:=d) (A:=200000000) (B:=1100) (by omega) (by omega)
 unfold lE;omega
theorem BZ{n d d':Int}(hn: -200000000≤n∧n≤200000000)(hd:gM d d'):(-220000000≤xA n d d'∧xA n d d'≤220000000)∧-220000000≤xC n d d'∧xC n d d'≤220000000:=by
 have:=vC (d:=d) hn (by unfold gM at hd;omega)
 have:=vC (d:=d') hn (by unfold gM at hd;omega)
 unfold xA xC;omega
inductive kO(v:Srv)(k:Nat)(dlo dhi:Int):Int→Int→Int→Prop
 |fls {a b e:Int} (h:xl v k a b e) (he:e≠0):kO v k dlo dhi 0 0 e
 |ok {a b:Int} (h:xl v k a b 0):kO v k dlo dhi (xA a dlo dhi) (xC b dlo dhi) 0
theorem kO.uniq{v:Srv}{k:Nat}{x y a b c d e f:Int}(h:kO v k x y a b e)(g:kO v k x y c d f):a=c∧b=d∧e=f:=by
 cases h with
 |fls h he=>cases g with
  |fls g=>exact ⟨rfl,rfl,(h.uniq g).2.2⟩
  |ok g=>exact (he (h.uniq g).2.2).elim
 |ok h=>cases g with
  |fls g ge=>exact (ge (g.uniq h).2.2).elim
  |ok g=>obtain ⟨rfl,rfl,_⟩:=h.uniq g;exact ⟨rfl,rfl,rfl⟩
theorem kO.err{v:Srv}(hv:cI v){k:Nat}(hk:k<v.sp.wa.length){x y a b e:Int}(h:kO v k x y a b e):(e=0∧v.sys.Sound)∨(e=35∧¬v.sys.Sound∧a=0∧b=0):=by
 cases h with
 |fls h he=>rcases h.err hv hk with ⟨g,_⟩|⟨g,g1,_⟩;exact (he g).elim;exact .inr ⟨g,g1,rfl,rfl⟩
 |ok h=>rcases h.err hv hk with ⟨g,g1⟩|⟨g,_⟩;exact .inl ⟨rfl,g1⟩;omega
theorem kO.bd{v:Srv}{k:Nat}{x y a b e:Int}(h:kO v k x y a b e)(hd:gM x y): -220000000≤a∧a≤220000000∧-220000000≤b∧b≤220000000:=by
 cases h with
 |fls=>omega
 | @ok a b h=>
  have:=h.bd
  have:=(BZ (n:=a) (by omega) hd).1
  have:=(BZ (n:=b) (by omega) hd).2
  omega
inductive xg(v:Srv)(k dlo dhi:Int):Int→Int→Int→Prop
 |bad {e:Int} (h:rR v e) (he:e≠0):xg v k dlo dhi 0 0 e
 |water (h:cI v) (h1:¬(0≤k∧k≤(v.sp.wa.length:Int) - 1)):xg v k dlo dhi 0 0 62
 |dense (h:cI v) (h1:0≤k∧k≤(v.sp.wa.length:Int) - 1) (h2:¬gM dlo dhi):xg v k dlo dhi 0 0 64
 |go {a b e:Int} (h:cI v) (h1:0≤k∧k≤(v.sp.wa.length:Int) - 1) (h2:gM dlo dhi) (h3:kO v k.toNat dlo dhi a b e):xg v k dlo dhi a b e
theorem xg.uniq{v:Srv}{k x y a b c d e f:Int}(h:xg v k x y a b e)(g:xg v k x y c d f):a=c∧b=d∧e=f:=by
 cases h with
 |bad h he=>cases g with
  |bad g=>exact ⟨rfl,rfl,h.uniq g⟩
  |water g=>exact (he (h.aP.2 g)).elim
  |dense g=>exact (he (h.aP.2 g)).elim
  |go g=>exact (he (h.aP.2 g)).elim
 |water h h1=>cases g with
  |bad g ge=>exact (ge (g.aP.2 h)).elim
  |water=>exact ⟨rfl,rfl,rfl⟩
  |dense _ g=>exact (h1 g).elim
  |go _ g=>exact (h1 g).elim
 |dense h h1 h2=>cases g with
  |bad g ge=>exact (ge (g.aP.2 h)).elim
  |water _ g=>exact (g h1).elim
  |dense=>exact ⟨rfl,rfl,rfl⟩
  |go _ _ g=>exact (h2 g).elim
 |go h h1 h2 h3=>cases g with
  |bad g ge=>exact (ge (g.aP.2 h)).elim
  |water _ g=>exact (g h1).elim
  |dense _ _ g=>exact (g h2).elim
  |go _ _ _ g=>exact h3.uniq g
inductive nC(v:Srv)(l:Lns)(r:List Lg)(m:Rng):List Int→Int→Prop
 |bad {e:Int} (h:rR v e) (he:e≠0):nC v l r m [] e
 |lines (h:cI v) (h1:¬gL l):nC v l r m [] 60
 |route (h:cI v) (h1:gL l) (h2:¬qw r):nC v l r m [] 61
 |uA (h:cI v) (h1:gL l) (h2:qw r) (h3:¬eQ m.lo m.hi):nC v l r m [] 63
 |low {i:Nat} {k e:Int} (h:cI v) (h1:gL l) (h2:qw r) (h3:eQ m.lo m.hi) (hi:i<r.length) (hp:∀j<i,∃k,uI v.sp.wa l (lg0 r j) k 0) (h4:uI v.sp.wa l (lg0 r i) k e) (he:e≠0):nC v l r m [] e
 |ok {ks:List Int} (h:cI v) (h1:gL l) (h2:qw r) (h3:eQ m.lo m.hi) (h4:ks.length=r.length) (h5:∀i<r.length,uI v.sp.wa l (lg0 r i) (gi ks i) 0):nC v l r m ks 0
theorem nC.ok'{v:Srv}{l:Lns}{r:List Lg}{m:Rng}{ks:List Int}(h:nC v l r m ks 0):cI v∧gL l∧qw r∧eQ m.lo m.hi∧ks.length=r.length∧∀i<r.length,uI v.sp.wa l (lg0 r i) (gi ks i) 0:=by
 generalize he:(0:Int)=e at h
 cases h with
 |ok h h1 h2 h3 h4 h5=>exact ⟨h,h1,h2,h3,h4,h5⟩
 |bad _ h=>exact (h he.symm).elim
 |low _ _ _ _ _ _ _ h=>exact (h he.symm).elim
 |lines=>omega
 |route=>omega
 |uA=>omega
theorem nC.uniq{v:Srv}{l:Lns}{r:List Lg}{m:Rng}{a b:List Int}{e f:Int}(h:nC v l r m a e)(g:nC v l r m b f):a=b∧e=f:=by
 have key:∀{i j:Nat} {k e:Int},gL l→(∀j'<j,∃k,uI v.sp.wa l (lg0 r j') k 0)→uI v.sp.wa l (lg0 r i) k e→e≠0→¬i<j:=fun hl h1 h2 h3 h4=>by
  obtain ⟨k',h5⟩:=h1 _ h4
  exact h3 (h2.uniq hl h5).2
 cases h with
 |bad h he=>cases g with
  |bad g=>exact ⟨rfl,h.uniq g⟩
  |lines g=>exact (he (h.aP.2 g)).elim
  |route g=>exact (he (h.aP.2 g)).elim
  |uA g=>exact (he (h.aP.2 g)).elim
  |low g=>exact (he (h.aP.2 g)).elim
  |ok g=>exact (he (h.aP.2 g)).elim
 |lines h h1=>cases g with
  |bad g ge=>exact (ge (g.aP.2 h)).elim
  |lines=>exact ⟨rfl,rfl⟩
  |route _ g=>exact (h1 g).elim
  |uA _ g=>exact (h1 g).elim
  |low _ g=>exact (h1 g).elim
  |ok _ g=>exact (h1 g).elim
 |route h h1 h2=>cases g with
  |bad g ge=>exact (ge (g.aP.2 h)).elim
  |lines _ g=>exact (g h1).elim
  |route=>exact ⟨rfl,rfl⟩
  |uA _ _ g=>exact (h2 g).elim
  |low _ _ g=>exact (h2 g).elim
  |ok _ _ g=>exact (h2 g).elim
 |uA h h1 h2 h3=>cases g with
  |bad g ge=>exact (ge (g.aP.2 h)).elim
  |lines _ g=>exact (g h1).elim
  |route _ _ g=>exact (g h2).elim
  |uA=>exact ⟨rfl,rfl⟩
  |low _ _ _ g=>exact (h3 g).elim
  |ok _ _ _ g=>exact (h3 g).elim
 | @low i k e h h1 h2 h3 hi hp h4 he=>cases g with
  |bad g ge=>exact (ge (g.aP.2 h)).elim
  |lines _ g=>exact (g h1).elim
  |route _ _ g=>exact (g h2).elim
  |uA _ _ _ g=>exact (g h3).elim
  | @low j k' f g g1 g2 g3 gi gp g4 ge=>
   have:=key h1 gp h4 he
   have:=key h1 hp g4 ge
   obtain rfl:i=j:=by omega
   exact ⟨rfl,(h4.uniq h1 g4).2⟩
  |ok _ _ _ _ _ g=>exact (he (h4.uniq h1 (g i hi)).2).elim
 |ok h h1 h2 h3 h4 h5=>cases g with
  |bad g ge=>exact (ge (g.aP.2 h)).elim
  |lines _ g=>exact (g h1).elim
  |route _ _ g=>exact (g h2).elim
  |uA _ _ _ g=>exact (g h3).elim
  | @low j _ _ _ _ _ _ gi _ g4 ge=>exact (ge (g4.uniq h1 (h5 j gi)).2).elim
  |ok g g1 g2 g3 g4 g5=>exact ⟨AB (by omega) fun i hi=>((h5 i (by omega)).uniq h1 (g5 i (by omega))).1,rfl⟩
theorem nC.mark{v:Srv}{l:Lns}{r:List Lg}{m:Rng}{ks:List Int}(h:nC v l r m ks 0){i:Nat}(hi:i<r.length):∃k:Nat,gi ks i=(k:Int)∧k<v.sp.wa.length:=by
 obtain ⟨h0,_,_,_,_,h5⟩:=h.ok'
 have h2:=h0.early.1.wa.two
 have:=(h5 i hi).bd (by omega)
 exact ⟨(gi ks i).toNat,by omega,by omega⟩
def xi(m:Rng)(lo hi:Int):Int:=if m.hi≤lo then 1 else if hi<m.lo then 0 else 2
inductive DR(v:Srv)(l:Lns)(r:List Lg)(m:Rng):List Int→Int→Prop
 |bad {ks:List Int} {e:Int} (h:nC v l r m ks e) (he:e≠0):DR v l r m [] e
 |fls {ks:List Int} (h:nC v l r m ks 0) (h1:¬v.sys.Sound):DR v l r m [] 35
 |ok {ks as_:List Int} (h:nC v l r m ks 0) (h1:v.sys.Sound) (h2:as_.length=r.length) (h3:∀i<r.length,∃lo hi,kO v (gi ks i).toNat (lg0 r i).dlo (lg0 r i).dhi lo hi 0∧gi as_ i=xi (mm m r i) lo hi):DR v l r m as_ 0
theorem DR.uniq{v:Srv}{l:Lns}{r:List Lg}{m:Rng}{a b:List Int}{e f:Int}(h:DR v l r m a e)(g:DR v l r m b f):a=b∧e=f:=by
 cases h with
 |bad h he=>cases g with
  |bad g=>exact ⟨rfl,(h.uniq g).2⟩
  |fls g=>exact (he (h.uniq g).2).elim
  |ok g=>exact (he (h.uniq g).2).elim
 |fls h h1=>cases g with
  |bad g ge=>exact (ge (g.uniq h).2).elim
  |fls=>exact ⟨rfl,rfl⟩
  |ok _ g=>exact (h1 g).elim
 |ok h h1 h2 h3=>cases g with
  |bad g ge=>exact (ge (g.uniq h).2).elim
  |fls _ g=>exact (g h1).elim
  |ok g g1 g2 g3=>
   obtain ⟨rfl,_⟩:=h.uniq g
   refine ⟨AB (by omega) fun i hi=>?_,rfl⟩
   obtain ⟨lo,hi',k1,k2⟩:=h3 i (by omega)
   obtain ⟨lo',hi'',k3,k4⟩:=g3 i (by omega)
   obtain ⟨rfl,rfl,_⟩:=k1.uniq k3
   rw [k2,k4]
def wH(as_:List Int):Int:=if (0:Int)∈as_ then 0 else if (2:Int)∈as_ then 2 else 1
inductive Bw(v:Srv)(l:Lns)(r:List Lg)(m:Rng):Int→Int→Prop
 |bad {as_:List Int} {e:Int} (h:DR v l r m as_ e) (he:e≠0):Bw v l r m 0 e
 |ok {as_:List Int} (h:DR v l r m as_ 0):Bw v l r m (wH as_) 0
theorem Bw.uniq{v:Srv}{l:Lns}{r:List Lg}{m:Rng}{a b e f:Int}(h:Bw v l r m a e)(g:Bw v l r m b f):a=b∧e=f:=by
 cases h with
 |bad h he=>cases g with
  |bad g=>exact ⟨rfl,(h.uniq g).2⟩
  |ok g=>exact (he (h.uniq g).2).elim
 |ok h=>cases g with
  |bad g ge=>exact (ge (g.uniq h).2).elim
  |ok g=>rw [(h.uniq g).1];exact ⟨rfl,rfl⟩
def jr(d b:Nat→Int):Nat→Int
 |0=>1000000000000
 |n+1=>min (jr d b n) (d n+aM b n)
inductive qv(v:Srv)(l:Lns)(r:List Lg):Int→Int→Prop
 |bad {ks:List Int} {e:Int} (h:nC v l r ⟨0,0⟩ ks e) (he:e≠0):qv v l r 0 e
 |fls {ks:List Int} (h:nC v l r ⟨0,0⟩ ks 0) (h1:¬v.sys.Sound):qv v l r 0 35
 |none {ks:List Int} {i:Nat} {lo hi:Int} (h:nC v l r ⟨0,0⟩ ks 0) (h1:v.sys.Sound) (hi':i<r.length) (h2:kO v (gi ks i).toNat (lg0 r i).dlo (lg0 r i).dhi lo hi 0) (h3:lo<0):qv v l r 0 3
 |ok {ks:List Int} {d:Nat→Int} (h:nC v l r ⟨0,0⟩ ks 0) (h1:v.sys.Sound) (h2:∀i<r.length,(∃hi,kO v (gi ks i).toNat (lg0 r i).dlo (lg0 r i).dhi (d i) hi 0)∧0≤d i):qv v l r (jr d (fun i=>(lg0 r i).blo) r.length) 0
theorem oI{d d' b:Nat→Int}:∀{n:Nat},(∀i<n,d i=d' i)→jr d b n=jr d' b n
 |0,_=>rfl
 |n+1,h=>by simp only [jr];rw [oI fun i hi=>h i (by omega),h n (by omega)]
theorem qv.uniq{v:Srv}{l:Lns}{r:List Lg}{a b e f:Int}(h:qv v l r a e)(g:qv v l r b f):a=b∧e=f:=by
 cases h with
 |bad h he=>cases g with
  |bad g=>exact ⟨rfl,(h.uniq g).2⟩
  |fls g=>exact (he (h.uniq g).2).elim
  |none g=>exact (he (h.uniq g).2).elim
  |ok g=>exact (he (h.uniq g).2).elim
 |fls h h1=>cases g with
  |bad g ge=>exact (ge (g.uniq h).2).elim
  |fls=>exact ⟨rfl,rfl⟩
  |none _ g=>exact (h1 g).elim
  |ok _ g=>exact (h1 g).elim
 |none h h1 hi h2 h3=>cases g with
  |bad g ge=>exact (ge (g.uniq h).2).elim
  |fls _ g=>exact (g h1).elim
  |none=>exact ⟨rfl,rfl⟩
  |ok g _ g2=>
   obtain ⟨rfl,_⟩:=h.uniq g
   obtain ⟨⟨_,k1⟩,k2⟩:=g2 _ hi
   have:=(h2.uniq k1).1
   omega
 |ok h h1 h2=>cases g with
  |bad g ge=>exact (ge (g.uniq h).2).elim
  |fls _ g=>exact (g h1).elim
  |none g _ hi g2 g3=>
   obtain ⟨rfl,_⟩:=h.uniq g
   obtain ⟨⟨_,k1⟩,k2⟩:=h2 _ hi
   have:=(g2.uniq k1).1
   omega
  |ok g _ g2=>
   obtain ⟨rfl,_⟩:=h.uniq g
   refine ⟨oI fun i hi=>?_,rfl⟩
   obtain ⟨⟨_,k1⟩,_⟩:=h2 i hi
   obtain ⟨⟨_,k2⟩,_⟩:=g2 i hi
   exact (k1.uniq k2).1
def D2(d:Nat→Int)(k:Nat)(x:Int):Nat→Int:=fun i=>if i=k then x else d i
theorem vV(d:Nat→Int)(k:Nat)(x:Int):D2 d k x k=x:=by simp [D2]
theorem vU(d:Nat→Int){k i:Nat}(x:Int)(h:i<k):D2 d k x i=d i:=by simp [D2];omega
def Ho(d b:Nat→Int)(k:Nat)(best:Int):Prop:=((∀i<k,0≤d i)∧best=jr d b k)∨((∃i,i<k∧d i<0)∧best<0)
theorem Ho.pos{d b:Nat→Int}{k:Nat}{best lo:Int}(h:Ho d b k best)(hlo:0≤lo):Ho (D2 d k lo) b (k+1) (min best (lo+aM b k)):=by
 rcases h with ⟨h1,h2⟩|⟨⟨i,h1,h3⟩,h2⟩
 ·refine .inl ⟨fun i hi=>?_,?_⟩
  ·by_cases e:i=k
   ·subst e;rw [vV];exact hlo
   ·rw [vU _ _ (by omega)];exact h1 i (by omega)
  ·simp only [jr]
   rw [vV,h2,oI (d':=d) fun i hi=>vU d lo hi]
 ·exact .inr ⟨⟨i,by omega,by rw [vU _ _ h1];exact h3⟩,by omega⟩
theorem Ho.neg{d b:Nat→Int}{k:Nat}{lo x:Int}(hlo:lo<0):Ho (D2 d k lo) b (k+1) (min (-1) x):=
 .inr ⟨⟨k,by omega,by rw [vV];exact hlo⟩,by omega⟩
theorem sz.bd{s:Spc}{rows:List (List Int)}{q:Wht}{n e:Int}(hq:q.kind=1)(h:sz s rows q n e): -7000000000≤n∧n≤7000000000:=by
 cases h with
 |space=>omega
 |hull=>omega
 |what=>omega
 |ok g g1 g2=>
  have h1:=lh g g2 g1 s.many (Nat.le_refl _)
  have h2:s.many≤63:=Nat.mul_le_mul g.st.many g.wa.many
  have e:qB q=648000000:=by unfold qB;rw [if_pos hq]
  rw [e];omega
theorem BI.Im{v:Srv}{rows:List (List Int)}(h:BI v rows 0):jJ v.sp rows:=by
 generalize he:(0:Int)=e at h
 cases h with
 |ok _ h=>exact h
 |bad _ h=>exact (h he.symm).elim
 |hull=>omega
 |no=>omega
structure Wit where
 leg:Int
 dense:Int
 uA:Int
 rows:List (List Int)
inductive HlR(v:Srv)(rows:List (List Int))(k:Nat):Int→Prop
 |zero (h:k=0):HlR v rows k 0
 |up {n:Int} (h:0<k) (h1:sz v.sp rows ⟨1,0,k⟩ n 0):HlR v rows k n
theorem HlR.uniq{v:Srv}{rows:List (List Int)}{k:Nat}{a b:Int}(h:HlR v rows k a)(g:HlR v rows k b):a=b:=by
 cases h with
 |zero h=>cases g with
  |zero=>rfl
  |up g=>omega
 |up h h1=>cases g with
  |zero g=>omega
  |up _ g=>exact (h1.uniq g).1
structure IG(v:Srv)(r:List Lg)(m:Rng)(ks:List Int)(w:Wit):Prop where
 leg:0≤w.leg∧w.leg≤(r.length:Int) - 1
 hull:BI v w.rows 0
 dense:(lg0 r w.leg.toNat).dlo≤w.dense∧w.dense≤(lg0 r w.leg.toNat).dhi
 uA:(mm m r w.leg.toNat).lo≤w.uA∧w.uA≤(mm m r w.leg.toNat).hi
 sinks:∃n,HlR v w.rows (gi ks w.leg.toNat).toNat n∧lE n w.dense<w.uA
inductive FY(v:Srv)(l:Lns)(r:List Lg)(m:Rng)(w:Wit):Int→Prop
 |bad {ks:List Int} {e:Int} (h:nC v l r m ks e) (he:e≠0):FY v l r m w e
 |no {ks:List Int} (h:nC v l r m ks 0) (h1:¬IG v r m ks w):FY v l r m w 67
 |ok {ks:List Int} (h:nC v l r m ks 0) (h1:IG v r m ks w):FY v l r m w 0
theorem FY.uniq{v:Srv}{l:Lns}{r:List Lg}{m:Rng}{w:Wit}{e f:Int}(h:FY v l r m w e)(g:FY v l r m w f):e=f:=by
 cases h with
 |bad h he=>cases g with
  |bad g=>exact (h.uniq g).2
  |no g=>exact (he (h.uniq g).2).elim
  |ok g=>exact (he (h.uniq g).2).elim
 |no h h1=>cases g with
  |bad g ge=>exact (ge (g.uniq h).2).elim
  |no=>rfl
  |ok g g1=>rw [(h.uniq g).1] at h1;exact (h1 g1).elim
 |ok h h1=>cases g with
  |bad g ge=>exact (ge (g.uniq h).2).elim
  |no g g1=>rw [(h.uniq g).1] at h1;exact (g1 h1).elim
  |ok=>rfl
theorem xc.day{s:Spc}{l:Lns}{x:Lg}(hsp:dP s)(hl:gL l)(hx:AR x){j:Nat}(hj:j<lH x){k e:Int}(h:xc s l x.zone (x.fr+j) k e):
  (e≠0∧uI s.wa l x 0 e)∨(e=0∧0≤k∧∃n,uJ l n true∧yZ s.wa (l.depth - n - jG l.seasons x.zone (1+(x.fr+j)%365)) k):=by
 have hd:=tP hx
 have hf:=hx.fr
 have ht:=hx.to
 have hday:yY l x.zone (x.fr+j) 0:= .ok hl hx.zone (by omega)
 cases h with
 |space h=>exact (h hsp).elim
 |bad _ h he=>
  cases h with
  |bad h ge=>exact (ge (h.uniq hday)).elim
  |none _ h=>exact .inl ⟨he,.none h⟩
  |ok=>exact (he rfl).elim
 |above _ h hk=>
  generalize h0:(0:Int)=z at h
  cases h with
  |bad _ ge=>exact (ge h0.symm).elim
  |none=>omega
  |ok _ h=>exact .inl ⟨by omega,.above h (hk.less (by have:=EK l.seasons x.zone x.fr hj;omega))⟩
 |ok _ h hk hn=>
  generalize h0:(0:Int)=z at h
  cases h with
  |bad _ ge=>exact (ge h0.symm).elim
  |none=>omega
  |ok _ h=>exact .inr ⟨rfl,hn,_,h,hk⟩
def JZ(wa:List Int)(l:Lns)(x:Lg)(j:Nat)(best:Int):Prop:=
 (j=0∧best=wa.length)∨(0<j∧0≤best∧∃n,uJ l n true∧yZ wa (l.depth - n - mn l.seasons x.zone x.fr j) best)
theorem JZ.done{wa:List Int}{l:Lns}{x:Lg}(hx:AR x){best:Int}(h:JZ wa l x (lH x) best):uI wa l x best 0:=by
 have:=tP hx
 rcases h with ⟨h,_⟩|⟨_,hb,n,h1,h2⟩
 ·omega
 ·exact .ok h1 h2 hb
def oo:Lns:=⟨1000,1200,[⟨500,100⟩,⟨1500,200⟩],[⟨2,300,60,60⟩]⟩
def lj:List Lg:=[⟨1,10,20,1000,1025,5,10⟩,⟨1,20,30,1000,1025,5,10⟩]
def Hk:List (List Int):=[[75,175],[0,130]]
theorem zG:gL oo:=⟨by decide,by decide,by decide,by decide,fun i hi=>by
 have h:i=0∨i=1:=by simp [oo] at hi;omega
 rcases h with rfl|rfl<;>exact ⟨by decide,by decide,by decide⟩,fun s hs=>by
 simp only [oo,List.mem_cons,List.not_mem_nil,or_false] at hs
 subst hs;exact ⟨by decide,by decide,by decide,by decide⟩⟩
theorem GH:qw lj:=⟨by decide,fun i hi=>by
 have h:i=0∨i=1:=by simp [lj] at hi;omega
 rcases h with rfl|rfl<;>exact ⟨⟨by decide,by decide,by decide,by decide,by decide⟩,by decide⟩⟩
theorem sV:uJ oo 150 true:=by
 have h:=uJ.mid (l:=oo) (i:=1) (by decide) (by decide) (by decide) (by decide)
 rwa [show Az oo 1=150 by decide] at h
theorem Iu{i:Nat}(hi:i<lj.length):uI exV.sp.wa oo (lg0 lj i) 1 0:=by
 have h:i=0∨i=1:=by simp [lj] at hi;omega
 have hb:yZ exV.sp.wa 1050 1:=⟨by decide,by decide,fun i hi=>by
  have h:i=0∨i=1:=by simp [exV,zF] at hi;omega
  rcases h with rfl|rfl<;>decide⟩
 rcases h with rfl|rfl
 ·exact .ok sV (by rw [show oo.depth - 150 - mn oo.seasons (lg0 lj 0).zone (lg0 lj 0).fr (lH (lg0 lj 0))=1050 by decide];exact hb) (by decide)
 ·exact .ok sV (by rw [show oo.depth - 150 - mn oo.seasons (lg0 lj 1).zone (lg0 lj 1).fr (lH (lg0 lj 1))=1050 by decide];exact hb) (by decide)
theorem C3{m:Rng}(hm:eQ m.lo m.hi):nC exV oo lj m [1,1] 0:= .ok AD zG GH hm rfl fun i hi=>by
 have h:i=0∨i=1:=by simp [lj] at hi;omega
 rcases h with rfl|rfl<;>exact Iu (by decide)
theorem C5{n e:Int}(h:yM oo n e):n=150∧e=0:=h.uniq (.ok zG sV)
theorem zI{n e:Int}(h:Dz oo 2 10 n e):n=990∧e=0:=by
 have:=h.uniq (.ok (.ok zG (by decide) (by decide)) sV)
 rwa [show oo.depth - 150 - jG oo.seasons 2 (1+10%365)=990 by decide] at this
theorem C1:exV.sys.Sound:=by rw [zE];exact yw
theorem C6{lo hi e:Int}(h:xg exV 1 1000 1025 lo hi e):lo=190∧hi=404∧e=0∧xl exV 1 190 395 0:=by
 have key:∀{a b f:Int},xl exV 1 a b f→a=190∧b=395∧f=0:=fun h=>by
  cases h with
  |up _ g=>exact CZ g
  |fls h=>omega
  |zero h=>omega
 cases h with
 |bad h he=>exact (he (h.aP.2 AD)).elim
 |water _ h=>exact (h (by decide)).elim
 |dense _ _ h=>exact (h (by decide)).elim
 |go _ _ _ h=>
  cases h with
  |fls h he=>exact (he (key h).2.2).elim
  |ok h=>
   obtain ⟨rfl,rfl,_⟩:=key h
   exact ⟨by decide,by decide,rfl,h⟩
theorem C2(h:xl exV 1 190 395 0){i:Nat}(hi:i<lj.length):kO exV (gi [1,1] i).toNat (lg0 lj i).dlo (lg0 lj i).dhi 190 404 0:=by
 have e:i=0∨i=1:=by simp [lj] at hi;omega
 rcases e with rfl|rfl<;>exact .ok h
theorem vD{m:Rng}{n e:Int}(hl:xl exV 1 190 395 0)(hm:eQ m.lo m.hi)(h:Bw exV oo lj m n e):n=wH [xi (mm m lj 0) 190 404,xi (mm m lj 1) 190 404]∧e=0:=
 h.uniq (.ok (.ok (C3 hm) C1 rfl fun i hi=>⟨190,404,C2 hl hi,by
  have e:i=0∨i=1:=by simp [lj] at hi;omega
  rcases e with rfl|rfl<;>rfl⟩))
theorem C4{n e:Int}(hl:xl exV 1 190 395 0)(h:qv exV oo lj n e):n=190∧e=0:=by
 have:=h.uniq (.ok (d:=fun _=>190) (C3 (by decide)) C1 fun i hi=>⟨⟨_,C2 hl hi⟩,by decide⟩)
 rwa [show jr (fun _=>190) (fun i=>(lg0 lj i).blo) lj.length=190 by decide] at this
theorem zH:jJ zF Hk:=⟨rfl,fun i hi=>by
 have:i=0∨i=1:=by simp [zF] at hi;omega
 rcases this with rfl|rfl<;>rfl,fun i hi k hk=>by
 have h1:i=0∨i=1:=by simp [zF] at hi;omega
 have h2:k=0∨k=1:=by simp [zF] at hk;omega
 rcases h1 with rfl|rfl<;>rcases h2 with rfl|rfl<;>decide⟩
theorem GI:Kp exV (gt Hk) fun t=>if t.tape=1 then -15 else -160:=by
 refine ⟨zH.num,fun i hi k hk=>?_,fun i hi k hk=>?_,fun t ht=>?_,fun c hc t ht h1 h2 h3=>?_,fun r hr=>?_⟩
 ·obtain rfl:i=0:=by simp [exV,zF] at hi;omega
  have h2:k=0∨k=1:=by simp [exV,zF] at hk;omega
  rcases h2 with rfl|rfl<;>decide
 ·obtain rfl:k=0:=by simp [exV,zF] at hk;omega
  have h2:i=0∨i=1:=by simp [exV,zF] at hi;omega
  rcases h2 with rfl|rfl<;>decide
 ·split<;>omega
 ·simp only [exV,List.mem_cons,List.not_mem_nil,or_false] at hc
  subst hc
  show (if t.tape=1 then (-15:Int) else -160)≤-5∧-15≤(if t.tape=1 then (-15:Int) else -160)
  rw [if_pos h1];omega
 ·simp only [exV,Hj,List.mem_cons,List.not_mem_nil,or_false] at hr
  rcases hr with rfl|rfl|rfl|rfl<;>decide
theorem E9{e:Int}(h:FY exV oo lj ⟨180,200⟩ ⟨0,1000,200,Hk⟩ e):e=0:=
 h.uniq (.ok (C3 (by decide)) ⟨by decide,.ok AD zH ⟨_,GI⟩,by decide,by decide,190,.up (by decide) (by
  have h:=sz.ok (q:=⟨1,0,1⟩) C0 zH (.litres rfl rfl (by unfold Spc.isW;decide) (by decide))
  rwa [show gJ zF ⟨1,0,1⟩ Hk zF.many/qB ⟨1,0,1⟩=190 by decide] at h),by decide⟩)
def rG(n m:Int):Int:=(n.tmod m+m).tmod m
theorem lB(n:Int){m:Int}(hm:1≤m):0≤rG n m∧rG n m<m:=by
 have h1:=Int.tmod_lt_of_pos n (show 0<m by omega)
 have h2:=Int.lt_tmod_of_pos n (show 0<m by omega)
 have h3:=Int.tmod_lt_of_pos (n.tmod m+m) (show 0<m by omega)
 have h4:=Int.tmod_nonneg m (show 0≤n.tmod m+m by omega)
 exact ⟨h4,h3⟩
def fbc(l:List Fbd):List (List Value):=l.map Fbd.c
def snc(l:List Ssn):List (List Value):=l.map Ssn.c
def lgc(l:List Lg):List (List Value):=l.map Lg.c
theorem Ir(l:List Fbd):∀c∈fbc l,c.length=2:=fun c hc=>by simp only [fbc,List.mem_map] at hc;obtain ⟨x,_,rfl⟩:=hc;rfl
theorem B2(l:List Ssn):∀c∈snc l,c.length=4:=fun c hc=>by simp only [snc,List.mem_map] at hc;obtain ⟨x,_,rfl⟩:=hc;rfl
theorem CH(l:List Lg):∀c∈lgc l,c.length=7:=fun c hc=>by simp only [lgc,List.mem_map] at hc;obtain ⟨x,_,rfl⟩:=hc;rfl
theorem Bn(l:List Fbd):(fbc l).length=l.length:=by simp [fbc]
theorem qO(l:List Ssn):(snc l).length=l.length:=by simp [snc]
theorem ra(l:List Lg):(lgc l).length=l.length:=by simp [lgc]
theorem D9(l:List Ssn)(t:Ssn):(snc (l++[t])).flatten=(snc l).flatten++t.c:=by simp [snc]
theorem EV(l:List Lg)(t:Lg):(lgc (l++[t])).flatten=(lgc l).flatten++t.c:=by simp [lgc]
structure Sx where
 a:Int
 b:Int
 c:Int
 d:Int
 e:Int
 f:Int
def Sx.v(x:Sx):List Value:=[I x.a,I x.b,I x.c,I x.d,I x.e,I x.f]
structure F1 where
 sp:List Int
 rs:List F5
 cs:List F4
 pk:List Int
 y1:Int
 y2:Int
 y3:Int
 ln:List Int
 lg:List Sx
 m1:Int
 m2:Int
 z1:Int
 z2:Int
 z3:Int
structure zS(H:bB)(x:F1)(vs v5 v4 vp vn vg:Value):Prop where
 sp:RI H vs x.sp
 rs:RF5 H v5 x.rs
 cs:RF4 H v4 x.cs
 pk:RI H vp x.pk
 ln:RI H vn x.ln
 lg:RS H 6 vg (x.lg.map Sx.v)
theorem zS.mono{H H':bB}{x:F1}{vs v5 v4 vp vn vg:Value}(h:zS H x vs v5 v4 vp vn vg)(hl:HLe H H'):zS H' x vs v5 v4 vp vn vg:=⟨h.sp.mono hl,h.rs.mono hl,h.cs.mono hl,h.pk.mono hl,h.ln.mono hl,RS.mono h.lg hl⟩
abbrev F1.agg(x:F1)(vs v5 v4 vp vn vg:Value):Value:= .agg #[vs,v5,v4,vp,I x.y1,I x.y2,I x.y3,vn,vg,I x.m1,I x.m2,I x.z1,I x.z2,I x.z3]
structure Dw(x:Lg)(fr:Int):Prop where
 zone:1≤x.zone∧x.zone≤3
 fr:fr≤x.fr∧x.fr<fr+40
 to:x.fr≤x.to∧x.to<x.fr+60
 dlo:950≤x.dlo∧x.dlo<1050
 dhi:x.dlo≤x.dhi∧x.dhi<x.dlo+40
 blo:0≤x.blo∧x.blo<500
 bhi:x.blo≤x.bhi∧x.bhi<x.blo+200
theorem Dw.ok{x:Lg}{fr:Int}(h:Dw x fr)(h0:0≤fr∧fr≤1000):AR x:=by
 obtain ⟨h1,h2,h3,h4,h5,h6,h7⟩:=h
 exact ⟨by omega,by omega,by omega,by unfold gM;omega,by unfold eQ;omega⟩
structure Dv(l:Lns):Prop where
 ok:gL l
 len:100≤l.length∧l.length≤999
 tbl:l.table.length=3
 ends:(fb0 l.table 0).len=100∧(fb0 l.table 2).len=1000
 sns:l.seasons.length≤4
structure Du(r:List Lg):Prop where
 ok:qw r
 many:r.length≤4
 burn:∀i<r.length,(lg0 r i).bhi≤1000
theorem p6(r:List Lg)(x:Lg)(i:Nat):lg0 (r++[x]) i=if i<r.length then lg0 r i else if i=r.length then x else ⟨0,0,0,0,0,0,0⟩:=by
 unfold lg0
 simp only [List.getD]
 by_cases h:i<r.length
 ·rw [if_pos h,List.getElem?_append_left h]
 ·rw [if_neg h,List.getElem?_append_right (by omega)]
  by_cases e:i=r.length
  ·rw [if_pos e,e,Nat.sub_self];rfl
  ·rw [if_neg e,List.getElem?_eq_none (by simp;omega)];rfl
theorem wC{m:Rng}{r:List Lg}(hm:0≤m.hi):∀{i:Nat},(∀j<i,0≤(lg0 r j).blo)→(mm m r i).hi=max (m.hi - aM (fun j=>(lg0 r j).blo) i) 0
 |0,_=>by simp only [mm,aM];omega
 |i+1,h=>by
  have h1:=wC hm (i:=i) fun j hj=>h j (by omega)
  have h2:=h i (by omega)
  simp only [mm,GV,aM]
  omega
theorem nC.of{v:Srv}{l:Lns}{r:List Lg}{m m':Rng}{ks:List Int}(h:nC v l r m ks 0)(hm:eQ m'.lo m'.hi):nC v l r m' ks 0:=by
 obtain ⟨h1,h2,h3,_,h5,h6⟩:=h.ok'
 exact .ok h1 h2 h3 hm h5 h6
theorem CO{as_:List Int}(h:∀i<as_.length,gi as_ i=0∨gi as_ i=1∨gi as_ i=2):wH as_=1↔∀i<as_.length,gi as_ i=1:=by
 unfold wH
 constructor
 ·intro e i hi
  by_cases h0:(0:Int)∈as_
  ·rw [if_pos h0] at e;omega
  ·rw [if_neg h0] at e
   by_cases h2:(2:Int)∈as_
   ·rw [if_pos h2] at e;omega
   ·have hm:gi as_ i∈as_:=by unfold gi;rw [List.getD,List.getElem?_eq_getElem hi];exact List.getElem_mem _
    rcases h i hi with g|g|g
    ·exact (h0 (g▸hm)).elim
    ·exact g
    ·exact (h2 (g▸hm)).elim
 ·intro g
  have key:∀x∈as_,x=1:=fun x hx=>by
   obtain ⟨i,hi,rfl⟩:=List.getElem_of_mem hx
   have:=g i hi
   unfold gi at this
   rw [List.getD,List.getElem?_eq_getElem hi] at this
   exact this
  rw [if_neg fun h=>by have:=key _ h;omega,if_neg fun h=>by have:=key _ h;omega]
theorem AO{m:Rng}{lo hi:Int}:xi m lo hi=1↔m.hi≤lo:=by unfold xi;split<;>(try split)<;>omega
theorem Fo(m:Rng)(lo hi:Int):xi m lo hi=0∨xi m lo hi=1∨xi m lo hi=2:=by unfold xi;split<;>(try split)<;>omega
theorem Bw.yes{v:Srv}{l:Lns}{r:List Lg}{m:Rng}{ks:List Int}{n e:Int}(hB:nC v l r m ks 0)(hv:v.sys.Sound)(h:Bw v l r m n e):e=0∧(n=1↔∀i<r.length,∃lo hi,kO v (gi ks i).toNat (lg0 r i).dlo (lg0 r i).dhi lo hi 0∧(mm m r i).hi≤lo):=by
 cases h with
 |bad h he=>
  cases h with
  |bad g=>exact (he (g.uniq hB).2).elim
  |fls _ g=>exact (g hv).elim
  |ok=>exact (he rfl).elim
 |ok h=>
  generalize h0:(0:Int)=e0 at h
  cases h with
  |bad g g1=>exact (g1 h0.symm).elim
  |fls=>omega
  |ok g g1 g2 g3=>
   obtain ⟨rfl,_⟩:=g.uniq hB
   refine ⟨rfl,?_⟩
   rw [CO fun i hi=>by obtain ⟨lo,hi',_,e⟩:=g3 i (by omega);rw [e];exact Fo _ _ _]
   constructor
   ·intro k i hi
    obtain ⟨lo,hi',k1,e⟩:=g3 i hi
    have:=k i (by omega)
    rw [e,AO] at this
    exact ⟨lo,hi',k1,this⟩
   ·intro k i hi
    obtain ⟨lo,hi',k1,e⟩:=g3 i (by omega)
    obtain ⟨lo2,hi2,k2,k3⟩:=k i (by omega)
    obtain ⟨rfl,_⟩:=k1.uniq k2
    rw [e,AO];exact k3
theorem Bw.err{v:Srv}{l:Lns}{r:List Lg}{m:Rng}{n e:Int}(h:Bw v l r m n e):(∃ks,nC v l r m ks e∧e≠0)∨(∃ks,nC v l r m ks 0∧¬v.sys.Sound∧e=35)∨(∃ks,nC v l r m ks 0∧v.sys.Sound∧e=0):=by
 cases h with
 |bad h he=>
  cases h with
  |bad g=>exact .inl ⟨_,g,he⟩
  |fls g g1=>exact .inr (.inl ⟨_,g,g1,rfl⟩)
  |ok=>exact (he rfl).elim
 |ok h=>
  generalize h0:(0:Int)=e0 at h
  cases h with
  |bad g g1=>exact (g1 h0.symm).elim
  |fls=>omega
  |ok g g1=>exact .inr (.inr ⟨_,g,g1,h0.symm⟩)
theorem z6{d b:Nat→Int}:∀{n i:Nat},i<n→jr d b n≤d i+aM b i
 |n+1,i,h=>by
  simp only [jr]
  by_cases e:i=n
  ·subst e;omega
  ·have:=z6 (d:=d) (b:=b) (n:=n) (i:=i) (by omega);omega
theorem xy{d b:Nat→Int}:∀{n:Nat},jr d b n≤1000000000000
 |0=>by simp [jr]
 |n+1=>by have:=xy (d:=d) (b:=b) (n:=n);simp only [jr];omega
theorem zZ{d b:Nat→Int}:∀{n:Nat},(∀i<n,0≤d i∧0≤b i)→0≤jr d b n
 |0,_=>by simp [jr]
 |n+1,h=>by
  have h1:=zZ (d:=d) (b:=b) (n:=n) fun i hi=>h i (by omega)
  have h2:=cz (f:=b) (n:=n) fun i hi=>(h i (by omega)).2
  have:=h n (by omega)
  simp only [jr];omega
theorem z7{d b:Nat→Int}:∀{n:Nat},jr d b n<1000000000000→∃i,i<n∧jr d b n=d i+aM b i
 |0,h=>by simp [jr] at h
 |n+1,h=>by
  simp only [jr] at h ⊢
  by_cases e:jr d b n≤d n+aM b n
  ·obtain ⟨i,hi,h1⟩:=z7 (d:=d) (b:=b) (n:=n) (by omega)
   exact ⟨i,by omega,by omega⟩
  ·exact ⟨n,by omega,by omega⟩
theorem qv.Jv{v:Srv}{l:Lns}{r:List Lg}{m e z f:Int}(h:qv v l r m e)(he:e≠0)(g:Bw v l r ⟨0,0⟩ z f):f=e∨(e=3∧f=0∧z≠1):=by
 cases h with
 |bad h=>
  rcases g.err with ⟨ks,g,_⟩|⟨ks,g,_⟩|⟨ks,g,_⟩
  ·exact .inl (g.uniq h).2
  ·exact (he (h.uniq g).2).elim
  ·exact (he (h.uniq g).2).elim
 |fls h h1=>
  rcases g.err with ⟨ks,g,ge⟩|⟨ks,_,_,g⟩|⟨ks,_,g,_⟩
  ·exact (ge (g.uniq h).2).elim
  ·exact .inl g
  ·exact (h1 g).elim
 |none h h1 hi h2 h3=>
  obtain ⟨e0,hy⟩:=g.yes h h1
  refine .inr ⟨rfl,e0,fun h4=>?_⟩
  obtain ⟨lo,hi',k1,k2⟩:=hy.1 h4 _ hi
  obtain ⟨rfl,_⟩:=h2.uniq k1
  have hl:=h.ok'.2.2.1
  rw [wC (by decide) fun j hj=>by have:=(hl.leg j (by omega)).1.burn;unfold eQ at this;omega] at k2
  omega
 |ok=>exact (he rfl).elim
theorem qv.sure{v:Srv}{l:Lns}{r:List Lg}{m:Int}(h:qv v l r m 0):(0≤m∧m≤1000000000000)∧∀{x y z f:Int},eQ x y→Bw v l r ⟨x,y⟩ z f→f=0∧(z=1↔y≤m):=by
 generalize h0:(0:Int)=e0 at h
 cases h with
 |bad _ h=>exact (h h0.symm).elim
 |fls=>omega
 |none=>omega
 | @ok ks d h h1 h2=>
  obtain ⟨_,_,hl,_⟩:=h.ok'
  have hb:∀i<r.length,0≤(lg0 r i).blo:=fun i hi=>by have:=(hl.leg i hi).1.burn;unfold eQ at this;omega
  refine ⟨⟨zZ fun i hi=>⟨(h2 i hi).2,hb i hi⟩,xy⟩,fun {x y z f} hm g=>?_⟩
  obtain ⟨e0,hy⟩:=g.yes (h.of hm) h1
  refine ⟨e0,hy.trans ?_⟩
  unfold eQ at hm
  constructor
  ·intro k
   by_cases hh:jr d (fun i=>(lg0 r i).blo) r.length<1000000000000
   ·obtain ⟨i,hi,e⟩:=z7 hh
    obtain ⟨lo,hi',k1,k2⟩:=k i hi
    obtain ⟨⟨hi2,k3⟩,_⟩:=h2 i hi
    obtain ⟨rfl,_⟩:=k1.uniq k3
    rw [wC (by dsimp only;omega) fun j hj=>hb j (by omega)] at k2
    dsimp only at k2
    omega
   ·omega
  ·intro k i hi
   obtain ⟨⟨hi2,k3⟩,k4⟩:=h2 i hi
   refine ⟨_,_,k3,?_⟩
   rw [wC (by dsimp only;omega) fun j hj=>hb j (by omega)]
   have:=z6 (d:=d) (b:=fun i=>(lg0 r i).blo) hi
   dsimp only
   omega
end Go.MW
