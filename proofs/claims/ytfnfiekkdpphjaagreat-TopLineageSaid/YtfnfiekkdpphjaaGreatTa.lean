/-
  Texts of these claims, joined: Pla Plb Plc Pld Ple Plf Plg Plh Pli Pma Plj Plk Pll Plm Pln Plo Plp Plq Plr Mwa Mwb Mwj Mwc Mwd Mwe Mwf Mwg Mwh.
-/
import Derived.OrdersIn
import Derived.TacticsIn
import Derived.RangeFuncLeaves
import Derived.RangeFuncOwn
import Derived.RangeFuncNested
import Derived.CallsIn
import Derived.WalkKit
import Derived.WalkLawsBesides
namespace Go.MW
variable{α:Type}{k i b:Nat}{ts l xs:List Int}{most:Int}
theorem yW{p:α→Bool}:∀{ls:List α} {k:Nat} {l:α},ls[k]? =some l→p l=true→(∀j<k,∀l,ls[j]? =some l→p l=false)→ls.findIdx? p=some k:=by
 intro ls
 induction ls with
 |nil=>intro k l h;simp at h
 |cons x xs ih=>
  intro k l h1 h2 h3;rw [List.findIdx?_cons]
  cases k with
  |zero=>simp only [List.getElem?_cons_zero,Option.some.injEq] at h1;subst h1;simp [h2]
  |succ k=>
   have hx:=h3 0 (by omega) x rfl;simp only [List.getElem?_cons_succ] at h1;rw [hx,ih h1 h2 (fun j hj l hl=>h3 (j+1) (by omega) l hl)];rfl
theorem vY{p:α→Bool}{ls:List α}(h:∀j<ls.length,∀l,ls[j]? =some l→p l=false):ls.findIdx? p=none:=by
 rw [List.findIdx?_eq_none_iff];intro x hx;obtain ⟨i,hi⟩:=List.getElem?_of_mem hx;exact h i (List.getElem?_eq_some_iff.1 hi).1 x hi
theorem FY{p:α→Bool}(ls:List α):ls.any p=(ls.findIdx? p).isSome:=by
 induction ls with
 |nil=>rfl
 |cons x xs ih=>rw [List.findIdx?_cons,List.any_cons,ih];cases p x<;>simp
theorem eU{ls:List α}{Q:α→Prop}(h:∀j<k,∀l,ls[j]? =some l→Q l){x:α}(hx:ls[k]? =some x)(hq:Q x):∀j<k+1,∀l,ls[j]? =some l→Q l:=by
 intro j hj l hl;by_cases e:j=k
 ·subst e;rw [hx] at hl;cases hl;exact hq
 ·exact h j (by omega) l hl
end Go.MW
namespace Go.MW
theorem gS:∃f:(Nat→Prop)→Nat→Nat,(∀p,f p 0=0)∧∀p n,(p n→f p (n+1)=f p n+1)∧(¬p n→f p (n+1)=f p n):=by
 classical
 refine ⟨fun p n=>Nat.rec (motive:=fun _=>Nat) 0 (fun k r=>r+if p k then 1 else 0) n,fun _=>rfl,fun p n=>⟨fun h=>?_,fun h=>?_⟩⟩
 ·show _+(if p n then 1 else 0)=_;rw [if_pos h]
 ·show _+(if p n then 1 else 0)=_;rw [if_neg h];rfl
theorem B9(p:Nat→Prop):(Classical.choose gS) p 0=0:=(Classical.choose_spec gS).1 p
open Classical in
theorem xF(p:Nat→Prop)(n:Nat):(Classical.choose gS) p (n+1)=(Classical.choose gS) p n+if p n then 1 else 0:=by
 by_cases h:p n
 ·rw [((Classical.choose_spec gS).2 p n).1 h,if_pos h]
 ·rw [((Classical.choose_spec gS).2 p n).2 h,if_neg h];rfl
theorem GX(p:Nat→Prop)(n:Nat):(Classical.choose gS) p n≤n:=by
 induction n with
 |zero=>rw [B9];exact Nat.le_refl _
 |succ n ih=>simp only [xF];split<;>omega
theorem cnt_mono{p q:Nat→Prop}{n:Nat}(h:∀v<n,p v→q v):(Classical.choose gS) p n≤(Classical.choose gS) q n:=by
 induction n with
 |zero=>rw [B9,B9];exact Nat.le_refl _
 |succ n ih=>
  have:=ih fun v hv=>h v (by omega)
  have h2:=h n (by omega);simp only [xF];by_cases hp:p n
  ·simp [hp,h2 hp];omega
  ·simp only [hp,if_false];omega
theorem cnt_lt{p q:Nat→Prop}{n:Nat}(h:∀v<n,p v→q v){u:Nat}(hu:u<n)(hq:q u)(hp:¬p u):(Classical.choose gS) p n<(Classical.choose gS) q n:=by
 induction n with
 |zero=>omega
 |succ n ih=>
  simp only [xF];by_cases e:u=n
  ·subst e;have:=cnt_mono (p:=p) (q:=q) (n:=u) fun v hv=>h v (by omega)
   simp [hp,hq];omega
  ·have:=ih (fun v hv=>h v (by omega)) (by omega);have h2:=h n (by omega);by_cases hp:p n
   ·simp [hp,h2 hp];omega
   ·simp only [hp,if_false];omega
theorem Rk{p:Nat→Prop}{n:Nat}(h:n≤(Classical.choose gS) p n):∀v<n,p v:=by
 intro v hv;refine Classical.byContradiction fun hp=>?_
 have:=cnt_lt (p:=p) (q:=fun _=>True) (n:=n) (fun _ _ _=>trivial) hv trivial hp;have:=GX (fun _=>True) n;omega
theorem K9{p:Nat→Prop}{n u:Nat}(hu:u<n)(hp:p u):0<(Classical.choose gS) p n:=by
 have:=cnt_lt (p:=fun _=>False) (q:=p) (n:=n) (fun _ _ h=>h.elim) hu hp (fun h=>h);omega
theorem La{L:Nat→Nat→Prop}{n:Nat}(hm:∀k v,L k v→L (k+1) v)(hg:∀k,(∀v<n,L k v)∨∃v,v<n∧L (k+1) v∧¬L k v)(h0:∃v,v<n∧L 0 v):
  ∀v<n,L (n - 1) v:=by
 have key:∀k,k+1≤n→k+1≤(Classical.choose gS) (L k) n:=by
  intro k
  induction k with
  |zero=>intro _;obtain ⟨v,h1,h2⟩:=h0;exact K9 h1 h2
  |succ k ih=>
   intro hk;have h1:=ih (by omega)
   rcases hg k with h|⟨v,h2,h3,h4⟩
   ·have:(Classical.choose gS) (fun _=>True) n≤(Classical.choose gS) (L (k+1)) n:=cnt_mono fun v hv _=>hm k v (h v hv)
    have h5:n≤(Classical.choose gS) (fun _=>True) n:=by
     clear this h h1 hk ih h0 hg
     induction n with
     |zero=>omega
     |succ n ih=>simp only [xF,if_true];omega
    omega
   ·have:=cnt_lt (p:=L k) (q:=L (k+1)) (n:=n) (fun v _ h=>hm k v h) h2 h3 h4;omega
 obtain ⟨v,hv,_⟩:=h0;refine Rk ?_;have:=key (n - 1) (by omega);omega
def aZ(f:Nat→Int):Nat→Int
 |0=>0
 |n+1=>aZ f n+f n
theorem bF{f g:Nat→Int}{n:Nat}(h:∀v<n,f v=g v):aZ f n=aZ g n:=by
 induction n with
 |zero=>rfl
 |succ n ih=>simp only [aZ,ih fun v hv=>h v (by omega),h n (by omega)]
theorem lA{f g:Nat→Int}{n:Nat}(h:∀v<n,f v≤g v):aZ f n≤aZ g n:=by
 induction n with
 |zero=>exact Int.le_refl _
 |succ n ih=>
  have h1:=ih fun v hv=>h v (by omega)
  have h2:=h n (by omega);simp only [aZ];omega
theorem sB{f g:Nat→Int}{n:Nat}(h:∀v<n,f v≤g v){u:Nat}(hu:u<n)(hl:f u<g u):aZ f n<aZ g n:=by
 induction n with
 |zero=>omega
 |succ n ih=>
  simp only [aZ];by_cases e:u=n
  ·subst e;have:=lA (f:=f) (g:=g) (n:=u) fun v hv=>h v (by omega)
   omega
  ·have h1:=ih (fun v hv=>h v (by omega)) (by omega);have h2:=h n (by omega);omega
theorem sC(f g:Nat→Int)(n:Nat):aZ (fun v=>f v+g v) n=aZ f n+aZ g n:=by
 induction n with
 |zero=>rfl
 |succ n ih=>simp only [aZ,ih];omega
theorem mW(f g:Nat→Int)(n:Nat):aZ (fun v=>f v - g v) n=aZ f n - aZ g n:=by
 induction n with
 |zero=>rfl
 |succ n ih=>simp only [aZ,ih];omega
theorem C4(f:Nat→Int)(n:Nat):aZ (fun v=> - f v) n= - aZ f n:=by
 induction n with
 |zero=>rfl
 |succ n ih=>simp only [aZ,ih];omega
theorem sA(f:Nat→Int)(c:Int)(n:Nat):aZ (fun v=>c*f v) n=c*aZ f n:=by
 induction n with
 |zero=>simp [aZ]
 |succ n ih=>simp only [aZ,ih,Int.mul_add]
theorem gD(n:Nat):aZ (fun _=>0) n=0:=by
 induction n with
 |zero=>rfl
 |succ n ih=>simp only [aZ,ih];rfl
theorem xR(c:Int)(n:Nat):aZ (fun _=>c) n=n*c:=by
 induction n with
 |zero=>simp [aZ]
 |succ n ih=>simp only [aZ,ih];rw [Int.natCast_succ,Int.add_mul,Int.one_mul]
theorem db{f:Nat→Int}{n:Nat}(h:∀v<n,0≤f v):0≤aZ f n:=by
 have:=lA (f:=fun _=>0) (g:=f) h
 rwa [gD] at this
theorem pb{f:Nat→Int}{n u:Nat}(hu:u<n)(h:∀v<n,v≠u→f v=0):aZ f n=f u:=by
 induction n with
 |zero=>omega
 |succ n ih=>
  simp only [aZ];by_cases e:u=n
  ·subst e;rw [bF (g:=fun _=>0) (fun v hv=>h v (by omega) (by omega)),gD];omega
  ·rw [ih (by omega) fun v hv=>h v (by omega),h n (by omega) (by omega)];omega
structure Arc where
 f:Nat
 t:Nat
 c:Int
 l:Int
def jt(as:List Arc)(p:Nat→Int):Prop:=∀x∈as,p x.t≤p x.f+x.c
def U2(as:List Arc)(n:Nat)(C:Int):Prop:=∀x∈as,x.f<n∧x.t<n∧-C≤x.c
theorem Dy(p:Nat→Prop)(n:Nat)(h:p n):∃n,p n∧∀m,p m→n≤m:=by
 induction n using Nat.strongRecOn with
 |_ n ih=>
  by_cases hm:∃m,m<n∧p m
  ·obtain ⟨m,h1,h2⟩:=hm;exact ih m h1 h2
  ·exact ⟨n,h,fun m hp=>Nat.le_of_not_lt fun hl=>hm ⟨m,hl,hp⟩⟩
def Lev(as:List Arc)(D:Nat→Int):Nat→Nat→Prop
 |0,v=>D v=0
 |k+1,v=>Lev as D k v∨∃x∈as,x.t=v∧Lev as D k x.f∧D v=D x.f+x.c
theorem Lev.low{as:List Arc}{D:Nat→Int}{C:Int}(hC:0≤C)(hc:∀x∈as,-C≤x.c):∀(k:Nat) (v:Nat),Lev as D k v→-(k*C)≤D v:=by
 intro k
 induction k with
 |zero=>intro v h;simp only [Lev] at h;omega
 |succ k ih=>
  intro v h;have e:((k+1:Nat):Int)*C=k*C+C:=by rw [Int.natCast_succ,Int.add_mul,Int.one_mul]
  rw [e]
  rcases h with h|⟨x,hx,_,h,hd⟩
  ·have:=ih v h;omega
  ·have:=ih _ h;have:=hc x hx;omega
theorem jt.GJ{as:List Arc}{n:Nat}{p:Nat→Int}(hn:0<n)(fH:∀x∈as,x.f<n∧x.t<n)(h:jt as p):
  ∃D,jt as D∧(∀v,D v≤0)∧∀v<n,Lev as D (n - 1) v:=by
 let S:Nat→Prop:=fun m=>∃D:Nat→Int,jt as D∧(∀v,D v≤0)∧aZ (fun v=> - D v) n=(m:Int)
 have hS:∃m,S m:=by
  obtain ⟨M,hM⟩:∃M:Int,∀v<n,p v≤M:=by
   clear hn fH
   induction n with
   |zero=>exact ⟨0,fun v hv=>by omega⟩
   |succ n ih=>
    obtain ⟨M,hM⟩:=ih;refine ⟨max M (p n),fun v hv=>?_⟩;by_cases e:v=n
    ·subst e;omega
    ·have:=hM v (by omega);omega
  let D:Nat→Int:=fun v=>if v<n then p v - M else 0
  have hD:∀v,D v≤0:=fun v=>by
   simp only [D];split
   ·rename_i hv;have:=hM v hv;omega
   ·omega
  have h1:0≤aZ (fun v=> - D v) n:=db fun v _=>by have:=hD v;omega
  refine ⟨(aZ (fun v=> - D v) n).toNat,D,fun x hx=>?_,hD,by omega⟩;have:=h x hx;simp only [D,(fH x hx).1,(fH x hx).2,if_true];omega
 obtain ⟨m,hm⟩:=hS;obtain ⟨m,⟨D,hf,h0,hs⟩,Fx⟩:=Dy S m hm;refine ⟨D,hf,h0,?_⟩;have raise:∀L:Nat→Prop,(∀v<n,D v=0→L v)→(∀x∈as,L x.f→D x.t=D x.f+x.c→L x.t)→∀v<n,L v:=by
  intro L hL hT v hv;refine Classical.byContradiction fun Zw=>?_
  open Classical in
  let E:Nat→Int:=fun v=>if v<n∧¬L v then D v+1 else D v
  have hE:jt as E:=fun x hx=>by
   have h1:=hf x hx;obtain ⟨h2,h3⟩:=fH x hx;simp only [E,h2,h3,true_and];by_cases TR:L x.f
   ·by_cases RU:L x.t
    ·simp only [TR,RU,not_true,if_false];exact h1
    ·have:D x.t≠D x.f+x.c:=fun e=>RU (hT x hx TR e)
     simp only [TR,RU,not_true,not_false_iff,if_false,if_true];omega
   ·by_cases RU:L x.t
    ·simp only [TR,RU,not_true,not_false_iff,if_false,if_true];omega
    ·simp only [TR,RU,not_false_iff,if_true];omega
  have aad:∀v,E v≤0:=fun v=>by
   have:=h0 v;simp only [E];split
   ·rename_i hc;have:D v≠0:=fun e=>hc.2 (hL v hc.1 e)
    omega
   ·exact this
  have fU:aZ (fun v=> - E v) n<aZ (fun v=> - D v) n:=by
   refine sB (u:=v) (fun u _=>?_) hv ?_
   ·simp only [E];split<;>omega
   ·simp only [E,hv,Zw,not_false_iff,and_self,if_true];omega
  have LJ:0≤aZ (fun v=> - E v) n:=db fun v _=>by have:=aad v;omega
  have:=Fx (aZ (fun v=> - E v) n).toNat ⟨E,hE,aad,by omega⟩;omega
 refine La (L:=Lev as D) (fun k v h=> .inl h) (fun k=>?_) ?_
 ·refine Classical.or_iff_not_imp_right.2 fun ew=>?_
  refine raise (Lev as D k) (fun v _ e=>?_) (fun x hx hl e=>?_)
  ·clear ew
   induction k with
   |zero=>exact e
   |succ k ih=>exact .inl ih
  ·refine Classical.byContradiction fun DR=>ew ⟨x.t,(fH x hx).2,.inr ⟨x,hx,rfl,hl,e⟩,DR⟩
 ·refine Classical.byContradiction fun ew=>?_
  have:=raise (fun _=>False) (fun v hv e=>ew ⟨v,hv,e⟩) (fun _ _ h=>h.elim) 0 hn;exact this
theorem jt.bounded{as:List Arc}{n:Nat}{C:Int}{p:Nat→Int}(hn:0<n)(hC:0≤C)(fH:U2 as n C)(h:jt as p):
  ∃D,jt as D∧(∀v,D v≤0)∧∀v<n,-(((n - 1:Nat):Int)*C)≤D v:=by
 obtain ⟨D,h1,h2,h3⟩:=h.GJ hn fun x hx=>⟨(fH x hx).1,(fH x hx).2.1⟩
 exact ⟨D,h1,h2,fun v hv=>Lev.low hC (fun x hx=>(fH x hx).2.2) _ _ (h3 v hv)⟩
end Go.MW
namespace Go.MW
variable{i:Nat}
def gi(l:List Int)(i:Nat):Int:=l.getD i 0
theorem ck{l:List Int}(h:i<l.length):l[i]? =some (gi l i):=by
 simp [gi,h]
theorem iI{l:List Int}(h:i<l.length)(x:Int)(j:Nat):gi (l.set i x) j=if j=i then x else gi l j:=by
 unfold gi;by_cases e:j=i
 ·subst e;simp [h]
 ·simp [e,List.getElem?_set_ne (Ne.symm e)]
theorem eO(n:Nat)(x:Int){i:Nat}(h:i<n):gi (List.replicate n x) i=x:=by simp [gi,h]
def ga(l:List Arc)(i:Nat):Arc:=l.getD i ⟨0,0,0,0⟩
theorem Ph{l:List Arc}(h:i<l.length):l[i]? =some (ga l i):=by
 simp [ga,h]
theorem yU{l:List Arc}(h:i<l.length)(x:Arc)(j:Nat):ga (l.set i x) j=if j=i then x else ga l j:=by
 unfold ga;by_cases e:j=i
 ·subst e;simp [h]
 ·simp [e,List.getElem?_set_ne (Ne.symm e)]
theorem kF(n:Nat)(x:Arc){i:Nat}(h:i<n):ga (List.replicate n x) i=x:=by simp [ga,h]
structure BS where
 cost:List Int
 by_:List Arc
def BS.can(s:BS)(x:Arc):Prop:=gi s.cost x.f+x.c<gi s.cost x.t
def BS.rlx(s:BS)(x:Arc):BS:=⟨s.cost.set x.t (gi s.cost x.f+x.c),s.by_.set x.t x⟩
theorem Lev.up{as:List Arc}{D:Nat→Int}{k m:Nat}(h:k≤m){v:Nat}(hv:Lev as D k v):Lev as D m v:=by
 induction h with
 |refl=>exact hv
 |step _ ih=>exact .inl ih
inductive gq(b:List Arc):Nat→Nat→Int→Nat→Prop
 |nil {v:Nat}:gq b v 0 0 v
 |cons {v u:Nat} {k:Nat} {c:Int} (h:0≤(ga b v).l) (t:gq b (ga b v).f k c u):gq b v (k+1) ((ga b v).c+c) u
theorem gq.trans{b:List Arc}{v u w:Nat}{k m:Nat}{c d:Int}(h:gq b v k c u)(g:gq b u m d w):gq b v (k+m) (c+d) w:=by
 induction h with
 |nil=>simpa using g
 |cons h t ih=>
  have:=gq.cons h (ih g);rw [Int.add_assoc,Nat.add_right_comm];exact this
theorem gq.turn{b b':List Arc}{v:Nat}(hb:∀u,u≠v→ga b' u=ga b u){u w:Nat}{k:Nat}{c:Int}(h:gq b' u k c w):
  gq b u k c w∨∃i d j e,gq b u i d v∧gq b' v j e w∧i+j=k∧d+e=c:=by
 induction h with
 |nil=>exact .inl .nil
 | @cons x w k c h t ih=>
  by_cases e:x=v
  ·subst e;exact .inr ⟨0,0,_,_,.nil,.cons h t,by omega,by omega⟩
  ·rw [hb x e] at h ih ⊢
   rcases ih with g|⟨i,d,j,e',g1,g2,g3,g4⟩
   ·exact .inl (.cons h g)
   ·exact .inr ⟨i+1,_,j,e',.cons h g1,g2,by omega,by omega⟩
structure zI(n:Nat)(as:List Arc)(r j:Nat)(ov:Option Arc)(s:BS):Prop where
 lc:s.cost.length=n
 lb:s.by_.length=n
 hi:∀v<n,gi s.cost v≤0
 lo:∀v<n,-(((r:Int)*801+j)*20000)≤gi s.cost v
 rg:∀v<n,(ga s.by_ v).f<n∧(ga s.by_ v).t<n∧-20000≤(ga s.by_ v).c∧(ga s.by_ v).c≤20000
 ovm:∀x,ov=some x→x∈as
 nov:ov=none→∀i<j,∀x,as[i]? =some x→¬s.can x
 fe:∀D,jt as D→(∀v,D v≤0)→(∀v<n,D v≤gi s.cost v)∧(∀v<n,Lev as D r v→gi s.cost v=D v)∧
  (∀i<j,∀x,as[i]? =some x→Lev as D r x.f→D x.t=D x.f+x.c→gi s.cost x.t=D x.t)∧(ov≠none→∃v,v<n∧¬Lev as D r v)
 rd:∃R:Nat→Nat,(∀v<n,(R v=0∧ga s.by_ v=⟨0,0,0,-1⟩)∨(1≤R v∧R v≤r+1∧ga s.by_ v∈as∧(ga s.by_ v).t=v∧gi s.cost (ga s.by_ v).f+(ga s.by_ v).c≤gi s.cost v∧R v≤R (ga s.by_ v).f+1))∧
  (∀i<j,∀x,as[i]? =some x→¬s.can x∨R x.f=r+1)∧(∀x∈as,¬s.can x∨r≤R x.f)∧(∀x,ov=some x→R x.t=r+1)
 cyc:∀v<n,∀k c,gq s.by_ v (k+1) c v→c<0
def tO(as:List Arc)(n:Nat):Prop:=as.length≤801∧∀x∈as,x.f<n∧x.t<n∧-20000≤x.c∧x.c≤20000∧0≤x.l∧x.f≠x.t
variable{n:Nat}{as:List Arc}{r j:Nat}{ov:Option Arc}{s:BS}{x:Arc}
theorem zI.init(hn:0<n):zI n as 0 0 none ⟨List.replicate n 0,List.replicate n ⟨0,0,0,-1⟩⟩ where
 lc:=by simp
 lb:=by simp
 hi:=fun v hv=>by rw [eO n 0 hv];omega
 lo:=fun v hv=>by rw [eO n 0 hv];omega
 rg:=fun v hv=>by rw [kF n _ hv];exact ⟨hn,hn,by simp,by simp⟩
 ovm:=fun x h=>by cases h
 nov:=fun _ i hi=>by omega
 fe:=fun D hD h0=>⟨fun v hv=>by rw [eO n 0 hv];exact h0 v,fun v hv h=>by rw [eO n 0 hv];exact h.symm,fun i hi=>by omega,fun h=>(h rfl).elim⟩
 rd:=⟨fun _=>0,fun v hv=> .inl ⟨rfl,kF n _ hv⟩,fun i hi=>by omega,fun x _=> .inr (Nat.zero_le _),fun x h=>by cases h⟩
 cyc:=fun v hv k c h=>by
  cases h with
  |cons h _=>rw [kF n _ hv] at h;simp at h
theorem zI.skip(h:zI n as r j ov s)(ho:tO as n)(hx:as[j]? =some x)(hc:¬s.can x):zI n as r (j+1) ov s where
 lc:=h.lc
 lb:=h.lb
 hi:=h.hi
 lo:=fun v hv=>by have:=h.lo v hv;omega
 rg:=h.rg
 ovm:=h.ovm
 nov:=fun e i hi y hy=>by
  by_cases he:i=j
  ·subst he;rw [hx] at hy;cases hy;exact hc
  ·exact h.nov e i (by omega) y hy
 fe:=fun D hD h0=>by
  obtain ⟨h1,h2,h3,h4⟩:=h.fe D hD h0;refine ⟨h1,h2,fun i hi y hy hl ht=>?_,h4⟩;by_cases he:i=j
  ·subst he;rw [hx] at hy;cases hy
   obtain ⟨b1,b2,_⟩:=ho.2 x (List.mem_of_getElem? hx);have h5:=h2 _ b1 hl;have h6:=h1 _ b2;unfold BS.can at hc;omega
  ·exact h3 i (by omega) y hy hl ht
 rd:=by
  obtain ⟨R,h1,h2,h3,h4⟩:=h.rd;refine ⟨R,h1,fun i hi y hy=>?_,h3,h4⟩;by_cases he:i=j
  ·subst he;rw [hx] at hy;cases hy;exact .inl hc
  ·exact h2 i (by omega) y hy
 cyc:=h.cyc
theorem gq.cost{b:List Arc}{C:List Int}{n:Nat}(h:∀v<n,0≤(ga b v).l→(ga b v).f<n∧gi C (ga b v).f+(ga b v).c≤gi C v){v u:Nat}{k:Nat}{c:Int}(hb:gq b v k c u)(hv:v<n):gi C u+c≤gi C v:=by
 induction hb with
 |nil=>omega
 |cons hl t ih=>
  obtain ⟨h1,h2⟩:=h _ hv hl;have:=ih h1;omega
theorem zI.Dd(h:zI n as r j ov s)(ho:tO as n)(hx:as[j]? =some x)(hc:s.can x):zI n as r (j+1) (some x) (s.rlx x):=by
 have hm:=List.mem_of_getElem? hx;obtain ⟨b1,b2,b3,b4,b5,b6⟩:=ho.2 x hm;have hg:∀v,gi (s.rlx x).cost v=if v=x.t then gi s.cost x.f+x.c else gi s.cost v:=fun v=>iI (by rw [h.lc];exact b2) _ v
 have hb:∀v,ga (s.rlx x).by_ v=if v=x.t then x else ga s.by_ v:=fun v=>yU (by rw [h.lb];exact b2) _ v
 have hle:∀v,gi (s.rlx x).cost v≤gi s.cost v:=fun v=>by
  rw [hg];unfold BS.can at hc;split
  ·rename_i e;subst e;omega
  ·omega
 have W8:∀v<n,0≤(ga s.by_ v).l→(ga s.by_ v).f<n∧gi s.cost (ga s.by_ v).f+(ga s.by_ v).c≤gi s.cost v:=fun v hv hl=>by
  obtain ⟨R,h1,_⟩:=h.rd;refine ⟨(h.rg v hv).1,?_⟩
  rcases h1 v hv with ⟨_,e⟩|⟨_,_,_,_,h2,_⟩
  ·rw [e] at hl;simp at hl
  ·exact h2
 refine ⟨by simp [BS.rlx,h.lc],by simp [BS.rlx,h.lb],fun v hv=>Int.le_trans (hle v) (h.hi v hv),fun v hv=>?_,fun v hv=>?_,fun y hy=>(by cases hy;exact hm),fun e=>(by cases e),fun D hD h0=>?_,?_,?_⟩
 ·have h1:=h.lo v hv;have h2:=h.lo x.f b1;rw [hg];split<;>omega
 ·rw [hb];split
  ·exact ⟨b1,b2,b3,b4⟩
  ·exact h.rg v hv
 ·obtain ⟨h1,h2,h3,h4⟩:=h.fe D hD h0;have Kf:D x.t≤gi s.cost x.f+x.c:=by have:=hD x hm;have:=h1 _ b1;omega
  have Zs:¬Lev as D r x.t:=fun hl=>by
   have:=h2 _ b2 hl;unfold BS.can at hc;omega
  refine ⟨fun v hv=>?_,fun v hv hl=>?_,fun i hi y hy hl ht=>?_,fun _=>⟨_,b2,Zs⟩⟩
  ·rw [hg];split
   ·rename_i e;subst e;exact Kf
   ·exact h1 v hv
  ·rw [hg,if_neg (fun e:v=x.t=>Zs (e▸hl))];exact h2 v hv hl
  ·obtain ⟨c1,c2,_⟩:=ho.2 y (List.mem_of_getElem? hy);by_cases he:i=j
   ·subst he;rw [hx] at hy;cases hy
    rw [hg,if_pos rfl,h2 _ b1 hl,ht]
   ·have h5:=h3 i (by omega) y hy hl ht;rw [hg];split
    ·rename_i e;rw [e] at h5;unfold BS.can at hc;rw [e];omega
    ·exact h5
 ·obtain ⟨R,h1,h2,h3,h4⟩:=h.rd;have hxr:r≤R x.f:=by
   rcases h3 x hm with e|e
   ·exact (e hc).elim
   ·exact e
  have hR:∀v<n,R v≤r+1:=fun v hv=>by
   rcases h1 v hv with ⟨e,_⟩|⟨_,e,_⟩<;>omega
  refine ⟨fun v=>if v=x.t then r+1 else R v,fun v hv=>?_,fun i hi y hy=>?_,fun y hy=>?_,fun y hy=>?_⟩
  ·by_cases e:v=x.t
   ·subst e;refine .inr ⟨?_,?_,?_,?_,?_,?_⟩
    ·simp
    ·simp
    ·rw [hb,if_pos rfl];exact hm
    ·rw [hb,if_pos rfl]
    ·rw [hb,if_pos rfl,hg,hg,if_neg b6,if_pos rfl];exact Int.le_refl _
    ·simp only [hb,if_true,if_neg b6];omega
   ·simp only [hb,if_neg e]
    rcases h1 v hv with e1|⟨e1,e2,e3,e4,e5,e6⟩
    ·exact .inl e1
    ·refine .inr ⟨e1,e2,e3,e4,?_,?_⟩
     ·have:=hle (ga s.by_ v).f;rw [hg v,if_neg e];omega
     ·split
      ·omega
      ·exact e6
  ·by_cases he:i=j
   ·subst he;rw [hx] at hy;cases hy
    refine .inl fun ER=>?_
    unfold BS.can at ER;rw [hg,hg,if_neg b6,if_pos rfl] at ER;omega
   ·dsimp only;by_cases e:y.f=x.t
    ·exact .inr (by rw [if_pos e])
    ·rw [if_neg e]
     rcases h2 i (by omega) y hy with e1|e1
     ·refine .inl fun ER=>e1 ?_
      unfold BS.can at ER ⊢;have:=hle y.t;rw [hg y.f,if_neg e] at ER;omega
     ·exact .inr e1
  ·dsimp only;by_cases e:y.f=x.t
   ·exact .inr (by rw [if_pos e];omega)
   ·rw [if_neg e]
    rcases h3 y hy with e1|e1
    ·refine .inl fun ER=>e1 ?_
     unfold BS.can at ER ⊢;have:=hle y.t;rw [hg y.f,if_neg e] at ER;omega
    ·exact .inr e1
  ·cases hy;simp
 ·have Np:∀{u w:Nat} {k:Nat} {c:Int},gq (s.rlx x).by_ u k c w→gq s.by_ u k c w∨∃i d j e,gq s.by_ u i d x.t∧gq (s.rlx x).by_ x.t j e w∧i+j=k∧d+e=c:=
   gq.turn (fun u hu=>by rw [hb,if_neg hu])
  have vR:∀{k:Nat} {c:Int},gq s.by_ x.f k c x.t→x.c+c<0:=fun h=>by
   have:=gq.cost W8 h b1;unfold BS.can at hc;omega
  have key:∀(m j:Nat) (e:Int) (v i:Nat) (d:Int),j≤m→gq s.by_ v i d x.t→gq (s.rlx x).by_ x.t j e v→v<n→1≤i+j→d+e<0:=by
   intro m
   induction m with
   |zero=>
    intro j e v i d hj h1 h2 hv h3;obtain rfl:j=0:=by omega
    cases h2
    obtain ⟨i',rfl⟩:∃i',i=i'+1:=⟨i - 1,by omega⟩;have:=h.cyc _ hv _ _ h1;omega
   |succ m ih=>
    intro j e v i d hj h1 h2 hv h3
    cases h2 with
    |nil=>
     obtain ⟨i',rfl⟩:∃i',i=i'+1:=⟨i - 1,by omega⟩;have:=h.cyc _ hv _ _ h1;omega
    | @cons _ _ k c hl t=>
     have J7:ga (s.rlx x).by_ x.t=x:=by rw [hb,if_pos rfl]
     rw [J7] at t ⊢
     rcases Np t with g|⟨i2,d2,j2,e2,g1,g2,g3,g4⟩
     ·have:=vR (g.trans h1);omega
     ·have h5:=vR g1;by_cases h6:1≤i+j2
      ·have:=ih j2 e2 v i d (by omega) h1 g2 hv h6;omega
      ·obtain rfl:i=0:=by omega
       obtain rfl:j2=0:=by omega
       cases h1
       cases g2
       omega
  intro v hv k c VD
  rcases Np VD with g|⟨i,d,j2,e,g1,g2,g3,g4⟩
  ·exact h.cyc v hv k c g
  ·have:=key j2 j2 e v i d (Nat.le_refl _) g1 g2 hv (by omega);omega
theorem zI.next(h:zI n as r as.length ov s)(ho:tO as n):zI n as (r+1) 0 none s where
 lc:=h.lc
 lb:=h.lb
 hi:=h.hi
 lo:=fun v hv=>by have:=h.lo v hv;have:=ho.1;push_cast;omega
 rg:=h.rg
 ovm:=fun x e=>by cases e
 nov:=fun _ i hi=>by omega
 fe:=fun D hD h0=>by
  obtain ⟨h1,h2,h3,_⟩:=h.fe D hD h0;refine ⟨h1,fun v hv hl=>?_,fun i hi=>by omega,fun e=>(e rfl).elim⟩
  rcases hl with hl|⟨x,hx,rfl,hl,ht⟩
  ·exact h2 v hv hl
  ·obtain ⟨i,hi⟩:=List.getElem?_of_mem hx;exact h3 i (List.getElem?_eq_some_iff.1 hi).1 x hi hl ht
 rd:=by
  obtain ⟨R,h1,h2,h3,_⟩:=h.rd;refine ⟨R,fun v hv=>?_,fun i hi=>by omega,fun x hx=>?_,fun x e=>by cases e⟩
  ·rcases h1 v hv with e|⟨e1,e2,e3⟩
   ·exact .inl e
   ·exact .inr ⟨e1,by omega,e3⟩
  ·obtain ⟨i,hi⟩:=List.getElem?_of_mem hx
   rcases h2 i (List.getElem?_eq_some_iff.1 hi).1 x hi with e|e
   ·exact .inl e
   ·exact .inr (by omega)
 cyc:=h.cyc
theorem zI.sol(h:zI n as r as.length none s)(ho:tO as n)(hn:0<n):jt as (gi s.cost)∧∀v<n,-(((n - 1:Nat):Int)*20000)≤gi s.cost v∧gi s.cost v≤0:=by
 have hf:jt as (gi s.cost):=fun x hx=>by
  obtain ⟨i,hi⟩:=List.getElem?_of_mem hx;have:=h.nov rfl i (List.getElem?_eq_some_iff.1 hi).1 x hi;unfold BS.can at this;omega
 refine ⟨hf,fun v hv=>⟨?_,h.hi v hv⟩⟩;obtain ⟨D,h1,h2,h3⟩:=hf.bounded (C:=20000) hn (by omega) fun x hx=>by
  obtain ⟨b1,b2,b3,_⟩:=ho.2 x hx;exact ⟨b1,b2,b3⟩
 have h4:=(h.fe D h1 h2).1 v hv;have h5:=h3 v hv;omega
theorem zI.none(h:zI n as r j (some x) s)(ho:tO as n)(hn:0<n)(hr:n≤r+1):¬∃p,jt as p:=by
 rintro ⟨p,hp⟩;obtain ⟨D,h1,h2,h3⟩:=hp.GJ hn fun x hx=>by obtain ⟨b1,b2,_⟩:=ho.2 x hx;exact ⟨b1,b2⟩
 obtain ⟨v,hv,hl⟩:=(h.fe D h1 h2).2.2.2 (by simp);exact hl ((h3 v hv).up (by omega))
end Go.MW
namespace Go.MW
variable{b:List Arc}
theorem gq.L6{b':List Arc}{v:Nat}(hb:∀u,u≠v→ga b' u=ga b u){u w:Nat}{k:Nat}{c:Int}(h:gq b u k c w):
  gq b' u k c w∨∃i d j e,gq b u i d v∧gq b' u i d v∧gq b v j e w∧i+j=k∧d+e=c:=by
 induction h with
 |nil=>exact .inl .nil
 | @cons x w k c h t ih=>
  by_cases e:x=v
  ·subst e;exact .inr ⟨0,0,_,_,.nil,.nil,.cons h t,by omega,by omega⟩
  ·have e2:=hb x e
   rcases ih with g|⟨i,d,j,e',g1,g2,g3,g4,g5⟩
   ·refine .inl ?_;have:=gq.cons (b:=b') (v:=x) (k:=k) (c:=c) (u:=w) (by rw [e2];exact h) (by rw [e2];exact g)
    rwa [e2] at this
   ·refine .inr ⟨i+1,_,j,e',.cons h g1,?_,g3,by omega,(?_:(ga b x).c+d+e'=(ga b x).c+c)⟩
    ·have:=gq.cons (b:=b') (v:=x) (k:=i) (c:=d) (u:=v) (by rw [e2];exact h) (by rw [e2];exact g2)
     rwa [e2] at this
    ·omega
theorem gq.uniq{v u:Nat}{k m:Nat}{c d:Int}(hu:(ga b u).l<0)(h:gq b v k c u)(g:gq b v m d u):k=m:=by
 induction h generalizing m d with
 |nil=>
  cases g with
  |nil=>rfl
  |cons h _=>omega
 |cons h t ih=>
  cases g with
  |nil=>omega
  |cons _ g=>rw [ih hu g]
theorem gq.split{v u:Nat}{k:Nat}{c:Int}(h:gq b v k c u){i:Nat}(hi:i≤k):∃w d e,gq b v (k - i) d w∧gq b w i e u:=by
 induction h with
 |nil=>obtain rfl:i=0:=by omega
       exact ⟨_,0,0,.nil,.nil⟩
 | @cons x w k c h t ih=>
  by_cases e:i=k+1
  ·subst e;exact ⟨x,0,_,by simpa using .nil,.cons h t⟩
  ·obtain ⟨w',d,e',g1,g2⟩:=ih (by omega);refine ⟨w',(ga b x).c+d,e',?_,g2⟩;have:=gq.cons h g1
   rwa [show k - i+1=k+1 - i from by omega] at this
theorem gq.short{n:Nat}{v u:Nat}{k:Nat}{c:Int}{A:Nat→Prop}(hA:∀v,A v→v<n)(hn:∀v,A v→0≤(ga b v).l→A (ga b v).f)(hu:(ga b u).l<0)(h:gq b v k c u)(hv:A v):k<n:=by
 have fH:∀{v w:Nat} {k:Nat} {c:Int},gq b v k c w→A v→A w:=fun h=>by
  induction h with
  |nil=>exact id
  |cons h t ih=>exact fun hv=>ih (hn _ hv h)
 have key:∀m,m≤k→m+1≤(Classical.choose gS) (fun x=>∃i c,i≤m∧gq b x i c u) n:=by
  intro m
  induction m with
  |zero=>intro _;exact K9 (hA _ (fH h hv)) ⟨0,0,Nat.le_refl _,.nil⟩
  |succ m ih=>
   intro hm;have h1:=ih (by omega);obtain ⟨w,d,e,g1,g2⟩:=h.split (i:=m+1) hm
   have:=cnt_lt (p:=fun x=>∃i c,i≤m∧gq b x i c u) (q:=fun x=>∃i c,i≤m+1∧gq b x i c u) (n:=n) (fun v _ ⟨i,c,hi,hb⟩=>⟨i,c,by omega,hb⟩) (hA _ (fH g1 hv)) ⟨m+1,e,Nat.le_refl _,g2⟩
    (fun ⟨i,c,hi,hb⟩=>by have:=hb.uniq hu g2;omega)
   omega
 have h1:=key k (Nat.le_refl _);have h2:=GX (fun x=>∃i c,i≤k∧gq b x i c u) n;omega
abbrev far:Int:=1152921504606846976
structure xG(n:Nat)(as:List Arc)(S:Nat→Prop)(D:Nat→Int)(j:Nat)(again:Bool)(s:BS):Prop where
 lc:s.cost.length=n
 lb:s.by_.length=n
 lo:∀v<n,D v≤gi s.cost v
 top:∀v<n,gi s.cost v≤far
 up:∀v<n,gi s.cost v<far→gi s.cost v≤20000*(Classical.choose gS) (fun v=>gi s.cost v<far) n
 src:∀v<n,S v→gi s.cost v≤0
 by1:∀v<n,gi s.cost v<far→((ga s.by_ v).l= -1∧S v∧gi s.cost v=0)∨
  (0≤(ga s.by_ v).l∧ga s.by_ v∈as∧(ga s.by_ v).t=v∧gi s.cost (ga s.by_ v).f<far∧gi s.cost (ga s.by_ v).f+(ga s.by_ v).c≤gi s.cost v)
 dep:∀v<n,gi s.cost v<far→∃k c u,gq s.by_ v k c u∧(ga s.by_ u).l<0
 nov:again=false→∀i<j,∀x,as[i]? =some x→¬(gi s.cost x.f<far∧s.can x)
structure WG(n:Nat)(as:List Arc)(D:Nat→Int):Prop where
 n0:0<n
 n1:n≤65
 ok:∀x∈as,x.f<n∧x.t<n∧-20000≤x.c∧x.c≤20000∧0≤x.l∧x.f≠x.t
 fe:jt as D
 d0:∀v,D v≤0
 d1:∀v<n,-1280000≤D v
variable{n:Nat}{as:List Arc}{S:Nat→Prop}{D:Nat→Int}{j:Nat}{again:Bool}{s:BS}{x:Arc}
theorem xG.low(h:xG n as S D j again s)(hg:WG n as D){v:Nat}(hv:v<n)(hr:gi s.cost v<far):gi s.cost v≤1300000:=by
 have h1:=h.up v hv hr;have h2:=GX (fun v=>gi s.cost v<far) n;have:=hg.n1;omega
theorem xG.next(h:xG n as S D j again s):xG n as S D 0 false s:=⟨h.lc,h.lb,h.lo,h.top,h.up,h.src,h.by1,h.dep,fun _ i hi=>by omega⟩
theorem xG.skip(h:xG n as S D j again s)(hx:as[j]? =some x)(hc:¬(gi s.cost x.f<far∧s.can x)):xG n as S D (j+1) again s:=
 ⟨h.lc,h.lb,h.lo,h.top,h.up,h.src,h.by1,h.dep,fun e i hi y hy=>by
  by_cases he:i=j
  ·subst he;rw [hx] at hy;cases hy;exact hc
  ·exact h.nov e i (by omega) y hy⟩
theorem xG.Dd(h:xG n as S D j again s)(hg:WG n as D)(hx:as[j]? =some x)(hf:gi s.cost x.f<far)(hc:s.can x):xG n as S D (j+1) true (s.rlx x):=by
 have hm:=List.mem_of_getElem? hx;obtain ⟨b1,b2,b3,b4,b5,b6⟩:=hg.ok x hm;have uN:∀v,gi (s.rlx x).cost v=if v=x.t then gi s.cost x.f+x.c else gi s.cost v:=fun v=>iI (by rw [h.lc];exact b2) _ v
 have hb:∀v,ga (s.rlx x).by_ v=if v=x.t then x else ga s.by_ v:=fun v=>yU (by rw [h.lb];exact b2) _ v
 have hle:∀v,gi (s.rlx x).cost v≤gi s.cost v:=fun v=>by
  rw [uN];unfold BS.can at hc;split
  ·rename_i e;subst e;omega
  ·omega
 have Kf:=h.low hg b1 hf;have J7:gi (s.rlx x).cost x.t<far:=by rw [uN,if_pos rfl];simp only [far];omega
 have fc:∀v,(v<n∧gi s.cost v<far)→0≤(ga s.by_ v).l→ga s.by_ v∈as∧(ga s.by_ v).t=v∧gi s.cost (ga s.by_ v).f+(ga s.by_ v).c≤gi s.cost v∧((ga s.by_ v).f<n∧gi s.cost (ga s.by_ v).f<far):=fun v ⟨hv,hr⟩ hl=>by
  rcases h.by1 v hv hr with ⟨e,_⟩|⟨_,e1,e2,e3,e4⟩
  ·omega
  ·exact ⟨e1,e2,e4,(hg.ok _ e1).1,e3⟩
 have Kr:∀{v u:Nat} {k:Nat} {c:Int},gq s.by_ v k c u→(v<n∧gi s.cost v<far)→gi s.cost u+c≤gi s.cost v∧D v≤D u+c:=fun hb=>by
  induction hb with
  |nil=>intro _;omega
  | @cons v u k c hl t ih=>
   intro hv;obtain ⟨h1,h2,h3,h4⟩:=fc _ hv hl;obtain ⟨h5,h6⟩:=ih h4;have h7:=hg.fe _ h1;rw [h2] at h7;omega
 have vR:∀{k:Nat} {c:Int},¬gq s.by_ x.f k c x.t:=fun Np=>by
  have h1:=Kr Np ⟨b1,hf⟩;have h2:=hg.fe x hm;unfold BS.can at hc;omega
 have Xx:(Classical.choose gS) (fun v=>gi s.cost v<far) n≤(Classical.choose gS) (fun v=>gi (s.rlx x).cost v<far) n:=cnt_mono fun v _ hv=>by have:=hle v;omega
 have DN:∀u,u≠x.t→ga (s.rlx x).by_ u=ga s.by_ u:=fun u hu=>by rw [hb,if_neg hu]
 refine ⟨by simp [BS.rlx,h.lc],by simp [BS.rlx,h.lb],fun v hv=>?_,fun v hv=>Int.le_trans (hle v) (h.top v hv),fun v hv hr=>?_,fun v hv hs=>Int.le_trans (hle v) (h.src v hv hs),fun v hv hr=>?_,?_,fun e=>(by cases e)⟩
 ·rw [uN];split
  ·rename_i e;subst e;have:=hg.fe x hm;have:=h.lo _ b1;omega
  ·exact h.lo v hv
 ·by_cases e:v=x.t
  ·subst e;rw [uN,if_pos rfl];have h1:=h.up _ b1 hf;by_cases Tm:gi s.cost x.t<far
   ·have:=h.up _ b2 Tm;unfold BS.can at hc;omega
   ·have:=cnt_lt (p:=fun v=>gi s.cost v<far) (q:=fun v=>gi (s.rlx x).cost v<far) (n:=n) (fun v _ hv=>by have:=hle v;omega) b2 J7 Tm;omega
  ·rw [uN,if_neg e] at hr ⊢;have:=h.up v hv hr;omega
 ·by_cases e:v=x.t
  ·subst e;refine .inr ?_;simp only [hb,if_true];refine ⟨b5,hm,trivial,?_,?_⟩
   ·rw [uN,if_neg b6];exact hf
   ·rw [uN,uN,if_neg b6,if_pos rfl];exact Int.le_refl _
  ·rw [uN,if_neg e] at hr ⊢;rw [hb,if_neg e]
   rcases h.by1 v hv hr with e1|⟨e1,e2,e3,e4,e5⟩
   ·exact .inl e1
   ·have:=hle (ga s.by_ v).f;exact .inr ⟨e1,e2,e3,by omega,by omega⟩
 ·
  obtain ⟨k0,c0,u0,g1,g2⟩:=h.dep _ b1 hf;have DR:∀{k:Nat} {c:Int} {u:Nat},gq s.by_ x.f k c u→gq (s.rlx x).by_ x.f k c u∧u≠x.t:=fun g=>by
   refine ⟨?_,fun e=>by subst e;exact vR g⟩
   rcases gq.L6 DN g with g|⟨i,d,j,e,g,_⟩
   ·exact g
   ·exact (vR g).elim
  obtain ⟨g3,g4⟩:=DR g1;have vQ:(ga (s.rlx x).by_ u0).l<0:=by rw [hb,if_neg g4];exact g2
  have yM:gq (s.rlx x).by_ x.t (k0+1) (x.c+c0) u0:=by
   have:=gq.cons (b:=(s.rlx x).by_) (v:=x.t) (k:=k0) (c:=c0) (u:=u0) (by rw [hb,if_pos rfl];exact b5) (by rw [hb,if_pos rfl];exact g3)
   rwa [hb,if_pos rfl] at this
  intro v hv hr;by_cases e:v=x.t
  ·subst e;exact ⟨_,_,_,yM,vQ⟩
  ·rw [uN,if_neg e] at hr;obtain ⟨k,c,u,f1,f2⟩:=h.dep v hv hr
   rcases gq.L6 DN f1 with f|⟨i,d,j,e',_,f,_⟩
   ·by_cases e2:u=x.t
    ·subst e2;exact ⟨_,_,_,f.trans yM,vQ⟩
    ·exact ⟨_,_,_,f,by rw [hb,if_neg e2];exact f2⟩
   ·exact ⟨_,_,_,f.trans yM,vQ⟩
def WM(n:Nat)(D:Nat→Int)(s:BS):Nat:=(aZ (fun v=>gi s.cost v - D v) n).toNat
theorem xG.less(h:xG n as S D j again s)(hg:WG n as D)(hx:as[j]? =some x)(hf:gi s.cost x.f<far)(hc:s.can x):WM n D (s.rlx x)<WM n D s:=by
 have hm:=List.mem_of_getElem? hx;obtain ⟨b1,b2,_⟩:=hg.ok x hm;have h2:=h.Dd hg hx hf hc;have uN:∀v,gi (s.rlx x).cost v=if v=x.t then gi s.cost x.f+x.c else gi s.cost v:=fun v=>iI (by rw [h.lc];exact b2) _ v
 unfold BS.can at hc;have h3:aZ (fun v=>gi (s.rlx x).cost v - D v) n<aZ (fun v=>gi s.cost v - D v) n:=sB (u:=x.t) (fun v _=>by
  rw [uN];split
  ·rename_i e;subst e;omega
  ·omega) b2 (by rw [uN,if_pos rfl];omega)
 have h4:0≤aZ (fun v=>gi (s.rlx x).cost v - D v) n:=db fun v hv=>by have:=h2.lo v hv;omega
 unfold WM;omega
def after(D:Nat→Int)(s:BS)(v:Nat):Int:=if gi s.cost v<far then gi s.cost v else D v+far
theorem xG.after(h:xG n as S D as.length false s)(hg:WG n as D):jt as (after D s):=fun x hx=>by
 obtain ⟨b1,b2,b3,b4,b5,b6⟩:=hg.ok x hx;obtain ⟨i,hi⟩:=List.getElem?_of_mem hx;have h1:=h.nov rfl i (List.getElem?_eq_some_iff.1 hi).1 x hi;unfold MW.after;by_cases hf:gi s.cost x.f<far
 ·have h2:=h.low hg b1 hf;have h3:gi s.cost x.t≤gi s.cost x.f+x.c:=by
   have:¬s.can x:=fun e=>h1 ⟨hf,e⟩
   unfold BS.can at this;omega
  have h4:gi s.cost x.t<far:=by simp only [far];omega
  rw [if_pos hf,if_pos h4];exact h3
 ·rw [if_neg hf];have h5:=hg.fe x hx;have h6:=hg.d1 _ b1;split
  ·rename_i ht;have:=h.low hg b2 ht;simp only [far];omega
  ·omega
theorem xG.closed(h:xG n as S D as.length false s)(hg:WG n as D):∀x∈as,gi s.cost x.f<far→gi s.cost x.t<far:=fun x hx hf=>by
 obtain ⟨b1,b2,b3,b4,b5,b6⟩:=hg.ok x hx;obtain ⟨i,hi⟩:=List.getElem?_of_mem hx;have h1:=h.nov rfl i (List.getElem?_eq_some_iff.1 hi).1 x hi;have h2:=h.low hg b1 hf;have:¬s.can x:=fun e=>h1 ⟨hf,e⟩
 unfold BS.can at this;simp only [far] at*;omega
def oK(b:List Arc):Nat→Nat→List Arc
 |_,0=>[]
 |v,k+1=>ga b v::oK b (ga b v).f k
end Go.MW
namespace Go.MW
variable{α:Type}{k i b:Nat}{ts l xs:List Int}{most:Int}
def dot:List Arc→List Int→(Arc→Int)→Int
 |x::es,z::ts,g=>z*g x+dot es ts g
 |_,_,_=>0
theorem K6{g h:Arc→Int}:∀{es:List Arc} {ts:List Int},(∀x∈es,g x=h x)→dot es ts g=dot es ts h:=by
 intro es
 induction es with
 |nil=>intro ts _;simp [dot]
 |cons x es ih=>
  intro ts h
  cases ts with
  |nil=>simp [dot]
  |cons z ts=>simp only [dot,h x (.head _),ih fun y hy=>h y (.tail _ hy)]
theorem K4{g:Arc→Int}:∀{es:List Arc} {ts:List Int} {i:Nat} {x:Arc},es[i]? =some x→i<ts.length→∀z,dot es (ts.set i z) g=dot es ts g+(z - gi ts i)*g x:=by
 intro es
 induction es with
 |nil=>intro ts i x h;simp at h
 |cons y es ih=>
  intro ts i x h hi z
  cases ts with
  |nil=>simp at hi
  |cons t ts=>
   cases i with
   |zero=>
    simp only [List.getElem?_cons_zero,Option.some.injEq] at h;subst h;simp only [List.set_cons_zero,dot,gi,List.getD_cons_zero];rw [Int.sub_mul];omega
   |succ i=>
    simp only [List.getElem?_cons_succ] at h;have h2:=ih h (by simpa using hi) z;simp only [List.set_cons_succ,dot,h2];have:gi (t::ts) (i+1)=gi ts i:=rfl;rw [this];omega
theorem GU{g:Arc→Int}:∀(es:List Arc) (m:Nat),dot es (List.replicate m 0) g=0:=by
 intro es
 induction es with
 |nil=>intro m;simp [dot]
 |cons x es ih=>
  intro m
  cases m with
  |zero=>simp [dot]
  |succ m=>simp only [List.replicate_succ,dot,ih];omega
def ind(a v:Nat):Int:=if a=v then 1 else 0
def net(es:List Arc)(ts:List Int)(v:Nat):Int:=dot es ts fun x=>ind x.t v - ind x.f v
theorem J4{a n:Nat}(h:a<n)(p:Nat→Int):aZ (fun v=>ind a v*p v) n=p a:=by
 rw [pb h fun v _ hv=>by simp [ind,Ne.symm hv]];simp [ind]
theorem Hk(f p:Nat→Int)(c:Int)(n:Nat):aZ (fun v=>c*f v*p v) n=c*aZ (fun v=>f v*p v) n:=by
 rw [←sA];exact bF fun v _=>by rw [Int.mul_assoc]
theorem tr{n:Nat}(p:Nat→Int):∀{es:List Arc} {ts:List Int},(∀x∈es,x.f<n∧x.t<n)→dot es ts (fun x=>p x.t - p x.f)=aZ (fun v=>net es ts v*p v) n:=by
 intro es
 induction es with
 |nil=>intro ts _;simp only [dot,net];rw [bF (g:=fun _=>0) (fun v _=>by simp),gD]
 |cons x es ih=>
  intro ts h
  cases ts with
  |nil=>simp only [dot,net];rw [bF (g:=fun _=>0) (fun v _=>by simp),gD]
  |cons z ts=>
   have h1:=ih (ts:=ts) fun y hy=>h y (.tail _ hy)
   obtain ⟨h2,h3⟩:=h x (.head _);simp only [dot];rw [h1];have:aZ (fun v=>net (x::es) (z::ts) v*p v) n=aZ (fun v=>z*(ind x.t v - ind x.f v)*p v+net es ts v*p v) n:=
    bF fun v _=>by simp only [net,dot];rw [Int.add_mul]
   have e:aZ (fun v=>(ind x.t v - ind x.f v)*p v) n=p x.t - p x.f:=by
    rw [bF (g:=fun v=>ind x.t v*p v - ind x.f v*p v) (fun v _=>by rw [Int.sub_mul]),mW,J4 h3,J4 h2]
   rw [this,sC,Hk,e]
theorem Qp{n:Nat}{es:List Arc}(h:∀x∈es,x.f<n∧x.t<n):aZ (net es ts) n=0:=by
 have:=tr (n:=n) (fun _=>1) (ts:=ts) h;rw [K6 (h:=fun _=>0) (fun _ _=>by omega)] at this;have h0:∀(es:List Arc) (ts:List Int),dot es ts (fun _=>0)=0:=by
  intro es
  induction es with
  |nil=>intro ts;simp [dot]
  |cons x es ih=>intro ts;cases ts<;>simp [dot,ih]
 rw [h0] at this;rw [this];exact bF fun v _=>by simp
theorem JL{es:List Arc}{x:Arc}(h:es[i]? =some x)(hi:i<ts.length)(z:Int)(v:Nat):net es (ts.set i z) v=net es ts v+(z - gi ts i)*(ind x.t v - ind x.f v):=K4 h hi z
theorem GV{g h:Arc→Int}:∀{es:List Arc} {ts:List Int},(∀i x,es[i]? =some x→i<ts.length→gi ts i*g x≤gi ts i*h x)→dot es ts g≤dot es ts h:=by
 intro es
 induction es with
 |nil=>intro ts _;simp [dot]
 |cons x es ih=>
  intro ts hh
  cases ts with
  |nil=>simp [dot]
  |cons z ts=>
   have h1:=ih (ts:=ts) fun i y hy hi=>by have:=hh (i+1) y hy (by simpa using hi);simpa [gi] using this
   have h2:=hh 0 x rfl (by simp);simp only [dot];simp only [gi,List.getD_cons_zero] at h2;omega
theorem Pr{g h:Arc→Int}{es:List Arc}(hh:∀i x,es[i]? =some x→i<ts.length→gi ts i*g x=gi ts i*h x):dot es ts g=dot es ts h:=
 Int.le_antisymm (GV fun i x a b=>by rw [hh i x a b];exact Int.le_refl _) (GV fun i x a b=>by rw [hh i x a b];exact Int.le_refl _)
def Arc.back(x:Arc):Arc:=⟨x.t,x.f,-x.c,x.l⟩
def item(x:Arc)(z:Int):List Arc:=x::if 0<z then [x.back] else []
def dY:List Arc→List Int→List Arc
 |x::es,z::ts=>item x z++dY es ts
 |_,_=>[]
theorem fN{y:Arc}:∀{es:List Arc} {ts:List Int},es.length=ts.length→(y∈dY es ts↔∃(i:Nat) (x:Arc),es[i]? =some x∧(y=x∨(0<gi ts i∧y=x.back))):=by
 intro es
 induction es with
 |nil=>intro ts _;cases ts<;>simp [dY]
 |cons x es ih=>
  intro ts h
  cases ts with
  |nil=>simp at h
  |cons z ts=>
   simp only [dY,List.mem_append,ih (by simpa using h)];constructor
   ·rintro (h1|⟨i,x',h1,h2⟩)
    ·simp only [item,List.mem_cons] at h1
     rcases h1 with h1|h1
     ·exact ⟨0,x,rfl,.inl h1⟩
     ·split at h1
      ·rename_i hz;exact ⟨0,x,rfl,.inr ⟨hz,by simpa using h1⟩⟩
      ·simp at h1
    ·exact ⟨i+1,x',h1,h2⟩
   ·rintro ⟨i,x',h1,h2⟩
    cases i with
    |zero=>
     simp only [List.getElem?_cons_zero,Option.some.injEq] at h1;subst h1
     rcases h2 with h2|⟨h2,h3⟩
     ·exact .inl (by simp [item,h2])
     ·have h2:0<z:=h2;exact .inl (by simp [item,h2,h3])
    |succ i=>exact .inr ⟨i,x',h1,h2⟩
def Gq(es:List Arc)(ts:List Int)(k:Nat):Nat:=(dY (es.take k) (ts.take k)).length
theorem Mm:∀{es:List Arc} {ts:List Int} {k:Nat} {x:Arc},es[k]? =some x→k<ts.length→dY es ts=dY (es.take k) (ts.take k)++(item x (gi ts k)++dY (es.drop (k+1)) (ts.drop (k+1)))∧dY (es.take (k+1)) (ts.take (k+1))=dY (es.take k) (ts.take k)++item x (gi ts k):=by
 intro es
 induction es with
 |nil=>intro ts k x h;simp at h
 |cons y es ih=>
  intro ts k x h hk
  cases ts with
  |nil=>simp at hk
  |cons z ts=>
   cases k with
   |zero=>
    simp only [List.getElem?_cons_zero,Option.some.injEq] at h;subst h;simp [dY,gi]
   |succ k=>
    simp only [List.getElem?_cons_succ] at h;obtain ⟨h1,h2⟩:=ih h (by simpa using hk);have e:gi (z::ts) (k+1)=gi ts k:=rfl;constructor
    ·simp only [dY,List.take_succ_cons,List.drop_succ_cons,e];rw [h1,List.append_assoc]
    ·simp only [dY,List.take_succ_cons,e] at h2 ⊢;rw [h2,List.append_assoc]
theorem Jt{es:List Arc}{x:Arc}(h:es[k]? =some x)(hk:k<ts.length):(dY es ts)[Gq es ts k]? =some x∧(0<gi ts k→(dY es ts)[Gq es ts k+1]? =some x.back∧Gq es ts (k+1)=Gq es ts k+2)∧(¬0<gi ts k→Gq es ts (k+1)=Gq es ts k+1):=by
 obtain ⟨h1,h2⟩:=Mm h hk;unfold Gq;rw [h1,h2];refine ⟨?_,fun hz=>⟨?_,?_⟩,fun hz=>?_⟩
 ·rw [List.getElem?_append_right (Nat.le_refl _)];simp [item]
 ·rw [List.getElem?_append_right (by omega)];simp [item,hz]
 ·simp [item,hz]
 ·simp [item,hz]
theorem ME{es:List Arc}(h:es.length=ts.length):Gq es ts es.length=(dY es ts).length:=by
 unfold Gq;rw [List.take_length,h,List.take_length]
theorem JH(es:List Arc)(ts:List Int):Gq es ts 0=0:=by simp [Gq,dY]
theorem V1{es:List Arc}{p:Nat→Int}(hl:es.length=ts.length)(hn:∀i,i<ts.length→0≤gi ts i)(h:jt (dY es ts) p):dot es ts (·.c)=dot es ts (fun x=>p x.t - p x.f):=by
 refine Pr fun i x hx hi=>?_
 have h1:=h x ((fN hl).2 ⟨i,x,hx,.inl rfl⟩);by_cases h0:gi ts i=0
 ·rw [h0];simp
 ·have h2:=h x.back ((fN hl).2 ⟨i,x,hx,.inr ⟨by have:=hn i hi;omega,rfl⟩⟩);simp only [Arc.back] at h2
  congr 1
  omega
theorem weak{es:List Arc}{p:Nat→Int}{n:Nat}(fH:∀x∈es,x.f<n∧x.t<n)(hn:∀i,i<ts.length→0≤gi ts i)(h:jt es p):aZ (fun v=>net es ts v*p v) n≤dot es ts (·.c):=by
 rw [←tr p fH];refine GV fun i x hx hi=>?_
 have:=h x (List.mem_of_getElem? hx);exact Int.mul_le_mul_of_nonneg_left (by omega) (hn i hi)
theorem UA{es:List Arc}{n:Nat}{R:Nat→Prop}(fH:∀x∈es,x.f<n∧x.t<n)(hn:∀i,i<ts.length→0≤gi ts i)(hR:∀x∈es,R x.f→R x.t)(q:Nat→Int)(hq:∀v,(R v→q v=0)∧(¬R v→q v=1)):
  aZ (fun v=>net es ts v*q v) n≤0:=by
 rw [←tr q fH];have:dot es ts (fun x=>q x.t - q x.f)≤dot es ts (fun _=>0):=by
  refine GV fun i x hx hi=>?_
  have h1:=hR x (List.mem_of_getElem? hx);refine Int.mul_le_mul_of_nonneg_left ?_ (hn i hi);by_cases hf:R x.f
  ·rw [(hq x.f).1 hf,(hq x.t).1 (h1 hf)];omega
  ·rw [(hq x.f).2 hf];by_cases ht:R x.t
   ·rw [(hq x.t).1 ht];omega
   ·rw [(hq x.t).2 ht];omega
 refine Int.le_trans this ?_;have h0:∀(es:List Arc) (ts:List Int),dot es ts (fun _=>0)=0:=by
  intro es
  induction es with
  |nil=>intro ts;simp [dot]
  |cons x es ih=>intro ts;cases ts<;>simp [dot,ih]
 rw [h0];exact Int.le_refl _
inductive pW:List Arc→Nat→Nat→Prop
 |nil {v:Nat}:pW [] v v
 |cons {x:Arc} {p:List Arc} {v:Nat} (h:pW p x.t v):pW (x::p) x.f v
theorem pW.append{p q:List Arc}{u v w:Nat}(h:pW p u v)(g:pW q v w):pW (p++q) u w:=by
 induction h with
 |nil=>exact g
 |cons _ ih=>exact .cons (ih g)
theorem pW.snoc{p:List Arc}{x:Arc}{u:Nat}(h:pW p u x.f):pW (p++[x]) u x.t:=h.append (.cons .nil)
theorem Hj{b:List Arc}:∀{k:Nat} {v w:Nat} {c:Int},gq b v k c w→oK b v (k+1)=oK b v k++[ga b w]:=by
 intro k
 induction k with
 |zero=>intro v w c h;cases h;rfl
 |succ k ih=>
  intro v w c h
  cases h with
  |cons _ t=>rw [oK,ih t];rfl
theorem kx(b:List Arc)(v k:Nat):(oK b v k).length=k:=by
 induction k generalizing v with
 |zero=>rfl
 |succ k ih=>simp [oK,ih]
theorem xO{b:List Arc}{v u:Nat}{c:Int}{A:Nat→Prop}(hA:∀v,A v→0≤(ga b v).l→(ga b v).t=v∧A (ga b v).f)(h:gq b v k c u)(hv:A v):pW (oK b v k).reverse u v:=by
 induction h with
 |nil=>exact .nil
 | @cons v u k c hl t ih=>
  obtain ⟨h1,h2⟩:=hA v hv hl;simp only [oK,List.reverse_cons];have:=(ih h2).snoc
  rwa [h1] at this
theorem sy{b:List Arc}{v u:Nat}{c:Int}{A:Nat→Prop}{B:Arc→Prop}(hA:∀v,A v→0≤(ga b v).l→B (ga b v)∧A (ga b v).f)(h:gq b v k c u)(hv:A v):∀x∈oK b v k,B x:=by
 induction h with
 |nil=>intro x hx;cases hx
 | @cons v u k c hl t ih=>
  obtain ⟨h1,h2⟩:=hA v hv hl;intro x hx;simp only [oK,List.mem_cons] at hx
  rcases hx with rfl|hx
  ·exact h1
  ·exact ih h2 x hx
theorem xL{b:List Arc}{v u:Nat}{c:Int}{A:Nat→Prop}(hA:∀v,A v→0≤(ga b v).l→(ga b v).t=v∧A (ga b v).f)(hu:(ga b u).l<0)(h:gq b v k c u)(hv:A v):((oK b v k).map (·.t)).Nodup:=by
 have key:∀{v u:Nat} {k:Nat} {c:Int},gq b v k c u→A v→∀x∈(oK b v k).map (·.t),∃j d,j≤k∧0<j∧gq b x j d u:=by
  intro v u k c h
  induction h with
  |nil=>intro _ x hx;cases hx
  | @cons v u k c hl t ih=>
   intro hv x hx;obtain ⟨h1,h2⟩:=hA v hv hl;simp only [oK,List.map_cons,List.mem_cons] at hx
   rcases hx with rfl|hx
   ·rw [h1];exact ⟨k+1,_,Nat.le_refl _,by omega,.cons hl t⟩
   ·obtain ⟨j,d,h3,h4,h5⟩:=ih h2 x hx;exact ⟨j,d,by omega,h4,h5⟩
 induction h with
 |nil=>simp [oK]
 | @cons v u k c hl t ih=>
  obtain ⟨h1,h2⟩:=hA v hv hl;simp only [oK,List.map_cons,List.nodup_cons];refine ⟨fun hx=>?_,ih hu h2⟩;obtain ⟨j,d,h3,h4,h5⟩:=key t h2 _ hx;rw [h1] at h5;have:=h5.uniq hu (.cons hl t);omega
end Go.MW
namespace Go.MW
def fwd(es:List Arc)(x:Arc):Prop:=(ga es x.l.toNat).f=x.f
instance (es:List Arc) (x:Arc):Decidable (fwd es x):=by unfold fwd;infer_instance
def push(es:List Arc)(m:Int)(ts:List Int)(x:Arc):List Int:=
 if fwd es x then ts.set x.l.toNat (gi ts x.l.toNat+m) else ts.set x.l.toNat (gi ts x.l.toNat - m)
def fX(es:List Arc)(m:Int)(ts:List Int)(p:List Arc):List Int:=p.foldl (push es m) ts
def least(es:List Arc)(ts:List Int)(n:Int)(p:List Arc):Int:=p.foldl (fun n x=>if fwd es x then n else min n (gi ts x.l.toNat)) n
def G9(es:List Arc):Prop:=∀(i:Nat) (x:Arc),es[i]? =some x→x.l=i∧x.f≠x.t
theorem G9.ga{es:List Arc}(h:G9 es){i:Nat}{x:Arc}(hx:es[i]? =some x):x.l.toNat=i∧ga es i=x:=by
 refine ⟨by rw [(h i x hx).1];rfl,?_⟩;simp [MW.ga,hx]
theorem nH(es:List Arc)(m:Int)(ts:List Int)(x:Arc):(push es m ts x).length=ts.length:=by unfold push;split<;>simp
theorem nG(es:List Arc)(m:Int)(p:List Arc):∀ts:List Int,(fX es m ts p).length=ts.length:=by
 induction p with
 |nil=>intro ts;rfl
 |cons x p ih=>intro ts;simp only [fX,List.foldl_cons] at ih ⊢;rw [ih,nH]
def IF(es:List Arc)(x:Arc):Prop:=∃(i:Nat) (y:Arc),es[i]? =some y∧(x=y∨x=y.back)
theorem IF.fwd{es:List Arc}(h:G9 es){x:Arc}{i:Nat}{y:Arc}(hy:es[i]? =some y)(hx:x=y∨x=y.back):x.l.toNat=i∧(fwd es x↔x=y):=by
 obtain ⟨h1,h2⟩:=h.ga hy;have h3:=(h i y hy).2
 rcases hx with rfl|rfl
 ·exact ⟨h1,by simp [MW.fwd,h1,h2]⟩
 ·refine ⟨h1,?_⟩;simp only [MW.fwd,Arc.back,h1,h2];constructor
  ·intro e;exact (h3 e).elim
  ·intro e;have:=congrArg Arc.f e;simp only at this;exact this.symm
theorem MB{es:List Arc}(h:G9 es){ts:List Int}(hl:ts.length=es.length){x:Arc}(hx:IF es x)(m:Int)(v:Nat):net es (push es m ts x) v=net es ts v+m*(ind x.t v - ind x.f v):=by
 obtain ⟨i,y,hy,Vf⟩:=hx;obtain ⟨h1,h2⟩:=IF.fwd h hy Vf;have hi:i<ts.length:=by rw [hl];exact (List.getElem?_eq_some_iff.1 hy).1
 unfold push;rw [h1];split
 ·rename_i hf;obtain rfl:=h2.1 hf;rw [JL hy hi]
  congr 2;omega
 ·rename_i hf;have hb:x=y.back:=Vf.resolve_left fun e=>hf (h2.2 e)
  subst hb;rw [JL hy hi]
  congr 1
  simp only [Arc.back];have e1:gi ts i - m - gi ts i= -m:=by omega
  rw [e1,Int.neg_mul,←Int.mul_neg,Int.neg_sub]
theorem HG{es:List Arc}(h:G9 es){p:List Arc}{u v:Nat}(hp:pW p u v):∀{ts:List Int},ts.length=es.length→(∀x∈p,IF es x)→∀(m:Int) (w:Nat),net es (fX es m ts p) w=net es ts w+m*(ind v w - ind u w):=by
 induction hp with
 |nil=>intro ts _ _ m w;simp [fX]
 | @cons x p v hc ih=>
  intro ts hl hx m w;have h1:=ih (ts:=push es m ts x) (by rw [nH,hl]) (fun y hy=>hx y (.tail _ hy)) m w;simp only [fX,List.foldl_cons] at h1 ⊢;rw [h1,MB h hl (hx x (.head _))];rw [Int.add_assoc,←Int.mul_add]
  congr 2;omega
def Rl(es:List Arc)(i:Nat)(p:List Arc):Nat:=p.countP fun x=>decide (x.l.toNat=i∧fwd es x)
def Sc(es:List Arc)(i:Nat)(p:List Arc):Nat:=p.countP fun x=>decide (x.l.toNat=i∧¬fwd es x)
theorem MC{es:List Arc}{ts:List Int}{x:Arc}(hx:x.l.toNat<ts.length)(m:Int)(i:Nat):gi (push es m ts x) i=gi ts i+(if x.l.toNat=i∧fwd es x then m else 0) - (if x.l.toNat=i∧¬fwd es x then m else 0):=by
 unfold push;by_cases hf:fwd es x
 ·rw [if_pos hf,iI hx];by_cases e:i=x.l.toNat
  ·subst e;simp [hf]
  ·simp [e,Ne.symm e]
 ·rw [if_neg hf,iI hx];by_cases e:i=x.l.toNat
  ·subst e;simp [hf]
  ·simp [e,Ne.symm e]
theorem AM{es:List Arc}{p:List Arc}:∀{ts:List Int},(∀x∈p,x.l.toNat<ts.length)→∀(m:Int) (i:Nat),gi (fX es m ts p) i=gi ts i+m*Rl es i p - m*Sc es i p:=by
 induction p with
 |nil=>intro ts _ m i;simp [fX,Rl,MW.Sc]
 |cons x p ih=>
  intro ts hx m i;have h1:=ih (ts:=push es m ts x) (fun y hy=>by rw [nH];exact hx y (.tail _ hy)) m i;simp only [fX,List.foldl_cons] at h1 ⊢;rw [h1,MC (hx x (.head _))];simp only [Rl,MW.Sc,List.countP_cons,decide_eq_true_eq];by_cases e:x.l.toNat=i
  ·by_cases hf:fwd es x
   ·simp only [e,hf,and_self,if_true,not_true,and_false,if_false,Int.natCast_add,Int.mul_add,Nat.add_zero];simp;omega
   ·simp only [e,hf,and_false,if_false,not_false_iff,and_self,if_true,Int.natCast_add,Int.mul_add,Nat.add_zero];simp;omega
  ·simp only [e,false_and,if_false,Nat.add_zero];omega
theorem tt{α:Type}{P:α→Bool}{g:α→Nat}{c:Nat}:∀{p:List α},(p.map g).Nodup→(∀x∈p,P x=true→g x=c)→p.countP P≤1:=by
 intro p
 induction p with
 |nil=>intro _ _;simp
 |cons x p ih=>
  intro h1 h2;simp only [List.map_cons,List.nodup_cons] at h1;rw [List.countP_cons];by_cases hx:P x=true
  ·have h0:p.countP P=0:=by
    rw [List.countP_eq_zero];intro y hy hpy;refine h1.1 ?_;rw [h2 x (.head _) hx,←h2 y (.tail _ hy) hpy];exact List.mem_map_of_mem hy
   rw [if_pos hx,h0];omega
  ·rw [if_neg hx];have:=ih h1.2 fun y hy=>h2 y (.tail _ hy)
   omega
theorem least_le{es:List Arc}{ts:List Int}{p:List Arc}:∀{n:Int},least es ts n p≤n∧(∀x∈p,¬fwd es x→least es ts n p≤gi ts x.l.toNat):=by
 induction p with
 |nil=>intro n;exact ⟨Int.le_refl _,fun x hx=>by cases hx⟩
 |cons x p ih=>
  intro n;obtain ⟨h1,h2⟩:=ih (n:=if fwd es x then n else min n (gi ts x.l.toNat));simp only [least,List.foldl_cons] at h1 h2 ⊢;refine ⟨?_,fun y hy hf=>?_⟩
  ·by_cases hf:fwd es x
   ·rw [if_pos hf] at h1 ⊢;exact h1
   ·rw [if_neg hf] at h1 ⊢;omega
  ·cases hy with
   |head=>rw [if_neg hf] at h1 ⊢;omega
   |tail _ hy=>exact h2 y hy hf
theorem JW{es:List Arc}{ts:List Int}{p:List Arc}:∀{n:Int},0<n→(∀x∈p,¬fwd es x→0<gi ts x.l.toNat)→0<least es ts n p:=by
 induction p with
 |nil=>intro n h _;exact h
 |cons x p ih=>
  intro n hn h;simp only [least,List.foldl_cons];refine ih ?_ fun y hy=>h y (.tail _ hy)
  split
  ·exact hn
  ·rename_i hf;have:=h x (.head _) hf;omega
def rem(n:Nat)(lf:List Int):Int:=aZ (fun v=>max (gi lf v) 0) n
abbrev FF:Int:=3600000000000
structure Cv(n:Nat)(es:List Arc)(wt:Nat→Int)(ts lf:List Int):Prop where
 lt:ts.length=es.length
 ll:lf.length=n
 nn:∀i<es.length,0≤gi ts i
 cons:∀v<n,net es ts v=wt v - gi lf v
 fe:∃p,jt (dY es ts) p
 tb:∀i<es.length,gi ts i+rem n lf≤FF
 sg:∀v<n,gi lf v≤FF∧-FF≤gi lf v
 tot:dot es ts (fun _=>1)+64*rem n lf≤64*FF
structure Rz(es:List Arc)(ts lf:List Int)(n:Nat)(p:List Arc)(u v:Nat):Prop where
 ch:pW p u v
 mem:∀x∈p,x∈dY es ts
 nd:(p.map (·.t)).Nodup
 un:u<n
 vn:v<n
 lu:gi lf u<0
 lv:0<gi lf v
 tight:∃q,jt (dY es ts) q∧∀x∈p,q x.t=q x.f+x.c
def vP(es:List Arc)(ts lf:List Int)(p:List Arc)(u v:Nat):Int:=least es ts (min (-gi lf u) (gi lf v)) p
def Fo(lf:List Int)(m:Int)(u v:Nat):List Int:=(lf.set u (gi lf u+m)).set v (gi (lf.set u (gi lf u+m)) v - m)
variable{n:Nat}{es:List Arc}{wt:Nat→Int}{ts lf:List Int}{p:List Arc}{u v:Nat}
theorem nJ(hl:es.length=ts.length)(hN:G9 es){x:Arc}(hx:x∈dY es ts):IF es x∧x.l.toNat<ts.length∧(¬fwd es x→0<gi ts x.l.toNat):=by
 obtain ⟨i,y,h1,h2⟩:=(fN hl).1 hx;obtain ⟨h3,h4⟩:=IF.fwd hN h1 (h2.imp id (·.2));refine ⟨⟨i,y,h1,h2.imp id (·.2)⟩,by rw [h3,←hl];exact (List.getElem?_eq_some_iff.1 h1).1,fun hf=>?_⟩;rw [h3];exact (h2.resolve_left fun e=>hf (h4.2 e)).1
theorem BA(hl:es.length=ts.length)(hN:G9 es)(hw:Rz es ts lf n p u v):0<vP es ts lf p u v∧vP es ts lf p u v≤-gi lf u∧vP es ts lf p u v≤gi lf v∧∀x∈p,¬fwd es x→vP es ts lf p u v≤gi ts x.l.toNat:=by
 have h1:=hw.lu;have h2:=hw.lv;have h3:=JW (es:=es) (ts:=ts) (p:=p) (n:=min (-gi lf u) (gi lf v)) (by omega) fun x hx=>(nJ hl hN (hw.mem x hx)).2.2
 obtain ⟨h4,h5⟩:=least_le (es:=es) (ts:=ts) (p:=p) (n:=min (-gi lf u) (gi lf v));unfold vP;exact ⟨h3,by omega,by omega,h5⟩
theorem once(hl:es.length=ts.length)(hN:G9 es)(hw:Rz es ts lf n p u v)(i:Nat):Rl es i p≤1∧Sc es i p≤1∧(0<Sc es i p→vP es ts lf p u v≤gi ts i)∧(0<Rl es i p→∃x∈p,x.l.toNat=i∧fwd es x):=by
 have QE:∀x∈p,x.l.toNat=i→∃y,es[i]? =some y∧(x=y∨x=y.back)∧(fwd es x↔x=y):=fun x hx hi=>by
  obtain ⟨j,y,h1,h2⟩:=(nJ hl hN (hw.mem x hx)).1;obtain ⟨h3,h4⟩:=IF.fwd hN h1 h2;obtain rfl:j=i:=h3.symm.trans hi;exact ⟨y,h1,h2,h4⟩
 refine ⟨?_,?_,fun h=>?_,fun h=>?_⟩
 ·refine tt (c:=(ga es i).t) hw.nd fun x hx hp=>?_
  simp only [decide_eq_true_eq] at hp;obtain ⟨y,h1,h2,h3⟩:=QE x hx hp.1;rw [(hN.ga h1).2,h3.1 hp.2]
 ·refine tt (c:=(ga es i).f) hw.nd fun x hx hp=>?_
  simp only [decide_eq_true_eq] at hp;obtain ⟨y,h1,h2,h3⟩:=QE x hx hp.1;rw [(hN.ga h1).2,h2.resolve_left fun e=>hp.2 (h3.2 e)];rfl
 ·obtain ⟨x,hx,hp⟩:=List.countP_pos_iff.1 h;simp only [decide_eq_true_eq] at hp;have:=(BA hl hN hw).2.2.2 x hx hp.2
  rwa [hp.1] at this
 ·obtain ⟨x,hx,hp⟩:=List.countP_pos_iff.1 h;simp only [decide_eq_true_eq] at hp;exact ⟨x,hx,hp⟩
theorem M0(hu:u<lf.length)(hv:v<lf.length)(OD:u≠v)(m:Int)(x:Nat):gi (Fo lf m u v) x=gi lf x+m*(ind u x - ind v x):=by
 unfold Fo;rw [iI (by simpa using hv),iI hu,iI hu];unfold ind;by_cases e1:x=v
 ·subst e1;rw [if_pos rfl,if_neg (Ne.symm OD),if_neg OD,if_pos rfl];omega
 ·rw [if_neg e1,if_neg (Ne.symm e1)];by_cases e2:x=u
  ·subst e2;simp
  ·rw [if_neg e2,if_neg (Ne.symm e2)];simp
theorem HF{es:List Arc}(h:G9 es){m:Int}(hm:0≤m):∀{p:List Arc} {ts:List Int},ts.length=es.length→(∀x∈p,IF es x)→dot es (fX es m ts p) (fun _=>1)≤dot es ts (fun _=>1)+m*p.length:=by
 intro p
 induction p with
 |nil=>intro ts _ _;simp [fX]
 |cons x p ih=>
  intro ts hl hx;have h1:=ih (ts:=push es m ts x) (by rw [nH,hl]) (fun y hy=>hx y (.tail _ hy));simp only [fX,List.foldl_cons] at h1 ⊢;have h2:dot es (push es m ts x) (fun _=>1)≤dot es ts (fun _=>1)+m:=by
   obtain ⟨i,y,hy,Vf⟩:=hx x (.head _);obtain ⟨h3,_⟩:=IF.fwd h hy Vf;have hi:i<ts.length:=by rw [hl];exact (List.getElem?_eq_some_iff.1 hy).1
   unfold push;rw [h3];split<;>rw [K4 hy hi]<;>omega
  rw [List.length_cons,Int.natCast_succ,Int.mul_add,Int.mul_one];omega
theorem Cv.send(h:Cv n es wt ts lf)(hN:G9 es)(hw:Rz es ts lf n p u v)(GB:p.length≤64):Cv n es wt (fX es (vP es ts lf p u v) ts p) (Fo lf (vP es ts lf p u v) u v)∧rem n (Fo lf (vP es ts lf p u v) u v)<rem n lf:=by
 have hl:=h.lt.symm;obtain ⟨m0,m1,m2,m3⟩:=BA hl hN hw;have OD:u≠v:=fun e=>by have:=hw.lu;have:=hw.lv;rw [e] at*;omega
 have W5:=fun i=>once hl hN hw i
 generalize vP es ts lf p u v=m at*;have HW:=M0 (lf:=lf) (by rw [h.ll];exact hw.un) (by rw [h.ll];exact hw.vn) OD m;have iu:∀x,ind u x=if x=u then 1 else 0:=fun x=>by unfold ind;by_cases e:u=x<;>simp [e,Ne.symm]
 have iv:∀x,ind v x=if x=v then 1 else 0:=fun x=>by unfold ind;by_cases e:v=x<;>simp [e,Ne.symm]
 have ZC:gi (Fo lf m u v) u=gi lf u+m:=by rw [HW,iu,iv,if_pos rfl,if_neg OD];omega
 have Xo:gi (Fo lf m u v) v=gi lf v - m:=by rw [HW,iu,iv,if_pos rfl,if_neg (Ne.symm OD)];omega
 have Vz:∀x,x≠u→x≠v→gi (Fo lf m u v) x=gi lf x:=fun x h1 h2=>by rw [HW,iu,iv,if_neg h1,if_neg h2];omega
 have QB:rem n (Fo lf m u v)=rem n lf - m:=by
  unfold rem;have h1:aZ (fun x=>max (gi (Fo lf m u v) x) 0 - max (gi lf x) 0) n= -m:=by
   rw [pb hw.vn]
   ·have:=hw.lv;rw [Xo];omega
   ·intro x hx hxv;by_cases e:x=u
    ·subst e;have:=hw.lu;rw [ZC];omega
    ·rw [Vz x e hxv];omega
  rw [mW] at h1;omega
 have W3:=fun i=>AM (es:=es) (p:=p) (ts:=ts) (fun x hx=>(nJ hl hN (hw.mem x hx)).2.1) m i
 have hmul:∀{c:Nat},c≤1→(c=0∧m*(c:Int)=0)∨(c=1∧m*(c:Int)=m):=fun {c} hc=>by
  have:c=0∨c=1:=by omega
  rcases this with e|e<;>subst e<;>simp
 refine ⟨⟨by rw [nG,h.lt],by simp [Fo,h.ll],fun i hi=>?_,fun x hx=>?_,?_,fun i hi=>?_,fun x hx=>?_,?_⟩,by omega⟩
 ·obtain ⟨o1,o2,o3,_⟩:=W5 i;rw [W3];have:=h.nn i hi
  rcases hmul o1 with ⟨_,e1⟩|⟨_,e1⟩<;>rcases hmul o2 with ⟨_,e2⟩|⟨c2,e2⟩<;>rw [e1,e2]
  ·omega
  ·have:=o3 (by omega);omega
  ·omega
  ·omega
 ·rw [HG hN hw.ch h.lt (fun y hy=>(nJ hl hN (hw.mem y hy)).1),h.cons x hx,HW];rw [Int.mul_sub,Int.mul_sub];omega
 ·obtain ⟨q,q1,q2⟩:=hw.tight;refine ⟨q,fun y hy=>?_⟩;obtain ⟨i,x,h1,h2⟩:=(fN (by rw [nG];exact hl)).1 hy;have fH:x∈dY es ts:=(fN hl).2 ⟨i,x,h1,.inl rfl⟩
  rcases h2 with rfl|⟨h2,rfl⟩
  ·exact q1 y fH
  ·by_cases h0:0<gi ts i
   ·exact q1 _ ((fN hl).2 ⟨i,x,h1,.inr ⟨h0,rfl⟩⟩)
   ·obtain ⟨o1,o2,o3,o4⟩:=W5 i;have hi:i<es.length:=(List.getElem?_eq_some_iff.1 h1).1;have LJ:=h.nn i hi;rw [W3] at h2;have hF:0<Rl es i p:=by
     rcases hmul o1 with ⟨_,e1⟩|⟨c1,e1⟩
     ·rcases hmul o2 with ⟨_,e2⟩|⟨_,e2⟩<;>rw [e1,e2] at h2<;>omega
     ·omega
    obtain ⟨z,z1,z2,z3⟩:=o4 hF;obtain ⟨j,y,y1,y2⟩:=(nJ hl hN (hw.mem z z1)).1;obtain ⟨y3,y4⟩:=IF.fwd hN y1 y2;obtain rfl:j=i:=y3.symm.trans z2;rw [h1] at y1;cases y1
    obtain rfl:=y4.1 z3;have:=q2 z z1;simp only [Arc.back];omega
 ·obtain ⟨o1,o2,_⟩:=W5 i;rw [W3,QB];have:=h.tb i hi
  rcases hmul o1 with ⟨_,e1⟩|⟨_,e1⟩<;>rcases hmul o2 with ⟨_,e2⟩|⟨_,e2⟩<;>rw [e1,e2]<;>omega
 ·have h1:=h.sg x hx;have:=hw.lu;have:=hw.lv;by_cases e:x=u
  ·subst e;rw [ZC];simp only [FF] at*;omega
  ·by_cases e2:x=v
   ·subst e2;rw [Xo];simp only [FF] at*;omega
   ·rw [Vz x e e2];exact h1
 ·have h1:=HF hN (m:=m) (by omega) (p:=p) h.lt (fun y hy=>(nJ hl hN (hw.mem y hy)).1);have h2:=h.tot;have h3:m*(p.length:Int)≤m*64:=Int.mul_le_mul_of_nonneg_left (by omega) (by omega);rw [QB];omega
end Go.MW
namespace Go.MW
def Lr(es:List Arc)(wt:Nat→Int)(n:Nat)(m:Int):Prop:=
 (∃p,jt es p∧aZ (fun v=>wt v*p v) n=m)∧∀p,jt es p→aZ (fun v=>wt v*p v) n≤m
def sj(es:List Arc)(wt:Nat→Int)(n:Nat):Prop:=
 ∃q:Nat→Int,(∀v,q v=0∨q v=1)∧(∀x∈es,q x.f=0→q x.t=0)∧0<aZ (fun v=>wt v*q v) n
theorem Lr.uniq{es:List Arc}{wt:Nat→Int}{n:Nat}{a b:Int}(h:Lr es wt n a)(g:Lr es wt n b):a=b:=by
 obtain ⟨⟨p,p1,p2⟩,h2⟩:=h;obtain ⟨⟨q,q1,q2⟩,g2⟩:=g;have:=h2 q q1;have:=g2 p p1;omega
variable{n:Nat}{es:List Arc}{wt:Nat→Int}{ts lf:List Int}
theorem Hu(hl:es.length=ts.length){p:Nat→Int}(h:jt (dY es ts) p):jt es p:=fun x hx=>by
 obtain ⟨i,hi⟩:=List.getElem?_of_mem hx;exact h x ((fN hl).2 ⟨i,x,hi,.inl rfl⟩)
def RJ(n:Nat)(es:List Arc)(wt:Nat→Int)(ts:List Int):Prop:=∀v<n,net es ts v=wt v
theorem NJ(fH:∀x∈es,x.f<n∧x.t<n)(hl:ts.length=es.length)(hn:∀i<es.length,0≤gi ts i)(hf:RJ n es wt ts){p:Nat→Int}(hp:jt (dY es ts) p):
  Lr es wt n (dot es ts (·.c))∧aZ (fun v=>wt v*p v) n=dot es ts (·.c)∧¬sj es wt n:=by
 have Ty:∀i,i<ts.length→0≤gi ts i:=fun i hi=>hn i (by omega)
 have h1:∀p:Nat→Int,aZ (fun v=>wt v*p v) n=aZ (fun v=>net es ts v*p v) n:=fun p=>bF fun v hv=>by rw [hf v hv]
 have h2:aZ (fun v=>wt v*p v) n=dot es ts (·.c):=by rw [h1,V1 hl.symm Ty hp,tr p fH]
 refine ⟨⟨⟨p,Hu hl.symm hp,h2⟩,fun q hq=>by rw [h1];exact weak fH Ty hq⟩,h2,fun ⟨q,q1,q2,q3⟩=>?_⟩;rw [h1] at q3;have:=UA (R:=fun v=>q v=0) fH Ty q2 q fun v=>⟨id,fun h=>(q1 v).resolve_left h⟩
 omega
theorem JK(fH:∀x∈es,x.f<n∧x.t<n)(h:Cv n es wt ts lf)(h0:aZ wt n=0):aZ (gi lf) n=0:=by
 have h1:=Qp (ts:=ts) fH;rw [bF (g:=fun v=>wt v - gi lf v) h.cons,mW,h0] at h1;omega
theorem Cv.full(h:Cv n es wt ts lf)(fH:∀x∈es,x.f<n∧x.t<n)(h0:aZ wt n=0)(hle:∀v<n,gi lf v≤0):RJ n es wt ts:=fun v hv=>by
 have h1:=JK fH h h0;have h2:gi lf v=0:=by
  refine Classical.byContradiction fun eG=>?_
  have h3:=hle v hv;have:=sB (f:=gi lf) (g:=fun _=>0) (n:=n) hle hv (by omega);rw [gD] at this;omega
 rw [h.cons v hv,h2];omega
theorem Cv.open(h:Cv n es wt ts lf)(fH:∀x∈es,x.f<n∧x.t<n){R:Nat→Prop}(hS:∀v<n,gi lf v<0→R v)(hR:∀x∈dY es ts,R x.f→R x.t){to:Nat}(ht:to<n)(tV:¬R to)(fU:0<gi lf to):sj es wt n:=by
 open Classical in
 refine ⟨fun v=>if R v then 0 else 1,fun v=>?_,fun x hx hq=>?_,?_⟩
 ·by_cases e:R v<;>simp [e]
 ·obtain ⟨i,hi⟩:=List.getElem?_of_mem hx;have:=hR x ((fN h.lt.symm).2 ⟨i,x,hi,.inl rfl⟩);by_cases e:R x.f
  ·simp [this e]
  ·simp [e] at hq
 ·have hq:∀v,(fun v=>if R v then (0:Int) else 1) v=if R v then 0 else 1:=fun _=>rfl
  generalize (fun v=>if R v then (0:Int) else 1)=q at*;have h1:aZ (fun v=>wt v*q v) n=aZ (fun v=>net es ts v*q v) n+aZ (fun v=>gi lf v*q v) n:=by
   rw [←sC];refine bF fun v hv=>?_
   rw [h.cons v hv,Int.sub_mul];omega
  have h2:0=aZ (fun v=>net es ts v*q v) n:=by
   rw [←tr q fH];have h0:∀(es:List Arc) (ts:List Int),dot es ts (fun _=>0)=0:=by
    intro es
    induction es with
    |nil=>intro ts;simp [dot]
    |cons x es ih=>intro ts;cases ts<;>simp [dot,ih]
   rw [←h0 es ts];refine Pr fun i x hx hi=>?_
   by_cases hz:gi ts i=0
   ·rw [hz];simp
   ·have hp:0<gi ts i:=by have:=h.nn i (by rw [←h.lt];exact hi);omega
    have r1:=hR x ((fN h.lt.symm).2 ⟨i,x,hx,.inl rfl⟩);have r2:=hR x.back ((fN h.lt.symm).2 ⟨i,x,hx,.inr ⟨hp,rfl⟩⟩);have:q x.t=q x.f:=by
     rw [hq,hq];by_cases e:R x.f
     ·simp [e,r1 e]
     ·have:¬R x.t:=fun h=>e (r2 h)
      simp [e,this]
    rw [this,Int.sub_self]
  have h3:0<aZ (fun v=>gi lf v*q v) n:=by
   have:=sB (f:=fun _=>0) (g:=fun v=>gi lf v*q v) (n:=n) (fun v hv=>by
    rw [hq];by_cases e:R v
    ·simp [e]
    ·have:=hS v hv;have:¬gi lf v<0:=fun h=>e (this h)
     simp [e];omega) ht (by rw [hq];simp [tV];exact fU)
   rw [gD] at this;exact this
  omega
def sn(w:List Int)(n:Nat)(v:Nat):Int:=if v=0 then gi w 0 - aZ (gi w) n else gi w v
theorem su{n:Nat}(hn:0<n)(f:Nat→Int):aZ f n=f 0+aZ (fun v=>if v=0 then 0 else f v) n:=by
 have:aZ (fun v=>f v - if v=0 then 0 else f v) n=f 0:=by
  rw [pb hn]
  ·simp
  ·intro v _ hv;simp [hv]
 rw [mW] at this;omega
theorem Od(w:List Int){n:Nat}(hn:0<n):aZ (sn w n) n=0:=by
 rw [su hn (sn w n),bF (g:=fun v=>if v=0 then 0 else gi w v) (fun v _=>by unfold sn;split<;>rfl)];have:=su hn (gi w);simp only [sn,if_true];omega
theorem Ay(w:List Int){n:Nat}(hn:0<n)(p:Nat→Int):aZ (fun v=>sn w n v*p v) n=aZ (fun v=>gi w v*(p v - p 0)) n:=by
 have h1:=su hn (fun v=>sn w n v*p v);have h2:=su hn (fun v=>gi w v*(p v - p 0));simp only [sn,if_true,Int.sub_self,Int.mul_zero,Int.zero_add] at h1 h2;have e1:aZ (fun v=>if v=0 then 0 else (if v=0 then gi w 0 - aZ (gi w) n else gi w v)*p v) n=aZ (fun v=>if v=0 then 0 else gi w v*p v) n:=
  bF fun v _=>by by_cases e:v=0<;>simp [e]
 have e2:aZ (fun v=>if v=0 then 0 else gi w v*(p v - p 0)) n=aZ (fun v=>(if v=0 then 0 else gi w v*p v) - p 0*(if v=0 then 0 else gi w v)) n:=
  bF fun v _=>by
   by_cases e:v=0
   ·simp [e]
   ·simp only [e,if_false];rw [Int.mul_sub,Int.mul_comm (p 0)]
 rw [mW,sA] at e2;have h3:=su hn (gi w);rw [e1] at h1;rw [e2] at h2;have:sn w n=fun v=>if v=0 then gi w 0 - aZ (gi w) n else gi w v:=by funext v;rfl
 rw [h2];simp only [sn];rw [h1];have e3:gi w 0 - aZ (gi w) n= - aZ (fun v=>if v=0 then 0 else gi w v) n:=by omega
 rw [e3,Int.neg_mul,Int.mul_comm];omega
end Go.MW
namespace Go.MW
structure zq(n:Nat)(lf:List Int)(k:Nat)(s:BS):Prop where
 lc:s.cost.length=n
 lb:s.by_.length=n
 c:∀v<n,gi s.cost v=if v<k∧gi lf v<0 then 0 else far
 b:∀v<n,ga s.by_ v=if v<k∧gi lf v<0 then ⟨0,0,0,-1⟩ else ⟨0,0,0,0⟩
variable{n:Nat}{es as:List Arc}{wt D:Nat→Int}{ts lf:List Int}{s:BS}{k:Nat}
theorem zq.start(n:Nat)(lf:List Int):zq n lf 0 ⟨List.replicate n far,List.replicate n ⟨0,0,0,0⟩⟩:=
 ⟨by simp,by simp,fun v hv=>by rw [eO n far hv,if_neg (by omega)],fun v hv=>by rw [kF n _ hv,if_neg (by omega)]⟩
theorem zq.skip(h:zq n lf k s)(hk:¬gi lf k<0):zq n lf (k+1) s:=
 ⟨h.lc,h.lb,fun v hv=>by
  rw [h.c v hv];by_cases e:v=k
  ·subst e;rw [if_neg (by omega),if_neg (by omega)]
  ·congr 1;apply propext;omega,fun v hv=>by
  rw [h.b v hv];by_cases e:v=k
  ·subst e;rw [if_neg (by omega),if_neg (by omega)]
  ·congr 1;apply propext;omega⟩
theorem zq.take(h:zq n lf k s)(Nc:k<n)(hk:gi lf k<0):zq n lf (k+1) ⟨s.cost.set k 0,s.by_.set k ⟨(ga s.by_ k).f,(ga s.by_ k).t,(ga s.by_ k).c,-1⟩⟩:=
 ⟨by simp [h.lc],by simp [h.lb],fun v hv=>by
  rw [iI (by rw [h.lc];exact Nc)];by_cases e:v=k
  ·subst e;rw [if_pos rfl,if_pos (by omega)]
  ·rw [if_neg e,h.c v hv];congr 1;apply propext;omega,fun v hv=>by
  rw [yU (by rw [h.lb];exact Nc)];by_cases e:v=k
  ·subst e;rw [if_pos rfl,if_pos (by omega),h.b v hv,if_neg (by omega)]
  ·rw [if_neg e,h.b v hv];congr 1;apply propext;omega⟩
theorem zq.inv(h:zq n lf n s)(hg:WG n as D):xG n as (fun v=>gi lf v<0) D 0 true s where
 lc:=h.lc
 lb:=h.lb
 lo:=fun v hv=>by
  have:=hg.d0 v;have:far=1152921504606846976:=rfl;rw [h.c v hv];split<;>omega
 top:=fun v hv=>by
  have:far=1152921504606846976:=rfl;rw [h.c v hv];split<;>omega
 up:=fun v hv hr=>by
  rw [h.c v hv] at hr ⊢;split
  ·omega
  ·rename_i e;rw [if_neg e] at hr;omega
 src:=fun v hv hs=>by rw [h.c v hv,if_pos ⟨hv,hs⟩];omega
 by1:=fun v hv hr=>by
  rw [h.c v hv] at hr;by_cases e:v<n∧gi lf v<0
  ·refine .inl ⟨by rw [h.b v hv,if_pos e],e.2,by rw [h.c v hv,if_pos e]⟩
  ·rw [if_neg e] at hr;omega
 dep:=fun v hv hr=>by
  rw [h.c v hv] at hr;by_cases e:v<n∧gi lf v<0
  ·exact ⟨0,0,v,.nil,by rw [h.b v hv,if_pos e];simp⟩
  ·rw [if_neg e] at hr;omega
 nov:=fun e=>by cases e
def YP(n:Nat)(es:List Arc)(ts lf:List Int)(p:List Arc)(to:Nat):Prop:=
 (p=[]∧∃R:Nat→Prop,(∀v<n,gi lf v<0→R v)∧(∀x∈dY es ts,R x.f→R x.t)∧¬R to)∨
 (p≠[]∧p.length<n∧∃u,Rz es ts lf n p u to)
theorem Gg(hn:0<n)(yJ:n≤65)(ho:tO es n)(hl:es.length=ts.length)(hf:∃p,jt (dY es ts) p):∃D,WG n (dY es ts) D:=by
 obtain ⟨p,hp⟩:=hf;have bw:∀x∈dY es ts,x.f<n∧x.t<n∧-20000≤x.c∧x.c≤20000∧0≤x.l∧x.f≠x.t:=fun x hx=>by
  obtain ⟨i,y,h1,h2⟩:=(fN hl).1 hx;have h3:=ho.2 y (List.mem_of_getElem? h1)
  rcases h2 with rfl|⟨_,rfl⟩
  ·exact h3
  ·simp only [Arc.back];omega
 obtain ⟨D,h1,h2,h3⟩:=hp.bounded (n:=n) (C:=20000) hn (by omega) fun x hx=>by have:=bw x hx;exact ⟨this.1,this.2.1,this.2.2.1⟩
 refine ⟨D,hn,yJ,bw,h1,h2,fun v hv=>?_⟩;have:=h3 v hv;have h4:(((n - 1:Nat):Int))≤64:=by omega
 omega
theorem xG.none(h:xG n (dY es ts) (fun v=>gi lf v<0) D (dY es ts).length false s)(hg:WG n (dY es ts) D){to:Nat}(ht:gi s.cost to=far):YP n es ts lf [] to:=
 .inl ⟨rfl,fun v=>gi s.cost v<far,fun v hv hs=>by have:=h.src v hv hs;simp only [far];omega,h.closed hg,by dsimp only;rw [ht];omega⟩
theorem xG.back(h:xG n (dY es ts) (fun v=>gi lf v<0) D (dY es ts).length false s)(hg:WG n (dY es ts) D){to:Nat}(tV:to<n)(ht:gi s.cost to<far)(hp:0<gi lf to):
  ∃k c u,gq s.by_ to k c u∧(ga s.by_ u).l<0∧k<n∧0<k∧(∀v,v<n→gi s.cost v<far→0≤(ga s.by_ v).l→(ga s.by_ v).f<n∧gi s.cost (ga s.by_ v).f<far)∧∀p,p=(oK s.by_ to k).reverse→YP n es ts lf p to:=by
 have fc:∀v,(v<n∧gi s.cost v<far)→0≤(ga s.by_ v).l→ga s.by_ v∈dY es ts∧(ga s.by_ v).t=v∧gi s.cost (ga s.by_ v).f+(ga s.by_ v).c≤gi s.cost v∧((ga s.by_ v).f<n∧gi s.cost (ga s.by_ v).f<far):=fun v ⟨hv,hr⟩ hl=>by
  rcases h.by1 v hv hr with ⟨e,_⟩|⟨_,e1,e2,e3,e4⟩
  ·omega
  ·exact ⟨e1,e2,e4,(hg.ok _ e1).1,e3⟩
 obtain ⟨k,c,u,h1,h2⟩:=h.dep to tV ht;have fH:∀{v w:Nat} {k:Nat} {c:Int},gq s.by_ v k c w→(v<n∧gi s.cost v<far)→(w<n∧gi s.cost w<far):=fun h=>by
  induction h with
  |nil=>exact id
  |cons hl t ih=>exact fun hv=>ih (fc _ hv hl).2.2.2
 have hu:=fH h1 ⟨tV,ht⟩;have X2:gi lf u<0:=by
  rcases h.by1 u hu.1 hu.2 with ⟨_,e,_⟩|⟨e,_⟩
  ·exact e
  ·omega
 have hk:k<n:=h1.short (A:=fun v=>v<n∧gi s.cost v<far) (fun v hv=>hv.1) (fun v hv hl=>(fc v hv hl).2.2.2) h2 ⟨tV,ht⟩;have DV:0<k:=by
  cases h1 with
  |nil=>omega
  |cons _ _=>omega
 refine ⟨k,c,u,h1,h2,hk,DV,fun v hv hr hl=>(fc v ⟨hv,hr⟩ hl).2.2.2,fun p Tt=>?_⟩;subst Tt;refine .inr ⟨?_,by simpa [kx] using hk,u,?_,?_,?_,hu.1,tV,X2,hp,MW.after D s,h.after hg,?_⟩
 ·intro e;have:=congrArg List.length e;simp [kx] at this;omega
 ·exact xO (A:=fun v=>v<n∧gi s.cost v<far) (fun v hv hl=>⟨(fc v hv hl).2.1,(fc v hv hl).2.2.2⟩) h1 ⟨tV,ht⟩
 ·intro x hx;rw [List.mem_reverse] at hx;exact sy (A:=fun v=>v<n∧gi s.cost v<far) (B:=fun x=>x∈dY es ts) (fun v hv hl=>⟨(fc v hv hl).1,(fc v hv hl).2.2.2⟩) h1 ⟨tV,ht⟩ x hx
 ·rw [List.map_reverse];have:=xL (A:=fun v=>v<n∧gi s.cost v<far) (fun v hv hl=>⟨(fc v hv hl).2.1,(fc v hv hl).2.2.2⟩) h2 h1 ⟨tV,ht⟩;exact (List.reverse_perm _).nodup_iff.2 this
 ·intro x hx;rw [List.mem_reverse] at hx;have:=sy (A:=fun v=>v<n∧gi s.cost v<far) (B:=fun x=>x∈dY es ts∧gi s.cost x.f<far∧gi s.cost x.t<far∧gi s.cost x.f+x.c≤gi s.cost x.t) (fun v hv hl=>by
   obtain ⟨g1,g2,g3,g4⟩:=fc v hv hl;exact ⟨⟨g1,g4.2,by rw [g2];exact hv.2,by rw [g2];exact g3⟩,g4⟩) h1 ⟨tV,ht⟩ x hx
  obtain ⟨g1,g2,g3,g4⟩:=this;have g5:=h.after hg x g1;unfold MW.after at g5 ⊢;rw [if_pos g2,if_pos g3] at g5 ⊢;omega
theorem pW.head{p:List Arc}{u v:Nat}(h:pW p u v){x:Arc}(hx:p[0]? =some x):x.f=u:=by
 cases h with
 |nil=>simp at hx
 |cons _=>simp at hx;rw [hx]
theorem pW.last{p:List Arc}{u v:Nat}(h:pW p u v){x:Arc}(hx:p[p.length - 1]? =some x):x.t=v:=by
 induction h with
 |nil=>simp at hx
 | @cons y p v hc ih=>
  cases p with
  |nil=>
   cases hc
   simp at hx;rw [hx]
  |cons z p=>
   refine ih ?_;simpa using hx
theorem eH{α:Type}{p:List α}{k:Nat}{x:α}(hx:p[k]? =some x):p.take (k+1)=p.take k++[x]:=by
 rw [List.take_add_one,hx];rfl
theorem AO(es:List Arc)(ts:List Int)(m:Int)(p:List Arc)(x:Arc):least es ts m (p++[x])=if fwd es x then least es ts m p else min (least es ts m p) (gi ts x.l.toNat):=by
 simp [least,List.foldl_append]
theorem yp(es:List Arc)(m:Int)(ts:List Int)(p:List Arc)(x:Arc):fX es m ts (p++[x])=push es m (fX es m ts p) x:=by
 simp [fX,List.foldl_append]
theorem JG{es:List Arc}{m:Int}{ts:List Int}{p:List Arc}(h0:0≤m)(h1:m≤FF)(hl:p.length≤65)(hx:∀x∈p,x.l.toNat<ts.length)(i:Nat):
  gi (fX es m ts p) i≤gi ts i+234000000000000∧gi ts i - 234000000000000≤gi (fX es m ts p) i:=by
 rw [AM hx];have hF:Rl es i p≤65:=Nat.le_trans List.countP_le_length hl;have hB:Sc es i p≤65:=Nat.le_trans List.countP_le_length hl;have key:∀c:Nat,c≤65→0≤m*(c:Int)∧m*(c:Int)≤234000000000000:=fun c hc=>by
  refine ⟨Int.mul_nonneg h0 (by omega),?_⟩;have:m*(c:Int)≤FF*65:=Int.mul_le_mul h1 (by omega) (by omega) (by simp [FF]);simp only [FF] at this;omega
 have k1:=key _ hF;have k2:=key _ hB;omega
end Go.MW
namespace Go.MW
variable{α:Type}{k i b:Nat}{ts l xs:List Int}{most:Int}
def bD(w:List Int)(k:Nat):Int:=aZ (fun v=>max (gi w v) (-gi w v)) k
def jW(w:List Int):Prop:=bD w w.length≤FF
instance (w:List Int):Decidable (jW w):=by unfold jW;infer_instance
theorem uq{f:Nat→Int}(h:∀v,0≤f v){k n:Nat}(hk:k≤n):aZ f k≤aZ f n:=by
 induction hk with
 |refl=>exact Int.le_refl _
 | @step m _ ih=>simp only [aZ];have:=h m;omega
theorem L8{f:Nat→Int}(h:∀v,0≤f v){v n:Nat}(hv:v<n):f v≤aZ f n:=by
 have h1:=uq h (k:=v+1) (n:=n) hv;have h2:0≤aZ f v:=db fun u _=>h u
 simp only [aZ] at h1;omega
theorem pZ(w:List Int){v n:Nat}(hv:v<n):gi w v≤bD w n∧-gi w v≤bD w n:=by
 have:=L8 (f:=fun v=>max (gi w v) (-gi w v)) (fun v=>by omega) hv;unfold bD;omega
def mf(w:List Int)(k:Nat):Int:=aZ (fun v=>gi w (v+1)) k
theorem jZ(f:Nat→Int)(k:Nat):aZ f (k+1)=f 0+aZ (fun v=>f (v+1)) k:=by
 induction k with
 |zero=>simp [aZ]
 |succ k ih=>rw [aZ,ih];simp only [aZ];omega
theorem AD(w:List Int)(k:Nat):mf w k≤bD w (k+1)∧-mf w k≤bD w (k+1):=by
 unfold bD mf;rw [jZ];have h1:=lA (f:=fun v=>gi w (v+1)) (g:=fun v=>max (gi w (v+1)) (-gi w (v+1))) (n:=k) (fun v _=>by omega);have h2:=lA (f:=fun v=> -gi w (v+1)) (g:=fun v=>max (gi w (v+1)) (-gi w (v+1))) (n:=k) (fun v _=>by omega);rw [C4] at h2;omega
theorem EZ(w:List Int)(k:Nat):sn w (k+1) 0= -mf w k:=by
 simp only [sn,if_true,jZ (gi w),mf];omega
theorem E0(w:List Int)(n v:Nat):sn w n (v+1)=gi w (v+1):=by simp [sn]
theorem Cv.start{es:List Arc}{w lf:List Int}(hw:bD w (k+1)≤FF)(hl:lf.length=k+1)(Xf:∀v<k+1,gi lf v=sn w (k+1) v)(hf:∃p,jt es p):
  Cv (k+1) es (sn w (k+1)) (List.replicate es.length 0) lf:=by
 have h0:∀i<es.length,gi (List.replicate es.length (0:Int)) i=0:=fun i hi=>eO _ _ hi
 have ht:=AD w k;have QB:rem (k+1) lf≤FF:=by
  unfold rem;rw [bF (g:=fun v=>max (sn w (k+1) v) 0) (fun v hv=>by rw [Xf v hv]),jZ,EZ];unfold bD at hw;rw [jZ] at hw;rw [bF (g:=fun v=>max (gi w (v+1)) 0) (fun v _=>by rw [E0])];have e1:aZ (fun v=>max (gi w (v+1)) 0) k+aZ (fun v=>max (-gi w (v+1)) 0) k=aZ (fun v=>max (gi w (v+1)) (-gi w (v+1))) k:=by
   rw [←sC];exact bF fun v _=>by omega
  have e2:aZ (fun v=>max (gi w (v+1)) 0) k - aZ (fun v=>max (-gi w (v+1)) 0) k=mf w k:=by
   rw [←mW];exact bF fun v _=>by omega
  have e3:0≤aZ (fun v=>max (-gi w (v+1)) 0) k:=db fun v _=>by omega
  have e4:0≤aZ (fun v=>max (gi w (v+1)) 0) k:=db fun v _=>by omega
  omega
 refine ⟨by simp,hl,fun i hi=>by rw [h0 i hi];omega,fun v hv=>?_,?_,fun i hi=>by rw [h0 i hi];omega,fun v hv=>?_,by rw [GU];omega⟩
 ·unfold net;rw [GU,Xf v hv];omega
 ·obtain ⟨p,hp⟩:=hf;refine ⟨p,fun x hx=>?_⟩;obtain ⟨i,y,h1,h2⟩:=(fN (by simp)).1 hx
  rcases h2 with rfl|⟨h2,_⟩
  ·exact hp x (List.mem_of_getElem? h1)
  ·rw [h0 i (List.getElem?_eq_some_iff.1 h1).1] at h2;omega
 ·rw [Xf v hv]
  cases v with
  |zero=>rw [EZ];omega
  |succ v=>
   rw [E0];have:=pZ w hv;omega
structure wm(n:Nat)(es:List Arc)(wt:Nat→Int)(ts:List Int):Prop where
 lt:ts.length=es.length
 nn:∀i<es.length,0≤gi ts i∧gi ts i≤FF
 full:RJ n es wt ts
 fe:∃p,jt (dY es ts) p
 tot:dot es ts (fun _=>1)≤64*FF
theorem Cv.ok{n:Nat}{es:List Arc}{wt:Nat→Int}{lf:List Int}(h:Cv n es wt ts lf)(fH:∀x∈es,x.f<n∧x.t<n)(h0:aZ wt n=0)(hle:∀v<n,gi lf v≤0):wm n es wt ts:=by
 have h3:0≤rem n lf:=db fun v _=>by omega
 refine ⟨h.lt,fun i hi=>⟨h.nn i hi,?_⟩,h.full fH h0 hle,h.fe,?_⟩
 ·have h1:=h.tb i hi;omega
 ·have h1:=h.tot;omega
structure gX(many:Nat)(most:Int)(l:List Int):Prop where
 two:2≤l.length
 many:l.length≤many
 low:0≤gi l 0
 high:gi l (l.length - 1)≤most
 rise:∀i,i+1<l.length→gi l i<gi l (i+1)
theorem gX.le{many:Nat}(h:gX many most l):∀{j i:Nat},i≤j→j<l.length→gi l i≤gi l j
 |0,i,h1,_=>by obtain rfl:i=0:=by omega
               exact Int.le_refl _
 |j+1,i,h1,h2=>by
  by_cases e:i=j+1
  ·subst e;exact Int.le_refl _
  ·have:=h.le (j:=j) (i:=i) (by omega) (by omega);have:=h.rise j h2;omega
theorem gX.bd{many:Nat}(h:gX many most l){i:Nat}(hi:i<l.length):0≤gi l i∧gi l i≤most:=by
 have h1:=h.le (i:=0) (j:=i) (by omega) hi;have h2:=h.le (i:=i) (j:=l.length - 1) (by omega) (by have:=h.two;omega);have:=h.low;have:=h.high;omega
def tms(a b:Int):Int:=if a=b then 1 else if a*2=b∨b*2=a then 2 else if a*3=b∨b*3=a then 3 else 0
def rat(a b:Int):Int:=if b.tmod a=0∧b.tdiv a≤3 then b.tdiv a else 0
theorem Og(a b:Int):0≤tms a b∧tms a b≤3:=by
 unfold tms;split<;>(try split)<;>(try split)<;>omega
theorem Om{a b:Int}(ha:0<a)(hb:0<b):rat a b=if a=b then 1 else if a*2=b then 2 else if a*3=b then 3 else 0:=by
 unfold rat;rw [Int.tmod_eq_emod_of_nonneg (by omega),Int.tdiv_eq_ediv_of_nonneg (by omega)];have hd:=Int.emod_add_mul_ediv b a;have hq:0≤b/a:=Int.ediv_nonneg (by omega) (by omega);by_cases h:b%a=0∧b/a≤3
 ·rw [if_pos h];rw [h.1,Int.zero_add] at hd;have h3:b/a=0∨b/a=1∨b/a=2∨b/a=3:=by omega
  rcases h3 with e|e|e|e
  ·rw [e,Int.mul_zero] at hd;omega
  ·rw [e,Int.mul_one] at hd;rw [e,if_pos hd]
  ·rw [e] at hd;rw [e,if_neg (by omega),if_pos hd]
  ·rw [e] at hd;rw [e,if_neg (by omega),if_neg (by omega),if_pos hd]
 ·rw [if_neg h];have key:∀k:Int,1≤k→k≤3→a*k≠b:=fun k h1 h2 e=>h (by
   subst e;rw [Int.mul_emod_right,Int.mul_ediv_cancel_left _ (by omega)];exact ⟨rfl,h2⟩)
  have k1:=key 1 (by omega) (by omega);have k2:=key 2 (by omega) (by omega);have k3:=key 3 (by omega) (by omega);rw [Int.mul_one] at k1;rw [if_neg k1,if_neg k2,if_neg k3]
theorem I8{a b:Int}(ha:0<a)(hb:0<b):tms a b=max (rat a b) (rat b a):=by
 rw [Om ha hb,Om hb ha];unfold tms;by_cases h1:a=b
 ·rw [if_pos h1,if_pos h1,if_pos h1.symm];rfl
 ·rw [if_neg h1,if_neg h1,if_neg (Ne.symm h1)];by_cases h2:a*2=b
  ·rw [if_pos (.inl h2),if_pos h2,if_neg (by omega),if_neg (by omega)];rfl
  ·by_cases h3:b*2=a
   ·rw [if_pos (.inr h3),if_neg h2,if_pos h3,if_neg (by omega)];rfl
   ·rw [if_neg (by omega),if_neg h2,if_neg h3];by_cases h4:a*3=b
    ·rw [if_pos (.inl h4),if_pos h4,if_neg (by omega)];rfl
    ·by_cases h5:b*3=a
     ·rw [if_pos (.inr h5),if_neg h4,if_pos h5];rfl
     ·rw [if_neg (by omega),if_neg h4,if_neg h5];rfl
structure Grp where
 at_:Nat
 two:Bool
def gw(l:List Int)(i:Nat):Bool:=decide (i+2<l.length)&&decide (0<tms (gi l (i+1) - gi l i) (gi l (i+2) - gi l (i+1)))
def Grp.n(g:Grp):Nat:=if g.two then 2 else 1
def qv(l:List Int):Nat→Nat→List Grp
 |0,_=>[]
 |f+1,i=>if i+1<l.length then ⟨i,gw l i⟩::qv l f (i+(if gw l i then 2 else 1)) else []
def BV(l:List Int):List Grp:=qv l l.length 0
theorem AW(l:List Int):∀(f i:Nat),l.length≤f+i→qv l (f+1) i=qv l f i
 |0,i,h=>by simp only [qv];rw [if_neg (by omega)]
 |f+1,i,h=>by
  have e1:qv l (f+1+1) i=if i+1<l.length then ⟨i,gw l i⟩::qv l (f+1) (i+(if gw l i then 2 else 1)) else []:=rfl
  have e2:qv l (f+1) i=if i+1<l.length then ⟨i,gw l i⟩::qv l f (i+(if gw l i then 2 else 1)) else []:=rfl
  rw [e1,e2];by_cases hi:i+1<l.length
  ·rw [if_pos hi,if_pos hi];rw [AW l f _ (by split<;>omega)]
  ·rw [if_neg hi,if_neg hi]
def qR(l:List Int)(i:Nat):List Grp:=qv l l.length i
theorem D9(h:i+1<l.length):qR l i=⟨i,gw l i⟩::qR l (i+(if gw l i then 2 else 1)):=by
 unfold qR
 cases hl:l.length with
 |zero=>omega
 |succ f=>
  rw [qv,if_pos h]
  congr 1
  exact (AW l f _ (by split<;>omega)).symm
theorem AX(h:¬i+1<l.length):qR l i=[]:=by
 unfold qR
 cases hl:l.length with
 |zero=>rfl
 |succ f=>rw [qv,if_neg h]
def mO(W:List Int):Nat→List Int→List Int
 |_,[]=>W
 |i,x::xs=>mO (W.set i (gi W i+x)) (i+1) xs
theorem pS(xs:List Int):∀(W:List Int) (i:Nat),(mO W i xs).length=W.length:=by
 induction xs with
 |nil=>intro W i;rfl
 |cons x xs ih=>intro W i;simp only [mO];rw [ih,List.length_set]
def AY(l:List Int)(g:Grp):List Int:=
 let a:=gi l (g.at_+1) - gi l g.at_
 if g.two then
  let b:=gi l (g.at_+2) - gi l (g.at_+1)
  let k:=tms a b
  let c:=(6:Int).tdiv k*(1+k)*min a b
  if b<a then [c*(2*k - 1),c*(1+k)*(1+k),c*k*(2 - k)] else [c*k*(2 - k),c*(1+k)*(1+k),c*(2*k - 1)]
 else [18*a,18*a]
def LY(l:List Int)(gs:List Grp)(W:List Int):List Int:=gs.foldl (fun W g=>mO W g.at_ (AY l g)) W
def wts(l:List Int):List Int:=LY l (BV l) (List.replicate l.length 0)
theorem rf(l:List Int):∀(gs:List Grp) (W:List Int),(LY l gs W).length=W.length
 |[],W=>rfl
 |g::gs,W=>by
  show (LY l gs (mO W g.at_ (AY l g))).length=_;rw [rf l gs,pS]
theorem jk(l:List Int):(wts l).length=l.length:=by unfold wts;rw [rf,List.length_replicate]
theorem Jm{W:List Int}(hi:i<W.length)(x:Int){n:Nat}(hn:n≤W.length):bD (W.set i x) n≤bD W n+(max x (-x)) - (if i<n then max (gi W i) (-gi W i) else max x (-x)):=by
 induction n with
 |zero=>simp [bD,aZ]
 |succ n ih=>
  have ih:=ih (by omega);simp only [bD,aZ] at ih ⊢;rw [iI hi];by_cases e:n=i
  ·subst e;rw [if_pos rfl,if_pos (by omega)];rw [if_neg (by omega)] at ih;omega
  ·rw [if_neg e];by_cases h:i<n
   ·rw [if_pos (by omega)];rw [if_pos h] at ih;omega
   ·rw [if_neg (by omega)];rw [if_neg h] at ih;omega
def A5:List Int→Int
 |[]=>0
 |x::xs=>max x (-x)+A5 xs
theorem sh(xs:List Int):∀(W:List Int) (i:Nat),i+xs.length≤W.length→bD (mO W i xs) W.length≤bD W W.length+A5 xs:=by
 induction xs with
 |nil=>intro W i _;simp [mO,A5]
 |cons x xs ih=>
  intro W i h;simp only [List.length_cons] at h;simp only [mO,A5];have h1:=ih (W.set i (gi W i+x)) (i+1) (by rw [List.length_set];omega);rw [List.length_set] at h1;have h2:=Jm (W:=W) (i:=i) (by omega) (gi W i+x) (n:=W.length) (Nat.le_refl _);rw [if_pos (by omega)] at h2;omega
theorem A4(x:Int):∀(xs W:List Int) (i:Nat),mO W i (xs++[x])=(mO W i xs).set (i+xs.length) (gi (mO W i xs) (i+xs.length)+x)
 |[],W,i=>rfl
 |y::ys,W,i=>by
  simp only [List.cons_append,mO,List.length_cons];rw [A4 x ys,show i+1+ys.length=i+(ys.length+1) by omega]
theorem IB(hk:k<xs.length)(W:List Int)(i:Nat):mO W i (xs.take (k+1))=(mO W i (xs.take k)).set (i+k) (gi (mO W i (xs.take k)) (i+k)+gi xs k):=by
 rw [eH (ck hk),A4,List.length_take,Nat.min_eq_left (by omega)]
theorem si:∀xs:List Int,0≤A5 xs
 |[]=>Int.le_refl _
 |x::xs=>by have:=si xs;simp only [A5];omega
theorem Ey:∀(xs:List Int) (k:Nat),A5 (xs.take k)≤A5 xs
 |[],k=>by simp
 |x::xs,0=>by have:=si (x::xs);simpa [A5] using this
 |x::xs,k+1=>by have:=Ey xs k;simp only [List.take_succ_cons,A5];omega
theorem Lp:∀(xs:List Int) (k:Nat),-A5 xs≤gi xs k∧gi xs k≤A5 xs
 |[],k=>by simp [gi,A5]
 |x::xs,0=>by have:=si xs;show _≤x∧x≤_;simp only [A5];omega
 |x::xs,k+1=>by
  have:=Lp xs k;have e:gi (x::xs) (k+1)=gi xs k:=rfl;rw [e];simp only [A5];omega
theorem GH{g:Grp}(ha:0<gi l (g.at_+1) - gi l g.at_)(h:g.two=true→g.at_+2<l.length∧0<gi l (g.at_+2) - gi l (g.at_+1)∧0<tms (gi l (g.at_+1) - gi l g.at_) (gi l (g.at_+2) - gi l (g.at_+1))):
  A5 (AY l g)≤48*(gi l (g.at_+g.n) - gi l g.at_):=by
 unfold AY Grp.n
 cases ht:g.two with
 |false=>simp only [Bool.false_eq_true,if_false,A5];omega
 |true=>
  obtain ⟨_,hb,hk⟩:=h ht;have e:gi l (g.at_+2) - gi l g.at_=(gi l (g.at_+1) - gi l g.at_)+(gi l (g.at_+2) - gi l (g.at_+1)):=by omega
  simp only [if_true];rw [e];generalize gi l (g.at_+1) - gi l g.at_=a at*;generalize gi l (g.at_+2) - gi l (g.at_+1)=b at*;have h3:=Og a b;have h4:(tms a b=1∧a=b)∨(tms a b=2∧(a*2=b∨b*2=a))∨(tms a b=3∧(a*3=b∨b*3=a)):=by
   unfold tms at hk ⊢;by_cases e1:a=b
   ·rw [if_pos e1];exact .inl ⟨rfl,e1⟩
   ·rw [if_neg e1] at hk ⊢;by_cases e2:a*2=b∨b*2=a
    ·rw [if_pos e2];exact .inr (.inl ⟨rfl,e2⟩)
    ·rw [if_neg e2] at hk ⊢;by_cases e3:a*3=b∨b*3=a
     ·rw [if_pos e3];exact .inr (.inr ⟨rfl,e3⟩)
     ·rw [if_neg e3] at hk;omega
  have d1:(6:Int).tdiv 1=6:=by decide
  have d2:(6:Int).tdiv 2=3:=by decide
  have d3:(6:Int).tdiv 3=2:=by decide
  rcases h4 with ⟨k,e1⟩|⟨k,e1⟩|⟨k,e1⟩<;>rw [k]<;>(first|rw [d1]|rw [d2]|rw [d3])<;>split<;>simp only [A5]<;>omega
theorem Hh{many:Nat}(hl:gX many most l):∀(m i:Nat) (W:List Int),l.length≤m+i→i<l.length→W.length=l.length→bD (LY l (qR l i) W) l.length≤bD W l.length+48*(gi l (l.length - 1) - gi l i):=by
 intro m
 induction m with
 |zero=>intro i W h1 h2;omega
 |succ m ih=>
  intro i W h1 h2 hW;by_cases hi:i+1<l.length
  ·rw [D9 hi];show bD (LY l (qR l _) (mO W i (AY l ⟨i,gw l i⟩))) l.length≤_;have hr:=hl.rise i hi;have Qy:gw l i=true→i+2<l.length∧0<tms (gi l (i+1) - gi l i) (gi l (i+2) - gi l (i+1)):=fun h=>by
    simpa [gw] using h
   have h3:=GH (l:=l) (g:=⟨i,gw l i⟩) (by show 0<gi l (i+1) - gi l i;omega) (fun h=>by
    obtain ⟨a,b⟩:=Qy h;have:gi l (i+1)<gi l (i+2):=hl.rise (i+1) (by omega);exact ⟨a,by show 0<gi l (i+2) - gi l (i+1);omega,b⟩)
   have hg:(AY l ⟨i,gw l i⟩).length=(if gw l i then 2 else 1)+1:=by
    unfold AY
    cases gw l i with
    |false=>rfl
    |true=>simp only [if_true];split<;>rfl
   have hn:i+(if gw l i then 2 else 1)<l.length:=by
    cases e:gw l i with
    |false=>simpa using hi
    |true=>simpa [e] using (Qy e).1
   have h4:=sh (AY l ⟨i,gw l i⟩) W i (by rw [hg,hW];omega);have h5:=ih (i+(if gw l i then 2 else 1)) (mO W i (AY l ⟨i,gw l i⟩)) (by split<;>omega) hn (by rw [pS];exact hW);have e6:(⟨i,gw l i⟩:Grp).n=if gw l i then 2 else 1:=rfl
   rw [e6] at h3;rw [hW] at h4;dsimp only at h3;omega
  ·rw [AX hi];show bD W l.length≤_;have:=hl.le (i:=i) (j:=l.length - 1) (by omega) (by omega);omega
theorem oZ{many:Nat}(hl:gX many most l):bD (wts l) l.length≤48*most:=by
 have h0:=hl.two;have h1:=Hh hl l.length 0 (List.replicate l.length 0) (by omega) (by omega) (by simp);have h2:bD (List.replicate l.length 0) l.length=0:=by
  unfold bD;rw [bF (g:=fun _=>0) (fun v hv=>by rw [eO _ _ hv];rfl),gD]
 have h3:=hl.low;have h4:=hl.high;show bD (LY l (qR l 0) _) l.length≤_;omega
theorem Dq{l:List Int}{g:Grp}:∀{f i:Nat},g∈qv l f i→g.at_+1<l.length∧g.two=gw l g.at_
 |0,_,h=>by cases h
 |f+1,i,h=>by
  rw [qv] at h;split at h
  ·rcases List.mem_cons.1 h with rfl|h
   ·exact ⟨by assumption,rfl⟩
   ·exact Dq h
  ·cases h
theorem vV(l:List Int):∀(f i:Nat),(qv l f i).length≤f
 |0,_=>Nat.le_refl _
 |f+1,i=>by
  rw [qv];split
  ·have:=vV l f (i+(if gw l i then 2 else 1));simp only [List.length_cons];omega
  ·simp
theorem Ea{many:Nat}(hl:gX many most l){g:Grp}(h:g∈BV l):g.at_+1<l.length∧0<gi l (g.at_+1) - gi l g.at_∧gi l (g.at_+1) - gi l g.at_≤most∧
  (g.two=true→g.at_+2<l.length∧0<gi l (g.at_+2) - gi l (g.at_+1)∧gi l (g.at_+2) - gi l (g.at_+1)≤most∧0<tms (gi l (g.at_+1) - gi l g.at_) (gi l (g.at_+2) - gi l (g.at_+1)))∧A5 (AY l g)≤48*most:=by
 obtain ⟨h1,h2⟩:=Dq h;have h3:=hl.rise _ h1;have b0:=hl.bd (i:=g.at_) (by omega);have b1:=hl.bd (i:=g.at_+1) h1;have ht:g.two=true→g.at_+2<l.length∧0<gi l (g.at_+2) - gi l (g.at_+1)∧gi l (g.at_+2) - gi l (g.at_+1)≤most∧0<tms (gi l (g.at_+1) - gi l g.at_) (gi l (g.at_+2) - gi l (g.at_+1)):=fun h=>by
  rw [h2] at h;simp only [gw,Bool.and_eq_true,decide_eq_true_eq] at h;have h4:gi l (g.at_+1)<gi l (g.at_+2):=hl.rise (g.at_+1) h.1;have b2:=hl.bd (i:=g.at_+2) h.1;exact ⟨h.1,by omega,by omega,h.2⟩
 refine ⟨h1,by omega,by omega,ht,?_⟩;have h5:=GH (g:=g) (by omega) fun h=>⟨(ht h).1,(ht h).2.1,(ht h).2.2.2⟩
 have b3:=hl.bd (i:=g.at_+g.n) (by
  unfold Grp.n;split
  ·exact (ht (by assumption)).1
  ·exact h1)
 omega
theorem GG(l:List Int)(g:Grp):(AY l g).length=g.n+1:=by
 unfold AY Grp.n
 cases g.two with
 |false=>rfl
 |true=>simp only [if_true];split<;>rfl
def EH(l:List Int)(k:Nat):List Int:=LY l ((BV l).take k) (List.replicate l.length 0)
theorem re(l:List Int)(k:Nat):(EH l k).length=l.length:=by unfold EH;rw [rf,List.length_replicate]
theorem CS{g:Grp}(h:(BV l)[k]? =some g):EH l (k+1)=mO (EH l k) g.at_ (AY l g):=by
 unfold EH LY;rw [eH h,List.foldl_append];rfl
theorem LX(l:List Int):EH l (BV l).length=wts l:=by unfold EH wts;rw [List.take_length]
theorem Ax{many:Nat}{most:Int}{l:List Int}(hl:gX many most l):∀k,k≤(BV l).length→bD (EH l k) l.length≤k*(48*most)
 |0,_=>by
  have:bD (EH l 0) l.length=0:=by
   unfold bD EH LY;rw [bF (g:=fun _=>0) (fun v hv=>by show max (gi (List.replicate l.length 0) v) (-gi (List.replicate l.length 0) v)=0;rw [eO _ _ hv];rfl),gD]
  omega
 |k+1,h=>by
  obtain ⟨g,hg⟩:=List.getElem?_eq_some_iff.2 ⟨h,rfl⟩ |>fun h=>(⟨_,h⟩:∃g,(BV l)[k]? =some g)
  obtain ⟨h1,_,_,h3,h4⟩:=Ea hl (List.mem_of_getElem? hg);rw [CS hg];have h5:=sh (AY l g) (EH l k) g.at_ (by
   rw [GG,re];unfold Grp.n;split
   ·have:=(h3 (by assumption)).1;omega
   ·omega)
  rw [re] at h5;have h6:=Ax hl k (by omega);have e:((k+1:Nat):Int)*(48*most)=k*(48*most)+48*most:=by rw [Int.natCast_add,Int.add_mul];omega
  omega
theorem NG{g:Grp}{A B T M:Int}(h2:g.two=true)(hA:gi l (g.at_+1) - gi l g.at_=A)(hB:gi l (g.at_+2) - gi l (g.at_+1)=B)(hT:tms A B=T)(hM:min A B=M):
  AY l g=if B<A then [(6:Int).tdiv T*(1+T)*M*(2*T - 1),(6:Int).tdiv T*(1+T)*M*(1+T)*(1+T),(6:Int).tdiv T*(1+T)*M*T*(2 - T)] else [(6:Int).tdiv T*(1+T)*M*T*(2 - T),(6:Int).tdiv T*(1+T)*M*(1+T)*(1+T),(6:Int).tdiv T*(1+T)*M*(2*T - 1)]:=by
 subst hT hM;unfold AY;rw [h2,hA,hB];rfl
theorem NH{g:Grp}{A:Int}(h2:g.two=false)(hA:gi l (g.at_+1) - gi l g.at_=A):AY l g=[18*A,18*A]:=by
 unfold AY;rw [h2,hA];rfl
theorem NF{k m:Int}(hk:k=1∨k=2∨k=3)(h0:0≤m)(h1:m≤100000):
  (2≤(6:Int).tdiv k∧(6:Int).tdiv k≤6)∧(8≤(6:Int).tdiv k*(1+k)∧(6:Int).tdiv k*(1+k)≤12)∧(0≤(6:Int).tdiv k*(1+k)*m∧(6:Int).tdiv k*(1+k)*m≤1200000)∧
  (∀c,0≤c→c≤1200000→(0≤c*k∧c*k≤3600000)∧(-3600000≤c*k*(2 - k)∧c*k*(2 - k)≤3600000)∧(0≤c*(1+k)∧c*(1+k)≤4800000)∧(0≤c*(1+k)*(1+k)∧c*(1+k)*(1+k)≤19200000)∧(0≤c*(2*k - 1)∧c*(2*k - 1)≤6000000)):=by
 have d1:(6:Int).tdiv 1=6:=by decide
 have d2:(6:Int).tdiv 2=3:=by decide
 have d3:(6:Int).tdiv 3=2:=by decide
 rcases hk with rfl|rfl|rfl
 ·rw [d1];refine ⟨by omega,by omega,by omega,fun c _ _=>by omega⟩
 ·rw [d2];refine ⟨by omega,by omega,by omega,fun c _ _=>by omega⟩
 ·rw [d3];refine ⟨by omega,by omega,by omega,fun c _ _=>by omega⟩
def Im(es:List Arc)(ts:List Int)(k:Nat):Int:=aZ (fun i=>gi ts i*(ga es i).c) k
theorem K5:∀{es:List Arc} {ts:List Int},ts.length=es.length→dot es ts (·.c)=Im es ts es.length:=by
 intro es
 induction es with
 |nil=>intro ts _;simp [dot,Im,aZ]
 |cons x es ih=>
  intro ts h
  cases ts with
  |nil=>simp at h
  |cons t ts=>
   have h1:=ih (ts:=ts) (by simpa using h);simp only [dot,h1,Im,List.length_cons];rw [jZ];rfl
abbrev BB:Int:=4608000000000000000
theorem E1{w:List Int}{n:Nat}{p:Nat→Int}(hw:bD w n≤FF)(hp:∀v<n,p v - p 0≤1280000∧-1280000≤p v - p 0):aZ (fun v=>gi w v*(p v - p 0)) n≤BB∧-BB≤aZ (fun v=>gi w v*(p v - p 0)) n:=by
 have key:∀a b:Int,b≤1280000→-1280000≤b→a*b≤1280000*max a (-a)∧-(a*b)≤1280000*max a (-a):=by
  intro a b h1 h2
  rcases Int.le_total 0 a with h|h
  ·have e:max a (-a)=a:=by omega
   have g1:a*b≤a*1280000:=Int.mul_le_mul_of_nonneg_left h1 h;have g2:a*(-1280000)≤a*b:=Int.mul_le_mul_of_nonneg_left h2 h;rw [e];omega
  ·have e:max a (-a)= -a:=by omega
   have g1:(-a)*b≤(-a)*1280000:=Int.mul_le_mul_of_nonneg_left h1 (by omega);have g2:(-a)*(-1280000)≤(-a)*b:=Int.mul_le_mul_of_nonneg_left h2 (by omega);rw [e];simp only [Int.neg_mul] at g1 g2;omega
 have h1:aZ (fun v=>gi w v*(p v - p 0)) n≤aZ (fun v=>1280000*max (gi w v) (-gi w v)) n:=lA fun v hv=>(key _ _ (hp v hv).1 (hp v hv).2).1
 have h2:aZ (fun v=> -(gi w v*(p v - p 0))) n≤aZ (fun v=>1280000*max (gi w v) (-gi w v)) n:=lA fun v hv=>(key _ _ (hp v hv).1 (hp v hv).2).2
 rw [sA] at h1 h2;rw [C4] at h2;unfold bD at hw;simp only [FF,BB] at*;omega
theorem wm.value{n:Nat}{es:List Arc}{w:List Int}(h:wm n es (sn w n) ts)(hn:0<n)(yJ:n≤65)(ho:tO es n)(hw:bD w n≤FF):
  Lr es (sn w n) n (dot es ts (·.c))∧¬sj es (sn w n) n∧dot es ts (·.c)≤BB∧-BB≤dot es ts (·.c):=by
 have fH:∀x∈es,x.f<n∧x.t<n:=fun x hx=>by have:=ho.2 x hx;omega
 obtain ⟨D,hg⟩:=Gg hn yJ ho h.lt.symm h.fe;obtain ⟨h1,h2,h3⟩:=NJ fH h.lt (fun i hi=>(h.nn i hi).1) h.full hg.fe;refine ⟨h1,h3,?_⟩;rw [←h2,Ay w hn];exact E1 hw fun v hv=>by
  have a1:=hg.d0 v;have a2:=hg.d1 v hv;have a3:=hg.d0 0;have a4:=hg.d1 0 hn;omega
end Go.MW
namespace Go.MW
abbrev free:Int:=1000000000
structure CG(n:Nat)(as:List Arc)(S:Nat→Prop)(D:Nat→Int)(Dn:Arc→Prop)(again:Bool)(s:BS):Prop where
 lc:s.cost.length=n
 lb:s.by_.length=n
 lo:∀v<n,D v≤gi s.cost v
 top:∀v<n,gi s.cost v≤free
 up:∀v<n,gi s.cost v<free→gi s.cost v≤1400000*(Classical.choose gS) (fun v=>gi s.cost v<free) n
 src:∀v<n,S v→gi s.cost v≤0
 by1:∀v<n,gi s.cost v<free→((ga s.by_ v).l= -1∧S v∧gi s.cost v=0)∨
  (0≤(ga s.by_ v).l∧ga s.by_ v∈as∧(ga s.by_ v).t=v∧gi s.cost (ga s.by_ v).f<free∧gi s.cost (ga s.by_ v).f+(ga s.by_ v).c≤gi s.cost v)
 dep:∀v<n,gi s.cost v<free→∃k c u,gq s.by_ v k c u∧(ga s.by_ u).l<0
 nov:again=false→∀x∈as,Dn x→¬(gi s.cost x.f<free∧s.can x)
structure VG(n:Nat)(as:List Arc)(D:Nat→Int):Prop where
 n0:0<n
 n1:n≤65
 ok:∀x∈as,x.f<n∧x.t<n∧-1400000≤x.c∧x.c≤1400000∧0≤x.l∧x.f≠x.t
 fe:jt as D
 d0:∀v,D v≤0
 d1:∀v<n,-89600000≤D v
variable{n:Nat}{as:List Arc}{S:Nat→Prop}{D:Nat→Int}{Dn Dn':Arc→Prop}{again:Bool}{s:BS}{x:Arc}
theorem CG.low(h:CG n as S D Dn again s)(hg:VG n as D){v:Nat}(hv:v<n)(hr:gi s.cost v<free):gi s.cost v≤91000000:=by
 have h1:=h.up v hv hr;have h2:=GX (fun v=>gi s.cost v<free) n;have:=hg.n1;omega
theorem CG.Dd(h:CG n as S D Dn again s)(hg:VG n as D)(hm:x∈as)(hf:gi s.cost x.f<free)(hc:s.can x):CG n as S D Dn' true (s.rlx x):=by
 obtain ⟨b1,b2,b3,b4,b5,b6⟩:=hg.ok x hm;have uN:∀v,gi (s.rlx x).cost v=if v=x.t then gi s.cost x.f+x.c else gi s.cost v:=fun v=>iI (by rw [h.lc];exact b2) _ v
 have hb:∀v,ga (s.rlx x).by_ v=if v=x.t then x else ga s.by_ v:=fun v=>yU (by rw [h.lb];exact b2) _ v
 have hle:∀v,gi (s.rlx x).cost v≤gi s.cost v:=fun v=>by
  rw [uN];unfold BS.can at hc;split
  ·rename_i e;subst e;omega
  ·omega
 have Kf:=h.low hg b1 hf;have J7:gi (s.rlx x).cost x.t<free:=by rw [uN,if_pos rfl];simp only [free];omega
 have fc:∀v,(v<n∧gi s.cost v<free)→0≤(ga s.by_ v).l→ga s.by_ v∈as∧(ga s.by_ v).t=v∧gi s.cost (ga s.by_ v).f+(ga s.by_ v).c≤gi s.cost v∧((ga s.by_ v).f<n∧gi s.cost (ga s.by_ v).f<free):=fun v ⟨hv,hr⟩ hl=>by
  rcases h.by1 v hv hr with ⟨e,_⟩|⟨_,e1,e2,e3,e4⟩
  ·omega
  ·exact ⟨e1,e2,e4,(hg.ok _ e1).1,e3⟩
 have Kr:∀{v u:Nat} {k:Nat} {c:Int},gq s.by_ v k c u→(v<n∧gi s.cost v<free)→gi s.cost u+c≤gi s.cost v∧D v≤D u+c:=fun hb=>by
  induction hb with
  |nil=>intro _;omega
  | @cons v u k c hl t ih=>
   intro hv;obtain ⟨h1,h2,h3,h4⟩:=fc _ hv hl;obtain ⟨h5,h6⟩:=ih h4;have h7:=hg.fe _ h1;rw [h2] at h7;omega
 have vR:∀{k:Nat} {c:Int},¬gq s.by_ x.f k c x.t:=fun Np=>by
  have h1:=Kr Np ⟨b1,hf⟩;have h2:=hg.fe x hm;unfold BS.can at hc;omega
 have Xx:(Classical.choose gS) (fun v=>gi s.cost v<free) n≤(Classical.choose gS) (fun v=>gi (s.rlx x).cost v<free) n:=cnt_mono fun v _ hv=>by have:=hle v;omega
 have DN:∀u,u≠x.t→ga (s.rlx x).by_ u=ga s.by_ u:=fun u hu=>by rw [hb,if_neg hu]
 refine ⟨by simp [BS.rlx,h.lc],by simp [BS.rlx,h.lb],fun v hv=>?_,fun v hv=>Int.le_trans (hle v) (h.top v hv),fun v hv hr=>?_,fun v hv hs=>Int.le_trans (hle v) (h.src v hv hs),fun v hv hr=>?_,?_,fun e=>(by cases e)⟩
 ·rw [uN];split
  ·rename_i e;subst e;have:=hg.fe x hm;have:=h.lo _ b1;omega
  ·exact h.lo v hv
 ·by_cases e:v=x.t
  ·subst e;rw [uN,if_pos rfl];have h1:=h.up _ b1 hf;by_cases Tm:gi s.cost x.t<free
   ·have:=h.up _ b2 Tm;unfold BS.can at hc;omega
   ·have:=cnt_lt (p:=fun v=>gi s.cost v<free) (q:=fun v=>gi (s.rlx x).cost v<free) (n:=n) (fun v _ hv=>by have:=hle v;omega) b2 J7 Tm;omega
  ·rw [uN,if_neg e] at hr ⊢;have:=h.up v hv hr;omega
 ·by_cases e:v=x.t
  ·subst e;refine .inr ?_;simp only [hb,if_true];refine ⟨b5,hm,trivial,?_,?_⟩
   ·rw [uN,if_neg b6];exact hf
   ·rw [uN,uN,if_neg b6,if_pos rfl];exact Int.le_refl _
  ·rw [uN,if_neg e] at hr ⊢;rw [hb,if_neg e]
   rcases h.by1 v hv hr with e1|⟨e1,e2,e3,e4,e5⟩
   ·exact .inl e1
   ·have:=hle (ga s.by_ v).f;exact .inr ⟨e1,e2,e3,by omega,by omega⟩
 ·
  obtain ⟨k0,c0,u0,g1,g2⟩:=h.dep _ b1 hf;have DR:∀{k:Nat} {c:Int} {u:Nat},gq s.by_ x.f k c u→gq (s.rlx x).by_ x.f k c u∧u≠x.t:=fun g=>by
   refine ⟨?_,fun e=>by subst e;exact vR g⟩
   rcases gq.L6 DN g with g|⟨i,d,j,e,g,_⟩
   ·exact g
   ·exact (vR g).elim
  obtain ⟨g3,g4⟩:=DR g1;have vQ:(ga (s.rlx x).by_ u0).l<0:=by rw [hb,if_neg g4];exact g2
  have yM:gq (s.rlx x).by_ x.t (k0+1) (x.c+c0) u0:=by
   have:=gq.cons (b:=(s.rlx x).by_) (v:=x.t) (k:=k0) (c:=c0) (u:=u0) (by rw [hb,if_pos rfl];exact b5) (by rw [hb,if_pos rfl];exact g3)
   rwa [hb,if_pos rfl] at this
  intro v hv hr;by_cases e:v=x.t
  ·subst e;exact ⟨_,_,_,yM,vQ⟩
  ·rw [uN,if_neg e] at hr;obtain ⟨k,c,u,f1,f2⟩:=h.dep v hv hr
   rcases gq.L6 DN f1 with f|⟨i,d,j,e',_,f,_⟩
   ·by_cases e2:u=x.t
    ·subst e2;exact ⟨_,_,_,f.trans yM,vQ⟩
    ·exact ⟨_,_,_,f,by rw [hb,if_neg e2];exact f2⟩
   ·exact ⟨_,_,_,f.trans yM,vQ⟩
def WMv(n:Nat)(D:Nat→Int)(s:BS):Nat:=(aZ (fun v=>gi s.cost v - D v) n).toNat
theorem CG.less(h:CG n as S D Dn again s)(hg:VG n as D)(hm:x∈as)(hf:gi s.cost x.f<free)(hc:s.can x):WMv n D (s.rlx x)<WMv n D s:=by
 obtain ⟨b1,b2,_⟩:=hg.ok x hm;have h2:=h.Dd (Dn':=Dn) hg hm hf hc;have uN:∀v,gi (s.rlx x).cost v=if v=x.t then gi s.cost x.f+x.c else gi s.cost v:=fun v=>iI (by rw [h.lc];exact b2) _ v
 unfold BS.can at hc;have h3:aZ (fun v=>gi (s.rlx x).cost v - D v) n<aZ (fun v=>gi s.cost v - D v) n:=sB (u:=x.t) (fun v _=>by
  rw [uN];split
  ·rename_i e;subst e;omega
  ·omega) b2 (by rw [uN,if_pos rfl];omega)
 have h4:0≤aZ (fun v=>gi (s.rlx x).cost v - D v) n:=db fun v hv=>by have:=h2.lo v hv;omega
 unfold WMv;omega
def G5(D:Nat→Int)(s:BS)(v:Nat):Int:=if gi s.cost v<free then gi s.cost v else D v+free
theorem CG.after(h:CG n as S D (fun _=>True) false s)(hg:VG n as D):jt as (G5 D s):=fun x hx=>by
 obtain ⟨b1,b2,b3,b4,b5,b6⟩:=hg.ok x hx;have h1:=h.nov rfl x hx trivial;unfold MW.G5;by_cases hf:gi s.cost x.f<free
 ·have h2:=h.low hg b1 hf;have h3:gi s.cost x.t≤gi s.cost x.f+x.c:=by
   have:¬s.can x:=fun e=>h1 ⟨hf,e⟩
   unfold BS.can at this;omega
  have h4:gi s.cost x.t<free:=by simp only [free];omega
  rw [if_pos hf,if_pos h4];exact h3
 ·rw [if_neg hf];have h5:=hg.fe x hx;have h6:=hg.d1 _ b1;split
  ·rename_i ht;have:=h.low hg b2 ht;simp only [free];omega
  ·omega
theorem CG.closed(h:CG n as S D (fun _=>True) false s)(hg:VG n as D):∀x∈as,gi s.cost x.f<free→gi s.cost x.t<free:=fun x hx hf=>by
 obtain ⟨b1,b2,b3,b4,b5,b6⟩:=hg.ok x hx;have h1:=h.nov rfl x hx trivial;have h2:=h.low hg b1 hf;have:¬s.can x:=fun e=>h1 ⟨hf,e⟩
 unfold BS.can at this;simp only [free] at*;omega
end Go.MW
namespace Go.MW
variable{n:Nat}{M F:Nat→Nat→Int}{es:List Arc}{ts lf:List Int}{x y:Arc}{a b:Nat}
def EI(F:Nat→Nat→Int)(a b:Nat)(z:Int):Nat→Nat→Int:=fun i j=>if i=a∧j=b then z else F i j
end Go.MW
namespace Go.MW
structure RC(n:Nat)(lf:List Int)(k:Nat)(s:BS):Prop where
 lc:s.cost.length=n
 lb:s.by_.length=n
 c:∀v<k,gi s.cost v=if gi lf v<0 then 0 else free
 b:∀v<n,ga s.by_ v=⟨0,0,0,-1⟩
variable{n:Nat}{es as:List Arc}{wt D:Nat→Int}{ts lf:List Int}{s:BS}{k:Nat}{Dn:Arc→Prop}
theorem RC.inv(h:RC n lf n s)(hg:VG n as D):CG n as (fun v=>gi lf v<0) D Dn true s where
 lc:=h.lc
 lb:=h.lb
 lo:=fun v hv=>by
  have:=hg.d0 v;have:free=1000000000:=rfl;rw [h.c v hv];split<;>omega
 top:=fun v hv=>by
  have:free=1000000000:=rfl;rw [h.c v hv];split<;>omega
 up:=fun v hv hr=>by
  rw [h.c v hv] at hr ⊢;split
  ·omega
  ·rename_i e;rw [if_neg e] at hr;omega
 src:=fun v hv hs=>by rw [h.c v hv,if_pos hs];omega
 by1:=fun v hv hr=>by
  rw [h.c v hv] at hr;by_cases e:gi lf v<0
  ·refine .inl ⟨by rw [h.b v hv],e,by rw [h.c v hv,if_pos e]⟩
  ·rw [if_neg e] at hr;omega
 dep:=fun v hv hr=>by
  rw [h.c v hv] at hr;by_cases e:gi lf v<0
  ·exact ⟨0,0,v,.nil,by rw [h.b v hv];simp⟩
  ·rw [if_neg e] at hr;omega
 nov:=fun e=>by cases e
theorem Mn(hn:0<n)(yJ:n≤65)(ho:∀x∈es,x.f<n∧x.t<n∧-1400000≤x.c∧x.c≤1400000∧0≤x.l∧x.f≠x.t)(hl:es.length=ts.length)(hf:∃p,jt (dY es ts) p):∃D,VG n (dY es ts) D:=by
 obtain ⟨p,hp⟩:=hf;have bw:∀x∈dY es ts,x.f<n∧x.t<n∧-1400000≤x.c∧x.c≤1400000∧0≤x.l∧x.f≠x.t:=fun x hx=>by
  obtain ⟨i,y,h1,h2⟩:=(fN hl).1 hx;have h3:=ho y (List.mem_of_getElem? h1)
  rcases h2 with rfl|⟨_,rfl⟩
  ·exact h3
  ·simp only [Arc.back];omega
 obtain ⟨D,h1,h2,h3⟩:=hp.bounded (n:=n) (C:=1400000) hn (by omega) fun x hx=>by have:=bw x hx;exact ⟨this.1,this.2.1,this.2.2.1⟩
 refine ⟨D,hn,yJ,bw,h1,h2,fun v hv=>?_⟩;have:=h3 v hv;have h4:(((n - 1:Nat):Int))≤64:=by omega
 omega
theorem CG.back(h:CG n (dY es ts) (fun v=>gi lf v<0) D (fun _=>True) false s)(hg:VG n (dY es ts) D){to:Nat}(tV:to<n)(ht:gi s.cost to<free)(hp:0<gi lf to):
  ∃k c u,gq s.by_ to k c u∧(ga s.by_ u).l<0∧k<n∧0<k∧(∀v,v<n→gi s.cost v<free→0≤(ga s.by_ v).l→(ga s.by_ v).f<n∧gi s.cost (ga s.by_ v).f<free)∧∀p,p=(oK s.by_ to k).reverse→Rz es ts lf n p u to:=by
 have fc:∀v,(v<n∧gi s.cost v<free)→0≤(ga s.by_ v).l→ga s.by_ v∈dY es ts∧(ga s.by_ v).t=v∧gi s.cost (ga s.by_ v).f+(ga s.by_ v).c≤gi s.cost v∧((ga s.by_ v).f<n∧gi s.cost (ga s.by_ v).f<free):=fun v ⟨hv,hr⟩ hl=>by
  rcases h.by1 v hv hr with ⟨e,_⟩|⟨_,e1,e2,e3,e4⟩
  ·omega
  ·exact ⟨e1,e2,e4,(hg.ok _ e1).1,e3⟩
 obtain ⟨k,c,u,h1,h2⟩:=h.dep to tV ht;have fH:∀{v w:Nat} {k:Nat} {c:Int},gq s.by_ v k c w→(v<n∧gi s.cost v<free)→(w<n∧gi s.cost w<free):=fun h=>by
  induction h with
  |nil=>exact id
  |cons hl t ih=>exact fun hv=>ih (fc _ hv hl).2.2.2
 have hu:=fH h1 ⟨tV,ht⟩;have X2:gi lf u<0:=by
  rcases h.by1 u hu.1 hu.2 with ⟨_,e,_⟩|⟨e,_⟩
  ·exact e
  ·omega
 have hk:k<n:=h1.short (A:=fun v=>v<n∧gi s.cost v<free) (fun v hv=>hv.1) (fun v hv hl=>(fc v hv hl).2.2.2) h2 ⟨tV,ht⟩;have DV:0<k:=by
  cases h1 with
  |nil=>omega
  |cons _ _=>omega
 refine ⟨k,c,u,h1,h2,hk,DV,fun v hv hr hl=>(fc v ⟨hv,hr⟩ hl).2.2.2,fun p Tt=>?_⟩;subst Tt;refine ⟨?_,?_,?_,hu.1,tV,X2,hp,G5 D s,h.after hg,?_⟩
 ·exact xO (A:=fun v=>v<n∧gi s.cost v<free) (fun v hv hl=>⟨(fc v hv hl).2.1,(fc v hv hl).2.2.2⟩) h1 ⟨tV,ht⟩
 ·intro x hx;rw [List.mem_reverse] at hx;exact sy (A:=fun v=>v<n∧gi s.cost v<free) (B:=fun x=>x∈dY es ts) (fun v hv hl=>⟨(fc v hv hl).1,(fc v hv hl).2.2.2⟩) h1 ⟨tV,ht⟩ x hx
 ·rw [List.map_reverse];have:=xL (A:=fun v=>v<n∧gi s.cost v<free) (fun v hv hl=>⟨(fc v hv hl).2.1,(fc v hv hl).2.2.2⟩) h2 h1 ⟨tV,ht⟩;exact (List.reverse_perm _).nodup_iff.2 this
 ·intro x hx;rw [List.mem_reverse] at hx;have:=sy (A:=fun v=>v<n∧gi s.cost v<free) (B:=fun x=>x∈dY es ts∧gi s.cost x.f<free∧gi s.cost x.t<free∧gi s.cost x.f+x.c≤gi s.cost x.t) (fun v hv hl=>by
   obtain ⟨g1,g2,g3,g4⟩:=fc v hv hl;exact ⟨⟨g1,g4.2,by rw [g2];exact hv.2,by rw [g2];exact g3⟩,g4⟩) h1 ⟨tV,ht⟩ x hx
  obtain ⟨g1,g2,g3,g4⟩:=this;have g5:=h.after hg x g1;unfold G5 at g5 ⊢;rw [if_pos g2,if_pos g3] at g5 ⊢;omega
end Go.MW
namespace Go.MW
variable{m:Nat}
theorem AN{S:Int→Prop}{B:Int}(h:∃m,S m)(hb:∀m,S m→B≤m):∃m,S m∧∀k,S k→m≤k:=by
 obtain ⟨m0,h0⟩:=h;have key:∀(n:Nat) (m:Int),S m→m - B≤n→∃m,S m∧∀k,S k→m≤k:=by
  intro n
  induction n with
  |zero=>exact fun m hm hle=>⟨m,hm,fun k hk=>by have:=hb k hk;omega⟩
  |succ n ih=>
   intro m hm hle;by_cases hx:∃k,S k∧k<m
   ·obtain ⟨k,hk,fU⟩:=hx;exact ih k hk (by omega)
   ·exact ⟨m,hm,fun k hk=>Int.not_lt.1 fun fU=>hx ⟨k,hk,fU⟩⟩
 exact key (m0 - B).toNat m0 h0 (by have:=hb m0 h0;omega)
def Wk(es:List Arc):Nat→List Nat→Nat→Int→Prop
 |i,[],j,c=>∃x∈es,x.f=i∧x.t=j∧x.c=c
 |i,v::L,j,c=>∃x∈es,x.f=i∧x.t=v∧Wk es v L j (c - x.c)
variable{n:Nat}{es:List Arc}
theorem Wk.join{A:List Nat}:∀{i v j:Nat} {B:List Nat} {c d:Int},Wk es i A v c→Wk es v B j d→Wk es i (A++v::B) j (c+d):=by
 induction A with
 |nil=>
  rintro i v j B c d ⟨x,h1,h2,h3,h4⟩ h;exact ⟨x,h1,h2,h3,by rw [h4,show c+d - c=d by omega];exact h⟩
 |cons u A ih=>
  rintro i v j B c d ⟨x,h1,h2,h3,h4⟩ h;exact ⟨x,h1,h2,h3,by rw [show c+d - x.c=c - x.c+d by omega];exact ih h4 h⟩
theorem Wk.split{A:List Nat}:∀{i v j:Nat} {B:List Nat} {c:Int},Wk es i (A++v::B) j c→∃d,Wk es i A v d∧Wk es v B j (c - d):=by
 induction A with
 |nil=>
  rintro i v j B c ⟨x,h1,h2,h3,h4⟩;exact ⟨x.c,⟨x,h1,h2,h3,rfl⟩,h4⟩
 |cons u A ih=>
  rintro i v j B c ⟨x,h1,h2,h3,h4⟩;obtain ⟨d,g1,g2⟩:=ih h4;exact ⟨d+x.c,⟨x,h1,h2,h3,by rw [show d+x.c - x.c=d by omega];exact g1⟩,by rw [show c - (d+x.c)=c - x.c - d by omega];exact g2⟩
theorem Wk.bd(hb:∀x∈es,-20000≤x.c∧x.c≤20000){L:List Nat}:∀{i j:Nat} {c:Int},Wk es i L j c→-(20000*(L.length+1:Int))≤c∧c≤20000*(L.length+1:Int):=by
 induction L with
 |nil=>
  rintro i j c ⟨x,h1,h2,h3,rfl⟩;have:=hb x h1;simpa using this
 |cons v L ih=>
  rintro i j c ⟨x,h1,h2,h3,h4⟩;have h5:=ih h4;have:=hb x h1;simp only [List.length_cons];omega
theorem Wk.Po{p:Nat→Int}(hp:jt es p){L:List Nat}:∀{i j:Nat} {c:Int},Wk es i L j c→p j - p i≤c:=by
 induction L with
 |nil=>
  rintro i j c ⟨x,h1,rfl,rfl,rfl⟩;have:=hp x h1;omega
 |cons v L ih=>
  rintro i j c ⟨x,h1,rfl,rfl,h4⟩;have h5:=ih h4;have:=hp x h1;omega
theorem Wk.simple:∀(m:Nat) {L:List Nat} {i j:Nat} {c:Int},L.length≤m→Wk es i L j c→∃L' c',L'.Nodup∧(∀v∈L',v∈L)∧Wk es i L' j c':=by
 intro m
 induction m with
 |zero=>
  intro L i j c hl h;obtain rfl:L=[]:=List.length_eq_zero_iff.1 (by omega);exact ⟨[],c,.nil,fun _ h=>h,h⟩
 |succ m ih=>
  intro L i j c hl h;by_cases tW:L.Nodup
  ·exact ⟨L,c,tW,fun _ h=>h,h⟩
  ·
   have key:∀L:List Nat,¬L.Nodup→∃A v B D,L=A++v::(B++v::D):=by
    intro L
    induction L with
    |nil=>exact fun h=>(h .nil).elim
    |cons v L ih=>
     intro h;by_cases hv:v∈L
     ·obtain ⟨B,D,rfl⟩:=List.append_of_mem hv;exact ⟨[],v,B,D,rfl⟩
     ·have:¬L.Nodup:=fun g=>h (List.nodup_cons.2 ⟨hv,g⟩)
      obtain ⟨A,u,B,D,rfl⟩:=ih this;exact ⟨v::A,u,B,D,rfl⟩
   obtain ⟨A,v,B,D,rfl⟩:=key L tW;obtain ⟨d,g1,g2⟩:=h.split
   obtain ⟨e,g3,g4⟩:=g2.split
   obtain ⟨L',c',k1,k2,k3⟩:=ih (L:=A++v::D) (by simp at hl ⊢;omega) (g1.join g4);refine ⟨L',c',k1,fun u hu=>?_,k3⟩;have:=k2 u hu;simp only [List.mem_append,List.mem_cons] at this ⊢
   rcases this with h|h|h
   ·exact .inl h
   ·exact .inr (.inl h)
   ·exact .inr (.inr (.inr (.inr h)))
theorem sU:∀{m:Nat} {L:List Nat},L.Nodup→(∀v∈L,v<m)→L.length≤m
 |0,L,_,hm=>by
  cases L with
  |nil=>simp
  |cons v L=>have:=hm v (.head _);omega
 |m+1,L,h,hm=>by
  by_cases hx:m∈L
  ·have h1:=sU (m:=m) (h.erase m) fun v hv=>by
    have h2:=(List.Nodup.mem_erase_iff h).1 hv;have:=hm v h2.2;have:=h2.1;omega
   rw [List.length_erase_of_mem hx] at h1;omega
  ·have:=sU (m:=m) h fun v hv=>by
    have:=hm v hv;have:v≠m:=fun e=>hx (e▸hv)
    omega
   omega
theorem JM(fH:∀x∈es,x.f<n∧x.t<n∧x.f≠x.t∧-20000≤x.c∧x.c≤20000)(h:¬∃p,jt es p):∃i L c,i<n∧L.Nodup∧(∀v∈L,v<n)∧c<0∧Wk es i L i c:=by
 false_or_by_contra
 rename_i ew;have VD:∀i L c,i<n→L.Nodup→(∀v∈L,v<n)→Wk es i L i c→0≤c:=fun i L c h1 h2 h3 h4=>Int.not_lt.1 fun h5=>ew ⟨i,L,c,h1,h2,h3,h5,h4⟩
 let S:Nat→Int→Prop:=fun v c=>c=0∨∃i L,(i::(L++[v])).Nodup∧(∀u∈i::L,u<n)∧Wk es i L v c
 have Fx:∀v,∃m,S v m∧∀k,S v k→m≤k:=fun v=>AN (B:= -(20000*(n+1:Int))) ⟨0,.inl rfl⟩ fun m hm=>by
  rcases hm with rfl|⟨i,L,h1,h2,h3⟩
  ·omega
  ·have h4:=(h3.bd fun x hx=>(fH x hx).2.2.2).1;have h5:L.length≤n:=sU (List.nodup_append.1 (List.nodup_cons.1 h1).2).1 fun u hu=>h2 u (.tail _ hu)
   omega
 have hp:=fun v=>Classical.choose_spec (Fx v)
 refine h ⟨fun v=>Classical.choose (Fx v),fun x hx=>?_⟩;obtain ⟨b1,b2,b3,b4,b5⟩:=fH x hx;have BM:Wk es x.f [] x.t x.c:=⟨x,hx,rfl,rfl,rfl⟩;have ht:=(hp x.t).2;show Classical.choose (Fx x.t)≤Classical.choose (Fx x.f)+x.c;generalize hpf:Classical.choose (Fx x.f)=pf;have hf:=(hp x.f).1;rw [hpf] at hf
 rcases hf with rfl|⟨i,L,h1,h2,h3⟩
 ·have:=ht x.c (.inr ⟨x.f,[],by simpa using b3,fun u hu=>by simp at hu;subst hu;exact b1,BM⟩);omega
 ·have h4:=h3.join BM;obtain ⟨n1,n2⟩:=List.nodup_cons.1 h1;by_cases hm:x.t∈i::(L++[x.f])
  ·simp only [List.mem_cons,List.mem_append,List.not_mem_nil,or_false] at hm
   rcases hm with e|hm|e
   ·
    subst e;have h5:=VD x.t (L++[x.f]) _ b2 n2 (fun u hu=>by
     simp only [List.mem_append,List.mem_cons,List.not_mem_nil,or_false] at hu
     rcases hu with hu|rfl
     ·exact h2 u (.tail _ hu)
     ·exact b1) h4
    have:=ht 0 (.inl rfl);omega
   ·obtain ⟨A,B,rfl⟩:=List.append_of_mem hm;obtain ⟨d,g1,g2⟩:=h3.split
    have n3:=n2;rw [List.append_assoc,List.cons_append] at n3;obtain ⟨m1,m2,m3⟩:=List.nodup_append.1 n3;have h5:=ht d (.inr ⟨i,A,List.nodup_cons.2 ⟨fun hi=>n1 (by
      simp only [List.mem_append,List.mem_cons,List.not_mem_nil,or_false] at hi ⊢
      rcases hi with hi|hi
      ·exact .inl (.inl hi)
      ·exact .inl (.inr (.inl hi))),List.nodup_append.2 ⟨m1,by simp,fun u hu v hv=>by
       simp only [List.mem_cons,List.not_mem_nil,or_false] at hv;subst hv;exact m3 u hu x.t (.head _)⟩⟩,fun u hu=>h2 u (by
      simp only [List.mem_append,List.mem_cons] at hu ⊢
      rcases hu with hu|hu
      ·exact .inl hu
      ·exact .inr (.inl hu)),g1⟩)
    have h6:=VD x.t (B++[x.f]) _ b2 (List.nodup_cons.1 m2).2 (fun u hu=>by
     simp only [List.mem_append,List.mem_cons,List.not_mem_nil,or_false] at hu
     rcases hu with hu|rfl
     ·exact h2 u (by simp only [List.mem_append,List.mem_cons];exact .inr (.inr (.inr hu)))
     ·exact b1) (g2.join BM)
    omega
   ·exact (b3 e.symm).elim
  ·have h5:=ht _ (.inr ⟨i,L++[x.f],by
     rw [←List.cons_append];refine List.nodup_append.2 ⟨h1,by simp,fun u hu v hv=>?_⟩;simp only [List.mem_cons,List.not_mem_nil,or_false] at hv;subst hv;rintro rfl;exact hm hu,fun u hu=>by
     simp only [List.mem_cons,List.mem_append,List.not_mem_nil,or_false] at hu
     rcases hu with rfl|hu|rfl
     ·exact h2 _ (.head _)
     ·exact h2 u (.tail _ hu)
     ·exact b1,h4⟩)
   omega
structure CF(n:Nat)(es:List Arc)(m:Nat)(Dn:Nat→Nat→Prop)(T:Nat→Nat→Int):Prop where
 lo:∀i j,i<n→j<n→T i j≠free→∀p,jt es p→p j - p i≤T i j
 dg:∀i,i<n→T i i≤0
 cl:∀i j,i<n→j<n→-2560000≤T i j
 up:∀i j,i<n→j<n→T i j≠free→T i j≤3000000
 upm:∀i,i<n→(T i m≠free→T i m≤1400000)∧(T m i≠free→T m i≤1400000)
 dom:∀i j,i<n→j<n→∀L c,L.Nodup→(∀v∈L,v<m∨(v=m∧Dn i j))→L.length≤100→Wk es i L j c→T i j≤c
 wit:∀i j,i<n→j<n→T i j≠free→i=j∨∃L c,(∀v∈L,v≤m)∧Wk es i L j c
theorem CF.step{Dn Dn':Nat→Nat→Prop}{T:Nat→Nat→Int}(h:CF n es m Dn T)(hb:∀x∈es,-20000≤x.c∧x.c≤20000)(hm:m<n){a b:Nat}(ha:a<n)(ZT:b<n)(hD:∀i j,Dn' i j→Dn i j∨(i=a∧j=b))(h1:T a m≠free)(h2:T m b≠free):
  CF n es m Dn' (EI T a b (max (min (T a b) (T a m+T m b)) (-2560000))):=by
 have Qw:=((h.upm a ha).1 h1);have Qv:=((h.upm b ZT).2 h2);have hc1:=h.cl a m ha hm;have ZH:=h.cl m b hm ZT;have hle:∀i j,i<n→j<n→EI T a b (max (min (T a b) (T a m+T m b)) (-2560000)) i j≤T i j:=fun i j hi hj=>by
  unfold EI;split
  ·rename_i e;obtain ⟨rfl,rfl⟩:=e;have:=h.cl i j hi hj;omega
  ·omega
 refine ⟨fun i j hi hj eG p hp=>?_,fun i hi=>?_,fun i j hi hj=>?_,fun i j hi hj eG=>?_,fun i hi=>⟨fun eG=>?_,fun eG=>?_⟩,fun i j hi hj L c tW hL hlen hw=>?_,fun i j hi hj eG=>?_⟩
 ·unfold EI at eG ⊢;split
  ·rename_i e;obtain ⟨rfl,rfl⟩:=e;have g1:=h.lo i m hi hm h1 p hp;have g2:=h.lo m j hm hj h2 p hp;by_cases g:T i j=free
   ·rw [g];simp only [free];omega
   ·have:=h.lo i j hi hj g p hp;omega
  ·rename_i e;rw [if_neg e] at eG;exact h.lo i j hi hj eG p hp
 ·exact Int.le_trans (hle i i hi hi) (h.dg i hi)
 ·unfold EI;split
  ·omega
  ·exact h.cl i j hi hj
 ·unfold EI at eG ⊢;split
  ·omega
  ·rename_i e;rw [if_neg e] at eG;exact h.up i j hi hj eG
 ·unfold EI at eG ⊢;split
  ·rename_i e;obtain ⟨rfl,rfl⟩:=e;have:=(h.upm i hi).1 h1;have:=h.dg m hm;omega
  ·rename_i e;rw [if_neg e] at eG;exact (h.upm i hi).1 eG
 ·unfold EI at eG ⊢;split
  ·rename_i e;obtain ⟨rfl,rfl⟩:=e;have:=(h.upm i hi).2 h2;have:=h.dg m hm;omega
  ·rename_i e;rw [if_neg e] at eG;exact (h.upm i hi).2 eG
 ·have IW:=(hw.bd hb).1;by_cases e:i=a∧j=b
  ·obtain ⟨rfl,rfl⟩:=e;unfold EI;rw [if_pos ⟨rfl,rfl⟩];by_cases RX:m∈L
   ·obtain ⟨A,B,rfl⟩:=List.append_of_mem RX;obtain ⟨d,g1,g2⟩:=hw.split
    obtain ⟨m1,m2,m3⟩:=List.nodup_append.1 tW;obtain ⟨m4,m5⟩:=List.nodup_cons.1 m2;simp only [List.length_append,List.length_cons] at hlen;have k1:=h.dom i m hi hm A d m1 (fun v hv=>by
     rcases hL v (by simp [hv]) with g|⟨g,_⟩
     ·exact .inl g
     ·exact (m3 v hv m (.head _) g).elim) (by omega) g1
    have k2:=h.dom m j hm hj B (c - d) m5 (fun v hv=>by
     rcases hL v (by simp [hv]) with g|⟨g,_⟩
     ·exact .inl g
     ·subst g;exact (m4 hv).elim) (by omega) g2
    simp only [List.length_append,List.length_cons] at IW;omega
   ·have:=h.dom i j hi hj L c tW (fun v hv=>by
     rcases hL v hv with g|⟨g,_⟩
     ·exact .inl g
     ·subst g;exact (RX hv).elim) hlen hw
    omega
  ·refine Int.le_trans (hle i j hi hj) (h.dom i j hi hj L c tW (fun v hv=>?_) hlen hw)
   rcases hL v hv with g|⟨g,g2⟩
   ·exact .inl g
   ·rcases hD i j g2 with g3|g3
    ·exact .inr ⟨g,g3⟩
    ·exact (e g3).elim
 ·by_cases e:i=a∧j=b
  ·obtain ⟨rfl,rfl⟩:=e
   rcases h.wit i m hi hm h1 with rfl|⟨A,c,k1,k2⟩
   ·exact h.wit i j hi hj h2
   ·rcases h.wit m j hm hj h2 with rfl|⟨B,d,k3,k4⟩
    ·exact h.wit i m hi hj h1
    ·refine .inr ⟨A++m::B,c+d,fun v hv=>?_,k2.join k4⟩;simp only [List.mem_append,List.mem_cons] at hv
     rcases hv with hv|rfl|hv
     ·exact k1 v hv
     ·exact Nat.le_refl _
     ·exact k3 v hv
  ·unfold EI at eG;rw [if_neg e] at eG;exact h.wit i j hi hj eG
theorem CF.skip{Dn Dn':Nat→Nat→Prop}{T:Nat→Nat→Int}(h:CF n es m Dn T)(hb:∀x∈es,-20000≤x.c∧x.c≤20000)(hm:m<n){P:Nat→Nat→Prop}(hD:∀i j,Dn' i j→Dn i j∨P i j)(h1:∀i j,i<n→j<n→P i j→T i m=free∨T m j=free):CF n es m Dn' T:=
 ⟨h.lo,h.dg,h.cl,h.up,h.upm,fun i j hi hj L c tW hL hlen hw=>by
  by_cases RX:m∈L
  ·rcases hL m RX with g|⟨_,g⟩
   ·omega
   ·rcases hD i j g with g2|g2
    ·exact h.dom i j hi hj L c tW (fun v hv=>by
      rcases hL v hv with k|⟨k,_⟩
      ·exact .inl k
      ·exact .inr ⟨k,g2⟩) hlen hw
    ·obtain ⟨A,B,rfl⟩:=List.append_of_mem RX;obtain ⟨d,g3,g4⟩:=hw.split
     obtain ⟨m1,m2,m3⟩:=List.nodup_append.1 tW;obtain ⟨m4,m5⟩:=List.nodup_cons.1 m2;simp only [List.length_append,List.length_cons] at hlen;have k1:=h.dom i m hi hm A d m1 (fun v hv=>by
      rcases hL v (by simp [hv]) with g|⟨g,_⟩
      ·exact .inl g
      ·exact (m3 v hv m (.head _) g).elim) (by omega) g3
     have k2:=h.dom m j hm hj B (c - d) m5 (fun v hv=>by
      rcases hL v (by simp [hv]) with g|⟨g,_⟩
      ·exact .inl g
      ·subst g;exact (m4 hv).elim) (by omega) g4
     have k3:=(g3.bd hb).2;have k4:=(g4.bd hb).2
     rcases h1 i j hi hj g2 with e|e
     ·rw [e] at k1;simp only [free] at k1;omega
     ·rw [e] at k2;simp only [free] at k2;omega
  ·exact h.dom i j hi hj L c tW (fun v hv=>by
    rcases hL v hv with k|⟨k,_⟩
    ·exact .inl k
    ·subst k;exact (RX hv).elim) hlen hw,h.wit⟩
theorem CF.small{T:Nat→Nat→Int}(h:CF n es m (fun _ _=>True) T)(hb:∀x∈es,-20000≤x.c∧x.c≤20000)(hm:m<65){i j:Nat}(hi:i<n)(hj:j<n)(eG:T i j≠free):T i j≤1400000:=by
 rcases h.wit i j hi hj eG with rfl|⟨L,c,h1,h2⟩
 ·have:=h.dg i hi;omega
 ·obtain ⟨L',c',k1,k2,k3⟩:=Wk.simple L.length (Nat.le_refl _) h2;have k4:L'.length≤m+1:=sU k1 fun v hv=>by have:=h1 v (k2 v hv);omega
  have k5:=h.dom i j hi hj L' c' k1 (fun v hv=>by have:=h1 v (k2 v hv);by_cases e:v=m;exact .inr ⟨e,trivial⟩;exact .inl (by omega)) (by omega) k3;have k6:=(k3.bd hb).2;omega
theorem CF.next{T:Nat→Nat→Int}(h:CF n es m (fun _ _=>True) T)(hb:∀x∈es,-20000≤x.c∧x.c≤20000)(hm:m+1<n)(hn:n≤65):CF n es (m+1) (fun _ _=>False) T:=
 ⟨h.lo,h.dg,h.cl,h.up,fun i hi=>⟨fun eG=>h.small hb (by omega) hi hm eG,fun eG=>h.small hb (by omega) hm hi eG⟩,fun i j hi hj L c tW hL hlen hw=>h.dom i j hi hj L c tW (fun v hv=>by
  rcases hL v hv with g|⟨_,g⟩
  ·by_cases e:v=m
   ·exact .inr ⟨e,trivial⟩
   ·exact .inl (by omega)
  ·exact g.elim) hlen hw,fun i j hi hj eG=>by
  rcases h.wit i j hi hj eG with g|⟨L,c,g1,g2⟩
  ·exact .inl g
  ·exact .inr ⟨L,c,fun v hv=>by have:=g1 v hv;omega,g2⟩⟩
structure ma(n:Nat)(es:List Arc)(T:Nat→Nat→Int):Prop where
 lo:∀i j,i<n→j<n→T i j≠free→∀p,jt es p→p j - p i≤T i j
 dg:∀i,i<n→T i i≤0
 cl:∀i j,i<n→j<n→-2560000≤T i j
 up:∀i j,i<n→j<n→T i j≠free→T i j≤1400000
 dom:∀i j,i<n→j<n→∀L c,L.Nodup→(∀v∈L,v<n)→Wk es i L j c→T i j≤c
theorem CF.done{T:Nat→Nat→Int}(h:CF n es m (fun _ _=>True) T)(hb:∀x∈es,-20000≤x.c∧x.c≤20000)(hm:n=m+1)(hn:n≤65):ma n es T:=
 ⟨h.lo,h.dg,h.cl,fun i j hi hj eG=>h.small hb (by omega) hi hj eG,fun i j hi hj L c tW hL hw=>h.dom i j hi hj L c tW (fun v hv=>by
  have:=hL v hv;by_cases e:v=m
  ·exact .inr ⟨e,trivial⟩
  ·exact .inl (by omega)) (by have:=sU tW hL;omega) hw⟩
variable{T:Nat→Nat→Int}
theorem ma.sound(h:ma n es T)(fH:∀x∈es,x.f<n∧x.t<n∧x.f≠x.t∧-20000≤x.c∧x.c≤20000):(∃p,jt es p)↔∀i,i<n→¬T i i<0:=by
 constructor
 ·rintro ⟨p,hp⟩ i hi fU;have:=h.lo i i hi hi (by simp only [free];omega) p hp;omega
 ·intro hd
  false_or_by_contra
  rename_i ew;obtain ⟨i,L,c,h1,h2,h3,h4,h5⟩:=JM fH ew;have:=h.dom i i h1 h1 L c h2 h3 h5;exact hd i h1 (by omega)
theorem ma.low(h:ma n es T)(hn:0<n)(yJ:n≤65)(fH:∀x∈es,x.f<n∧x.t<n∧x.f≠x.t∧-20000≤x.c∧x.c≤20000)(hp:∃p,jt es p){i j:Nat}(hi:i<n)(hj:j<n)(eG:T i j≠free): -1400000≤T i j:=by
 obtain ⟨p,hp⟩:=hp;obtain ⟨D,h1,h2,h3⟩:=hp.bounded (n:=n) (C:=20000) hn (by omega) fun x hx=>by have:=fH x hx;exact ⟨this.1,this.2.1,this.2.2.2.1⟩
 have h4:=h.lo i j hi hj eG D h1;have h5:=h2 i;have h6:=h3 j hj;have h7:(((n - 1:Nat):Int))≤64:=by omega
 omega
structure RA(n:Nat)(es:List Arc)(k:Nat)(T:Nat→Nat→Int):Prop where
 dg:∀i,i<n→T i i=0
 le:∀(i:Nat) (x:Arc),i<k→es[i]? =some x→T x.f x.t≤x.c
 of:∀i j,i<n→j<n→i≠j→T i j=free∨∃x∈es,x.f=i∧x.t=j∧x.c=T i j
theorem RA.step{k:Nat}{x:Arc}(h:RA n es k T)(fH:∀x∈es,x.f<n∧x.t<n∧x.f≠x.t∧-20000≤x.c∧x.c≤20000)(hx:es[k]? =some x):RA n es (k+1) (EI T x.f x.t (min (T x.f x.t) x.c)):=by
 have hm:=List.mem_of_getElem? hx;obtain ⟨b1,b2,b3,b4,b5⟩:=fH x hm;refine ⟨fun i hi=>?_,fun i y hi hy=>?_,fun i j hi hj OW=>?_⟩
 ·unfold EI;rw [if_neg (by omega)];exact h.dg i hi
 ·unfold EI;by_cases e:y.f=x.f∧y.t=x.t
  ·rw [if_pos e];by_cases e2:i=k
   ·subst e2;rw [hx] at hy;cases hy;omega
   ·have:=h.le i y (by omega) hy;rw [e.1,e.2] at this;omega
  ·rw [if_neg e];by_cases e2:i=k
   ·subst e2;rw [hx] at hy;cases hy;exact (e ⟨rfl,rfl⟩).elim
   ·exact h.le i y (by omega) hy
 ·unfold EI;split
  ·rename_i e
   rcases h.of x.f x.t b1 b2 b3 with g|⟨y,g1,g2,g3,g4⟩
   ·refine .inr ⟨x,hm,e.1.symm,e.2.symm,?_⟩;rw [g];simp only [free];omega
   ·by_cases hle:T x.f x.t≤x.c
    ·exact .inr ⟨y,g1,by rw [g2,e.1],by rw [g3,e.2],by omega⟩
    ·exact .inr ⟨x,hm,e.1.symm,e.2.symm,by omega⟩
  ·exact h.of i j hi hj OW
theorem RA.go(h:RA n es es.length T)(fH:∀x∈es,x.f<n∧x.t<n∧x.f≠x.t∧-20000≤x.c∧x.c≤20000)(hn:0<n):CF n es 0 (fun _ _=>False) T:=by
 have QE:∀i j,i<n→j<n→T i j≠free→i=j∨∃x∈es,x.f=i∧x.t=j∧x.c=T i j:=fun i j hi hj eG=>by
  by_cases e:i=j
  ·exact .inl e
  ·rcases h.of i j hi hj e with g|g
   ·exact (eG g).elim
   ·exact .inr g
 have LG:∀i j,i<n→j<n→T i j≠free→T i j≤20000:=fun i j hi hj eG=>by
  rcases QE i j hi hj eG with rfl|⟨x,g1,g2,g3,g4⟩
  ·have:=h.dg i hi;omega
  ·have:=fH x g1;omega
 refine ⟨fun i j hi hj eG p hp=>?_,fun i hi=>by rw [h.dg i hi];omega,fun i j hi hj=>?_,fun i j hi hj eG=>by have:=LG i j hi hj eG;omega,fun i hi=>⟨fun eG=>by have:=LG i 0 hi hn eG;omega,fun eG=>by have:=LG 0 i hn hi eG;omega⟩,fun i j hi hj L c tW hL hlen hw=>?_,fun i j hi hj eG=>?_⟩
 ·rcases QE i j hi hj eG with rfl|⟨x,g1,g2,g3,g4⟩
  ·rw [h.dg i hi];omega
  ·have:=hp x g1;rw [g2,g3,g4] at this;omega
 ·by_cases e:T i j=free
  ·rw [e];simp only [free];omega
  ·rcases QE i j hi hj e with rfl|⟨x,g1,g2,g3,g4⟩
   ·rw [h.dg i hi];omega
   ·have:=fH x g1;omega
 ·cases L with
  |nil=>
   obtain ⟨x,g1,g2,g3,g4⟩:=hw;obtain ⟨k,hk⟩:=List.getElem?_of_mem g1;have:=h.le k x (List.getElem?_eq_some_iff.1 hk).1 hk;rw [g2,g3,g4] at this;exact this
  |cons v L=>
   rcases hL v (.head _) with g|⟨_,g⟩
   ·omega
   ·exact g.elim
 ·rcases QE i j hi hj eG with g|⟨x,g1,g2,g3,g4⟩
  ·exact .inl g
  ·exact .inr ⟨[],x.c,⟨fun _ h=>(by cases h),x,g1,g2,g3,rfl⟩⟩
end Go.MW
namespace Go.MW
variable{n:Nat}{es:List Arc}{wt:Nat→Int}{ts lf:List Int}{D:Nat→Int}{s:BS}
theorem CG.ends{as:List Arc}{S:Nat→Prop}(hg:VG n as D):∀(m:Nat) {Dn:Arc→Prop} {again:Bool} {s:BS},CG n as S D Dn again s→WMv n D s≤m→∃s',CG n as S D (fun _=>True) false s':=by
 intro m
 induction m with
 |zero=>
  intro Dn again s h hm;by_cases hx:∃x∈as,gi s.cost x.f<free∧s.can x
  ·obtain ⟨x,h1,h2,h3⟩:=hx;have:=h.less hg h1 h2 h3;omega
  ·exact ⟨s,h.lc,h.lb,h.lo,h.top,h.up,h.src,h.by1,h.dep,fun _ x h1 _ h2=>hx ⟨x,h1,h2⟩⟩
 |succ m ih=>
  intro Dn again s h hm;by_cases hx:∃x∈as,gi s.cost x.f<free∧s.can x
  ·obtain ⟨x,h1,h2,h3⟩:=hx;have:=h.less hg h1 h2 h3;exact ih (h.Dd (Dn':=Dn) hg h1 h2 h3) (by omega)
  ·exact ⟨s,h.lc,h.lb,h.lo,h.top,h.up,h.src,h.by1,h.dep,fun _ x h1 _ h2=>hx ⟨x,h1,h2⟩⟩
def RM(es:List Arc)(n:Nat):Prop:=∀x∈es,x.f<n∧x.t<n∧-1400000≤x.c∧x.c≤1400000∧0≤x.l∧x.f≠x.t
theorem Az(hn:0<n)(yJ:n≤65)(ho:RM es n)(h:Cv n es wt ts lf){to:Nat}(tV:to<n)(hp:0<gi lf to):(∃R:Nat→Prop,(∀v<n,gi lf v<0→R v)∧(∀x∈dY es ts,R x.f→R x.t)∧¬R to)∨∃p u,p.length<n∧Rz es ts lf n p u to:=by
 obtain ⟨D,hg⟩:=Mn hn yJ ho h.lt.symm h.fe;have TM:RC n lf n ⟨(List.range n).map fun v=>if gi lf v<0 then 0 else free,List.replicate n ⟨0,0,0,-1⟩⟩:=
  ⟨by simp,by simp,fun v hv=>by
   by_cases e:gi lf v<0<;>simp only [gi,List.getD] at e ⊢<;>simp [hv,e],fun v hv=>kF n _ hv⟩
 obtain ⟨s,hs⟩:=CG.ends hg _ (TM.inv (Dn:=fun _=>False) hg) (Nat.le_refl _);by_cases ht:gi s.cost to<free
 ·obtain ⟨k,c,u,h1,h2,h3,h4,h5,h6⟩:=hs.back hg tV ht hp;exact .inr ⟨_,u,by rw [List.length_reverse,kx];exact h3,h6 _ rfl⟩
 ·refine .inl ⟨fun v=>gi s.cost v<free,fun v hv hl=>by have:=hs.src v hv hl;simp only [free];omega,hs.closed hg,ht⟩
theorem FR(hn:0<n)(yJ:n≤65)(ho:RM es n)(hN:G9 es)(h0:aZ wt n=0):∀(m:Nat) {ts lf:List Int},Cv n es wt ts lf→(rem n lf).toNat≤m→(∃ts,wm n es wt ts)∨sj es wt n:=by
 have fH:∀x∈es,x.f<n∧x.t<n:=fun x hx=>by have:=ho x hx;omega
 intro m
 induction m with
 |zero=>
  intro ts lf h hm;have h3:0≤rem n lf:=db fun v _=>by omega
  by_cases hx:∃v,v<n∧0<gi lf v
  ·obtain ⟨v,hv,hl⟩:=hx
   rcases Az hn yJ ho h hv hl with ⟨R,g1,g2,g3⟩|⟨p,u,g1,g2⟩
   ·exact .inr (h.open fH g1 g2 hv g3 hl)
   ·have g4:=h.send hN g2 (by omega);have:0≤rem n (Fo lf (vP es ts lf p u v) u v):=db fun v _=>by omega
    omega
  ·exact .inl ⟨ts,h.ok fH h0 fun v hv=>Int.not_lt.1 fun hl=>hx ⟨v,hv,hl⟩⟩
 |succ m ih=>
  intro ts lf h hm;by_cases hx:∃v,v<n∧0<gi lf v
  ·obtain ⟨v,hv,hl⟩:=hx
   rcases Az hn yJ ho h hv hl with ⟨R,g1,g2,g3⟩|⟨p,u,g1,g2⟩
   ·exact .inr (h.open fH g1 g2 hv g3 hl)
   ·have g4:=h.send hN g2 (by omega);have:0≤rem n (Fo lf (vP es ts lf p u v) u v):=db fun v _=>by omega
    exact ih g4.1 (by omega)
  ·exact .inl ⟨ts,h.ok fH h0 fun v hv=>Int.not_lt.1 fun hl=>hx ⟨v,hv,hl⟩⟩
theorem KX{l m:List Int}(h:l.length=m.length)(h2:∀k<l.length,gi l k=gi m k):l=m:=by
 apply List.ext_getElem?;intro k;by_cases hk:k<l.length
 ·rw [ck hk,ck (by omega),h2 k hk]
 ·rw [List.getElem?_eq_none (by omega),List.getElem?_eq_none (by omega)]
variable{M F:Nat→Nat→Int}
end Go.MW
namespace Go.MW
theorem Ow:∀(n:Nat) (f:Nat→Nat),(∀i,i≤n→f i<n)→∃i j,i<j∧j≤n∧f i=f j
 |0,f,h=>absurd (h 0 (Nat.le_refl 0)) (by omega)
 |n+1,f,h=>by
  by_cases hc:∃i,i≤n∧f i=f (n+1)
  ·obtain ⟨i,h1,h2⟩:=hc;exact ⟨i,n+1,by omega,by omega,h2⟩
  ·have eG:∀i,i≤n→f i≠f (n+1):=fun i hi e=>hc ⟨i,hi,e⟩
   obtain ⟨i,j,h1,h2,h3⟩:=Ow n (fun i=>if f i=n then f (n+1) else f i) (fun i hi=>by
    have h4:=h i (by omega);have h5:=h (n+1) (by omega);have h6:=eG i hi;split<;>omega)
   refine ⟨i,j,h1,by omega,?_⟩;have h4:=eG i (by omega);have h5:=eG j (by omega);split at h3<;>split at h3<;>omega
def rA(b:List Arc)(v:Nat):Nat→Nat
 |0=>v
 |k+1=>(ga b (rA b v k)).f
variable{b:List Arc}{n v:Nat}
theorem xv(b:List Arc)(v i:Nat):∀j,rA b v (i+j)=rA b (rA b v i) j
 |0=>rfl
 |j+1=>by
  show (ga b (rA b v (i+j))).f=_;rw [xv b v i j];rfl
theorem Bx(h:∀v<n,(ga b v).f<n)(hv:v<n):∀k,rA b v k<n
 |0=>hv
 |k+1=>h _ (Bx h hv k)
theorem HH(h:∀v<n,(ga b v).f<n)(hv:v<n){m:Nat}(hm:n≤m):∃p,1≤p∧p≤n∧rA b (rA b v m) p=rA b v m:=by
 obtain ⟨i,j,h1,h2,h3⟩:=Ow n (rA b v) (fun i _=>Bx h hv i);refine ⟨j - i,by omega,by omega,?_⟩;have e:rA b v m=rA b (rA b v i) (m - i):=by rw [←xv,show i+(m - i)=m by omega]
 have e2:rA b v (m+(j - i))=rA b (rA b v j) (m - i):=by rw [←xv,show j+(m - i)=m+(j - i) by omega]
 rw [←xv,e2,←h3,←e]
def BK(b:List Arc)(z:Nat)(k:Nat):List Int:=(List.range k).map fun i=>(ga b (rA b z i)).l
theorem AP(b:List Arc)(z k:Nat):BK b z (k+1)=BK b z k++[(ga b (rA b z k)).l]:=by simp [BK,List.range_succ]
theorem pz(b:List Arc)(z k:Nat):(BK b z k).length=k:=by simp [BK]
def pT(l L:List Int)(i:Nat):Prop:=L.length=l.length∧∀k<l.length,gi L k=if k<i∨l.length - i≤k then gi l (l.length - 1 - k) else gi l k
theorem pT.start(l:List Int):pT l l 0:=⟨rfl,fun k hk=>by rw [if_neg (by omega)]⟩
theorem pT.step{l L:List Int}{i:Nat}(h:pT l L i)(hi:2*i+1<l.length):pT l ((L.set i (gi L (l.length - 1 - i))).set (l.length - 1 - i) (gi L i)) (i+1):=by
 obtain ⟨h1,h2⟩:=h;refine ⟨by simp [h1],fun k hk=>?_⟩;rw [iI (by simp [h1];omega),iI (by omega)];have e1:=h2 i (by omega);have e2:=h2 (l.length - 1 - i) (by omega);rw [if_neg (by omega)] at e1 e2;by_cases c1:k=l.length - 1 - i
 ·rw [if_pos c1,if_pos (by omega),e1];congr 1;omega
 ·rw [if_neg c1];by_cases c2:k=i
  ·rw [if_pos c2,if_pos (by omega),e2];congr 1;omega
  ·rw [if_neg c2,h2 k hk];by_cases c3:k<i∨l.length - i≤k
   ·rw [if_pos c3,if_pos (by omega)]
   ·rw [if_neg c3,if_neg (by omega)]
theorem pT.done{l L:List Int}{i:Nat}(h:pT l L i)(hi:l.length≤2*i+1):L=l.reverse:=by
 refine List.ext_getElem? fun k=>?_
 by_cases hk:k<l.length
 ·have h2:=h.2 k hk;have e:gi L k=gi l (l.length - 1 - k):=by
   rw [h2];by_cases c:k<i∨l.length - i≤k
   ·rw [if_pos c]
   ·rw [if_neg c];congr 1;omega
  rw [List.getElem?_reverse hk,List.getElem?_eq_getElem (by rw [h.1];exact hk),List.getElem?_eq_getElem (by omega)];simp only [gi,List.getD,List.getElem?_eq_getElem (show k<L.length by rw [h.1];exact hk),List.getElem?_eq_getElem (show l.length - 1 - k<l.length by omega),Option.getD_some] at e;rw [e]
 ·rw [List.getElem?_eq_none (by rw [h.1];omega),List.getElem?_eq_none (by simp;omega)]
end Go.MW
namespace Go.MW
variable{n:Nat}{es:List Arc}{T:Nat→Nat→Int}{p:Nat→Int}
theorem VY:∀L:List Nat,¬L.Nodup→∃A v B D,L=A++v::(B++v::D):=by
 intro L
 induction L with
 |nil=>exact fun h=>(h .nil).elim
 |cons v L ih=>
  intro h;by_cases hv:v∈L
  ·obtain ⟨B,D,rfl⟩:=List.append_of_mem hv;exact ⟨[],v,B,D,rfl⟩
  ·have:¬L.Nodup:=fun g=>h (List.nodup_cons.2 ⟨hv,g⟩)
   obtain ⟨A,u,B,D,rfl⟩:=ih this;exact ⟨v::A,u,B,D,rfl⟩
theorem Wk.P1(hp:jt es p):∀(m:Nat) {L:List Nat} {i j:Nat} {c:Int},L.length≤m→Wk es i L j c→∃L' c',L'.Nodup∧(∀v∈L',v∈L)∧c'≤c∧Wk es i L' j c':=by
 intro m
 induction m with
 |zero=>
  intro L i j c hl h;obtain rfl:L=[]:=List.length_eq_zero_iff.1 (by omega);exact ⟨[],c,.nil,fun _ h=>h,Int.le_refl c,h⟩
 |succ m ih=>
  intro L i j c hl h;by_cases tW:L.Nodup
  ·exact ⟨L,c,tW,fun _ h=>h,Int.le_refl c,h⟩
  ·obtain ⟨A,v,B,D,rfl⟩:=VY L tW;obtain ⟨d,g1,g2⟩:=h.split
   obtain ⟨e,g3,g4⟩:=g2.split
   have h0:=g3.Po hp;obtain ⟨L',c',k1,k2,k4,k3⟩:=ih (L:=A++v::D) (by simp at hl ⊢;omega) (g1.join g4);refine ⟨L',c',k1,fun u hu=>?_,by omega,k3⟩;have:=k2 u hu;simp only [List.mem_append,List.mem_cons] at this ⊢
   rcases this with h|h|h
   ·exact .inl h
   ·exact .inr (.inl h)
   ·exact .inr (.inr (.inr (.inr h)))
theorem Wk.mem(fH:∀x∈es,x.f<n∧x.t<n∧x.f≠x.t∧-20000≤x.c∧x.c≤20000){L:List Nat}:∀{i j:Nat} {c:Int},Wk es i L j c→∀v∈L,v<n:=by
 induction L with
 |nil=>exact fun _ _ h=>by cases h
 |cons u L ih=>
  rintro i j c ⟨x,h1,h2,rfl,h4⟩ v hv
  rcases List.mem_cons.1 hv with rfl|hv
  ·exact (fH x h1).2.1
  ·exact ih h4 v hv
theorem ma.Qr(h:ma n es T)(fH:∀x∈es,x.f<n∧x.t<n∧x.f≠x.t∧-20000≤x.c∧x.c≤20000)(hp:jt es p){i j:Nat}(hi:i<n)(hj:j<n){L:List Nat}{c:Int}(hw:Wk es i L j c):T i j≤c:=by
 obtain ⟨L',c',k1,k2,k4,k3⟩:=hw.P1 hp L.length (Nat.le_refl _);have:=h.dom i j hi hj L' c' k1 (k3.mem fH) k3;omega
theorem Eo(f:Arc→Int):∀es:List Arc,∃K,∀x∈es,f x≤K
 |[]=>⟨0,fun _ h=>by cases h⟩
 |y::es=>by
  obtain ⟨K,hK⟩:=Eo f es;refine ⟨max K (f y),fun x hx=>?_⟩
  rcases List.mem_cons.1 hx with rfl|hx
  ·omega
  ·have:=hK x hx;omega
theorem ma.walk(h:ma n es T)(hp:jt es p){i j:Nat}(hi:i<n)(hj:j<n)(eG:T i j≠free)(OW:j≠i):∃L c,Wk es i L j c∧c≤T i j:=by
 have Kf:∀v m,((v=i∧m=0)∨∃L,Wk es i L v m)→p v - p i≤m:=by
  rintro v m (⟨rfl,rfl⟩|⟨L,hL⟩)
  ·omega
  ·exact hL.Po hp
 have hex:∀v,∃m:Int,(∃k,(v=i∧k=0)∨∃L,Wk es i L v k)→((v=i∧m=0)∨∃L,Wk es i L v m)∧∀k,((v=i∧k=0)∨∃L,Wk es i L v k)→m≤k:=by
  intro v;by_cases hv:∃k:Int,(v=i∧k=0)∨∃L,Wk es i L v k
  ·obtain ⟨m,h1,h2⟩:=AN (S:=fun k=>(v=i∧k=0)∨∃L,Wk es i L v k) hv (Kf v);exact ⟨m,fun _=>⟨h1,h2⟩⟩
  ·exact ⟨0,fun g=>(hv g).elim⟩
 obtain ⟨q,hq⟩:=Classical.axiomOfChoice hex;obtain ⟨K,hK⟩:=Eo (fun x=>q x.t - p x.f - x.c) es;have fc:∀x∈es,(∃k:Int,(x.f=i∧k=0)∨∃L,Wk es i L x.f k)→(∃k:Int,(x.t=i∧k=0)∨∃L,Wk es i L x.t k)∧q x.t≤q x.f+x.c:=by
  intro x hx hf;have hw:∃L,Wk es i L x.t (q x.f+x.c):=by
   rcases (hq x.f hf).1 with ⟨e1,e2⟩|⟨L,hL⟩
   ·exact ⟨[],x,hx,e1,rfl,by omega⟩
   ·exact ⟨L++x.f::[],hL.join (B:=[]) ⟨x,hx,rfl,rfl,rfl⟩⟩
  have ht:∃k:Int,(x.t=i∧k=0)∨∃L,Wk es i L x.t k:=⟨_,.inr hw⟩;exact ⟨ht,(hq x.t ht).2 _ (.inr hw)⟩
 have VB:∀M,K≤M→jt es (fun v=>open Classical in if ∃k:Int,(v=i∧k=0)∨∃L,Wk es i L v k then q v else p v+M):=by
  intro M hM x hx;dsimp only;by_cases hf:∃k:Int,(x.f=i∧k=0)∨∃L,Wk es i L x.f k
  ·obtain ⟨ht,hle⟩:=fc x hx hf;rw [if_pos hf,if_pos ht];omega
  ·rw [if_neg hf];by_cases ht:∃k:Int,(x.t=i∧k=0)∨∃L,Wk es i L x.t k
   ·rw [if_pos ht];have:=hK x hx;omega
   ·rw [if_neg ht];have:=hp x hx;omega
 have Xi:∃k:Int,(i=i∧k=0)∨∃L,Wk es i L i k:=⟨0,.inl ⟨rfl,rfl⟩⟩;have hqi:q i≤0:=(hq i Xi).2 0 (.inl ⟨rfl,rfl⟩);by_cases hr:∃k:Int,(j=i∧k=0)∨∃L,Wk es i L j k
 ·have h1:=h.lo i j hi hj eG _ (VB K (Int.le_refl K));rw [if_pos hr,if_pos Xi] at h1
  rcases (hq j hr).1 with ⟨e1,_⟩|⟨L,hL⟩
  ·exact (OW e1).elim
  ·exact ⟨L,q j,hL,by omega⟩
 ·have h1:=h.lo i j hi hj eG _ (VB (max K (T i j - p j+1)) (by omega));rw [if_neg hr,if_pos Xi] at h1;omega
theorem ma.tri(h:ma n es T)(fH:∀x∈es,x.f<n∧x.t<n∧x.f≠x.t∧-20000≤x.c∧x.c≤20000)(hp:jt es p){i m k:Nat}(hi:i<n)(hm:m<n)(hk:k<n)(h1:T i m≠free)(h2:T m k≠free):T i k≤T i m+T m k:=by
 have hd:∀v,v<n→T v v=0:=fun v hv=>by
  have e1:=h.dg v hv;have e2:=h.lo v v hv hv (by simp only [free];omega) p hp;omega
 by_cases e1:m=i
 ·subst e1;rw [hd m hm];omega
 by_cases e2:k=m
 ·subst e2;rw [hd k hk];omega
 obtain ⟨L1,c1,w1,l1⟩:=h.walk hp hi hm h1 e1;obtain ⟨L2,c2,w2,l2⟩:=h.walk hp hm hk h2 e2;by_cases e3:k=i
 ·subst e3;have:=w1.Po hp;have:=w2.Po hp;rw [hd k hk];omega
 have:=h.Qr fH hp hi hk (w1.join w2);omega
end Go.MW
namespace Go.MW
variable{b k:Nat}
variable{n:Nat}{es:List Arc}{T:Nat→Nat→Int}{X:List Int}
structure PtI(n:Nat)(T:Nat→Nat→Int)(X:List Int):Prop where
 l0:0<X.length
 l1:X.length≤n
 zero:gi X 0=0
 bd:∀v<X.length,-(1400000*(v:Int))≤gi X v∧gi X v≤1400000*(v:Int)
 ok:∀i j,i<X.length→j<X.length→T i j≠free→gi X j - gi X i≤T i j
def LoI(T:Nat→Nat→Int)(X:List Int)(b k:Nat)(z:Int):Prop:=(∀a<k,T b a≠free→gi X a - T b a≤z)∧((z= -free∧∀a<k,T b a=free)∨∃a,a<k∧T b a≠free∧z=gi X a - T b a)
def HiI(T:Nat→Nat→Int)(X:List Int)(b k:Nat)(z:Int):Prop:=(∀a<k,T a b≠free→z≤gi X a+T a b)∧((z=free∧∀a<k,T a b=free)∨∃a,a<k∧T a b≠free∧z=gi X a+T a b)
theorem LoI.start(T:Nat→Nat→Int)(X:List Int)(b:Nat):LoI T X b 0 (-free):=⟨fun a ha=>by omega,.inl ⟨rfl,fun a ha=>by omega⟩⟩
theorem HiI.start(T:Nat→Nat→Int)(X:List Int)(b:Nat):HiI T X b 0 free:=⟨fun a ha=>by omega,.inl ⟨rfl,fun a ha=>by omega⟩⟩
theorem LoI.skip{z:Int}(h:LoI T X b k z)(hf:T b k=free):LoI T X b (k+1) z:=by
 refine ⟨fun a ha hn=>?_,?_⟩
 ·by_cases e:a=k
  ·subst e;exact (hn hf).elim
  ·exact h.1 a (by omega) hn
 ·rcases h.2 with ⟨h1,h2⟩|⟨a,h1,h2⟩
  ·exact .inl ⟨h1,fun a ha=>by
    by_cases e:a=k
    ·subst e;exact hf
    ·exact h2 a (by omega)⟩
  ·exact .inr ⟨a,by omega,h2⟩
theorem HiI.skip{z:Int}(h:HiI T X b k z)(hf:T k b=free):HiI T X b (k+1) z:=by
 refine ⟨fun a ha hn=>?_,?_⟩
 ·by_cases e:a=k
  ·subst e;exact (hn hf).elim
  ·exact h.1 a (by omega) hn
 ·rcases h.2 with ⟨h1,h2⟩|⟨a,h1,h2⟩
  ·exact .inl ⟨h1,fun a ha=>by
    by_cases e:a=k
    ·subst e;exact hf
    ·exact h2 a (by omega)⟩
  ·exact .inr ⟨a,by omega,h2⟩
theorem LoI.put{z:Int}(h:LoI T X b k z)(hf:T b k≠free)(hb: -free≤gi X k - T b k):LoI T X b (k+1) (max z (gi X k - T b k)):=by
 refine ⟨fun a ha hn=>?_,?_⟩
 ·by_cases e:a=k
  ·subst e;omega
  ·have:=h.1 a (by omega) hn;omega
 ·rcases h.2 with ⟨h1,h2⟩|⟨a,h1,h2,h3⟩
  ·exact .inr ⟨k,by omega,hf,by omega⟩
  ·by_cases e:z≤gi X k - T b k
   ·exact .inr ⟨k,by omega,hf,by omega⟩
   ·exact .inr ⟨a,by omega,h2,by omega⟩
theorem HiI.put{z:Int}(h:HiI T X b k z)(hf:T k b≠free)(hb:gi X k+T k b≤free):HiI T X b (k+1) (min z (gi X k+T k b)):=by
 refine ⟨fun a ha hn=>?_,?_⟩
 ·by_cases e:a=k
  ·subst e;omega
  ·have:=h.1 a (by omega) hn;omega
 ·rcases h.2 with ⟨h1,h2⟩|⟨a,h1,h2,h3⟩
  ·exact .inr ⟨k,by omega,hf,by omega⟩
  ·by_cases e:gi X k+T k b≤z
   ·exact .inr ⟨k,by omega,hf,by omega⟩
   ·exact .inr ⟨a,by omega,h2,by omega⟩
theorem PtI.start{n:Nat}(hn:0<n)(hd:0≤T 0 0):PtI n T [0] where
 l0:=by simp
 l1:=by simp;omega
 zero:=rfl
 bd:=fun v hv=>by
  obtain rfl:v=0:=by simp at hv;omega
  simp [gi]
 ok:=fun i j hi hj _=>by
  obtain rfl:i=0:=by simp at hi;omega
  obtain rfl:j=0:=by simp at hj;omega
  simp [gi,hd]
structure RD(n:Nat)(T:Nat→Nat→Int):Prop where
 n65:n≤65
 dg:∀i,i<n→T i i=0
 bd:∀i j,i<n→j<n→T i j≠free→-1400000≤T i j∧T i j≤1400000
 tri:∀i m k,i<n→m<n→k<n→T i m≠free→T m k≠free→T i k≠free∧T i k≤T i m+T m k
theorem ma.U7(h:ma n es T)(hn:0<n)(yJ:n≤65)(fH:∀x∈es,x.f<n∧x.t<n∧x.f≠x.t∧-20000≤x.c∧x.c≤20000)(hs:∃p,jt es p):RD n T where
 n65:=yJ
 dg:=fun v hv=>by
  obtain ⟨p,hp⟩:=hs;have e1:=h.dg v hv;have e2:=h.lo v v hv hv (by simp only [free];omega) p hp;omega
 bd:=fun i j hi hj eG=>⟨h.low hn yJ fH hs hi hj eG,h.up i j hi hj eG⟩
 tri:=fun i m k hi hm hk h1 h2=>by
  obtain ⟨p,hp⟩:=hs;have e:=h.tri fH hp hi hm hk h1 h2;have e1:=h.up i m hi hm h1;have e2:=h.up m k hm hk h2;have:free=1000000000:=rfl;exact ⟨by omega,e⟩
theorem PtI.le{lo hi:Int}(h:PtI n T X)(ht:RD n T)(hb:b<n)(LN:X.length=b)(h1:LoI T X b b lo)(h2:HiI T X b b hi)(hl:lo≠-free)(hh:hi≠free):lo≤hi:=by
 rcases h1.2 with ⟨e,_⟩|⟨a,a1,a2,a3⟩
 ·exact (hl e).elim
 rcases h2.2 with ⟨e,_⟩|⟨c,c1,c2,c3⟩
 ·exact (hh e).elim
 obtain ⟨t1,t2⟩:=ht.tri c b a (by omega) hb (by omega) c2 a2;have:=h.ok c a (by omega) (by omega) t1;omega
theorem BW(X:List Int)(z:Int)(v:Nat):gi (X++[z]) v=if v<X.length then gi X v else if v=X.length then z else 0:=by
 unfold gi;by_cases h1:v<X.length
 ·rw [if_pos h1];simp [List.getD,List.getElem?_append_left h1]
 ·rw [if_neg h1];by_cases h2:v=X.length
  ·subst h2;simp [List.getD]
  ·rw [if_neg h2];simp [List.getD];rw [List.getElem?_eq_none (by simp;omega)];rfl
theorem PtI.snoc{lo hi z:Int}(h:PtI n T X)(ht:RD n T)(hb:b<n)(LN:X.length=b)(h1:LoI T X b b lo)(h2:HiI T X b b hi)
  (hz:(lo≠-free∧hi≠free∧lo≤z∧z≤hi)∨(lo≠-free∧hi=free∧z=lo)∨(lo= -free∧hi≠free∧z=hi)∨(lo= -free∧hi=free∧z=0)):PtI n T (X++[z]):=by
 have hfr:free=1000000000:=rfl;have hl:∀a<b,T b a≠free→gi X a - T b a≤z:=fun a ha eG=>by
  have e1:=h1.1 a ha eG
  rcases hz with ⟨_,_,e2,_⟩|⟨_,_,e2⟩|⟨e2,_,_⟩|⟨e2,_,_⟩
  ·omega
  ·omega
  ·rcases h1.2 with ⟨_,g⟩|⟨a',g1,g2,g3⟩
   ·exact (eG (g a ha)).elim
   ·have:=ht.bd b a' hb (by omega) g2;have:=h.bd a' (by omega);have:=ht.n65;omega
  ·rcases h1.2 with ⟨_,g⟩|⟨a',g1,g2,g3⟩
   ·exact (eG (g a ha)).elim
   ·have:=ht.bd b a' hb (by omega) g2;have:=h.bd a' (by omega);have:=ht.n65;omega
 have hu:∀a<b,T a b≠free→z≤gi X a+T a b:=fun a ha eG=>by
  have e1:=h2.1 a ha eG
  rcases hz with ⟨_,_,_,e2⟩|⟨_,e2,_⟩|⟨_,_,e2⟩|⟨_,e2,_⟩
  ·omega
  ·rcases h2.2 with ⟨_,g⟩|⟨a',g1,g2,g3⟩
   ·exact (eG (g a ha)).elim
   ·have:=ht.bd a' b (by omega) hb g2;have:=h.bd a' (by omega);have:=ht.n65;omega
  ·omega
  ·rcases h2.2 with ⟨_,g⟩|⟨a',g1,g2,g3⟩
   ·exact (eG (g a ha)).elim
   ·have:=ht.bd a' b (by omega) hb g2;have:=h.bd a' (by omega);have:=ht.n65;omega
 have hzb: -(1400000*(b:Int))≤z∧z≤1400000*(b:Int):=by
  have k1:lo≠-free→-(1400000*(b:Int))≤lo∧lo≤1400000*(b:Int):=fun e=>by
   rcases h1.2 with ⟨g,_⟩|⟨a',g1,g2,g3⟩
   ·exact (e g).elim
   ·have:=ht.bd b a' hb (by omega) g2;have:=h.bd a' (by omega);omega
  have k2:hi≠free→-(1400000*(b:Int))≤hi∧hi≤1400000*(b:Int):=fun e=>by
   rcases h2.2 with ⟨g,_⟩|⟨a',g1,g2,g3⟩
   ·exact (e g).elim
   ·have:=ht.bd a' b (by omega) hb g2;have:=h.bd a' (by omega);omega
  rcases hz with ⟨e1,e2,_,_⟩|⟨e1,_,_⟩|⟨_,e2,_⟩|⟨_,_,e⟩
  ·have:=k1 e1;have:=k2 e2;omega
  ·have:=k1 e1;omega
  ·have:=k2 e2;omega
  ·omega
 have KM:=h.l0;refine ⟨by simp,by simp;omega,?_,fun v hv=>?_,fun i j Ko Fz eG=>?_⟩
 ·rw [BW,if_pos KM];exact h.zero
 ·rw [BW];simp at hv;by_cases e:v<X.length
  ·rw [if_pos e];exact h.bd v e
  ·rw [if_neg e,if_pos (by omega),show v=b by omega];exact hzb
 ·simp at Ko Fz;rw [BW,BW];by_cases ei:i<X.length
  ·by_cases ej:j<X.length
   ·rw [if_pos ei,if_pos ej];exact h.ok i j ei ej eG
   ·obtain rfl:j=b:=by omega
    rw [if_pos ei,if_neg ej,if_pos (by omega)];have:=hu i (by omega) eG;omega
  ·obtain rfl:i=b:=by omega
   by_cases ej:j<X.length
   ·rw [if_pos ej,if_neg ei,if_pos (by omega)];have:=hl j (by omega) eG;omega
   ·obtain rfl:j=i:=by omega
    have:=ht.dg j hb;omega
theorem PtI.Po(h:PtI n T X)(hl:X.length=n)(hw:ma n es T)(fH:∀x∈es,x.f<n∧x.t<n∧x.f≠x.t∧-20000≤x.c∧x.c≤20000):jt es (gi X):=fun x hx=>by
 obtain ⟨b1,b2,b3,b4,b5⟩:=fH x hx;have h1:=hw.dom x.f x.t b1 b2 [] x.c .nil (fun _ h=>by cases h) ⟨x,hx,rfl,rfl,rfl⟩;have h2:=h.ok x.f x.t (by omega) (by omega) (by simp only [free];omega);omega
def kY(lo hi p:Int):Int:=if lo≠-free then (if hi≠free then lo+p else lo) else if hi≠free then hi else 0
inductive RG(T:Nat→Nat→Int)(f:Int→Int→Int):List Int→Prop
 |start:RG T f [0]
 |snoc {X:List Int} {lo hi:Int} (h:RG T f X) (h1:LoI T X X.length X.length lo) (h2:HiI T X X.length X.length hi):RG T f (X++[kY lo hi (f (X.length - 1) (hi - lo+1))])
theorem RG.inv{f:Int→Int→Int}(hf:∀i n:Int,1≤n→0≤f i n∧f i n<n)(ht:RD n T)(h:RG T f X):X.length≤n→PtI n T X:=by
 induction h with
 |start=>exact fun hl=> .start (by simp at hl;omega) (by have:=ht.dg 0 (by simp at hl;omega);omega)
 | @snoc X lo hi h h1 h2 ih=>
  intro hl;simp at hl;have g:=ih (by omega);refine g.snoc ht (b:=X.length) (by omega) rfl h1 h2 ?_;unfold kY;by_cases e1:lo= -free
  ·by_cases e2:hi=free
   ·exact .inr (.inr (.inr ⟨e1,e2,by rw [if_neg (by omega),if_neg (by omega)]⟩))
   ·exact .inr (.inr (.inl ⟨e1,e2,by rw [if_neg (by omega),if_pos e2]⟩))
  ·by_cases e2:hi=free
   ·exact .inr (.inl ⟨e1,e2,by rw [if_pos e1,if_neg (by omega)]⟩)
   ·have e3:=g.le ht (by omega) rfl h1 h2 e1 e2;have e4:=hf (X.length - 1) (hi - lo+1) (by omega);rw [if_pos e1,if_pos e2];exact .inl ⟨e1,e2,by omega,by omega⟩
theorem LoI.bd{z:Int}(h:LoI T X b k z)(hI:PtI n T X)(ht:RD n T)(hb:b<n)(hk:k≤X.length): -free≤z∧z≤100000000:=by
 have:=ht.n65
 rcases h.2 with ⟨e,_⟩|⟨a,h1,h2,h3⟩
 ·simp only [free] at*;omega
 ·have:=hI.l1;have e1:=ht.bd b a hb (by omega) h2;have e2:=hI.bd a (by omega);simp only [free] at*;omega
theorem HiI.bd{z:Int}(h:HiI T X b k z)(hI:PtI n T X)(ht:RD n T)(hb:b<n)(hk:k≤X.length): -100000000≤z∧z≤free:=by
 have:=ht.n65
 rcases h.2 with ⟨e,_⟩|⟨a,h1,h2,h3⟩
 ·simp only [free] at*;omega
 ·have:=hI.l1;have e1:=ht.bd a b (by omega) hb h2;have e2:=hI.bd a (by omega);simp only [free] at*;omega
end Go.MW
namespace Go.MW
variable{α:Type}{k i b:Nat}{ts l xs:List Int}{most:Int}
structure bp where
 fn:Nat→Option Obj
 io:Option (Os×Array (Nat×ByteArray)×(Nat→Question→Nat)×Nat)
instance:CoeFun bp (fun _=>Nat→Option Obj):=⟨bp.fn⟩
def hp(w:World):bp:=⟨fun b=>w.heap[b]?,some (w.os,w.output,w.tape,w.drawn)⟩
def bp.bot:bp:=⟨fun _=>none,none⟩
def HLe(H H':bp):Prop:=(∀b o,H b=some o→H' b=some o)∧∀x,H.io=some x→H'.io=some x
theorem HLe.refl(H:bp):HLe H H:=⟨fun _ _ h=>h,fun _ h=>h⟩
theorem HLe.bot(H:bp):HLe .bot H:=⟨fun _ _ h=>(by cases h),fun _ h=>(by cases h)⟩
theorem HLe.trans{A B C:bp}(h:HLe A B)(k:HLe B C):HLe A C:=⟨fun b o e=>k.1 b o (h.1 b o e),fun x e=>k.2 x (h.2 x e)⟩
def cellAt(H:bp)(b off:Nat):Option Value:=
 match H b with
 |some (.cells c _ _)=>c[off]?
 |_=>none
theorem cellAt.mono{H H':bp}{off:Nat}{v:Value}(h:cellAt H b off=some v)(hl:HLe H H'):cellAt H' b off=some v:=by
 unfold cellAt at*
 cases hb:H b with
 |none=>simp [hb] at h
 |some o=>rw [hl.1 b o hb];rw [hb] at h;exact h
inductive Ent where
 |blk (b:Nat) (c:List Value)
 |obj (b:Nat) (o:Obj)
 |nul
def Ent.key:Ent→Option Nat
 | .blk b _=>some b
 | .obj b _=>some b
 | .nul=>none
def Ent.sat(w:World):Ent→Prop
 | .blk b c=>∃T,w.heap[b]? =some (.cells c.toArray T (0,0))
 | .obj b o=>w.heap[b]? =some o
 | .nul=>True
def Ent.apart(e f:Ent):Prop:=∀b,e.key=some b→f.key=some b→False
structure St(H:bp)(w:World)(σ:List Ent):Prop where
 ro:∀b o,H b=some o→w.heap[b]? =some o
 own:∀e∈σ,e.sat w
 nd:σ.Pairwise Ent.apart
 dis:∀e∈σ,∀b,e.key=some b→H b=none
 io:∀x,H.io=some x→x.1=w.os∧x.2.1=w.output∧x.2.2.1=w.tape∧x.2.2.2≤w.drawn
theorem St.start(w:World):St (hp w) w []:=⟨fun _ _ h=>h,fun _ h=>(by cases h),.nil,fun _ h=>(by cases h),fun _ h=>(by cases h;exact ⟨rfl,rfl,rfl,Nat.le_refl _⟩)⟩
theorem Ent.sat.lt{w:World}{e:Ent}(h:e.sat w)(hk:e.key=some b):b<w.heap.size:=by
 cases e with
 |blk b' c=>simp only [Ent.key,Option.some.injEq] at hk;subst hk;obtain ⟨T,h⟩:=h;exact (Array.getElem?_eq_some_iff.1 h).1
 |obj b' o=>simp only [Ent.key,Option.some.injEq] at hk;subst hk;exact (Array.getElem?_eq_some_iff.1 h).1
 |nul=>cases hk
inductive Mem:List Ent→Ent→Prop
 |here {x:Ent} {l:List Ent}:Mem (x::l) x
 |there {x y:Ent} {l:List Ent} (h:Mem l x):Mem (y::l) x
theorem Mem.mem{l:List Ent}{x:Ent}(h:Mem l x):x∈l:=by
 induction h with
 |here=>exact .head _
 |there _ ih=>exact .tail _ ih
inductive Co:List Ent→Ent→List Ent→Prop
 |here {x:Ent} {l:List Ent}:Co (x::l) x l
 |there {x y:Ent} {l r:List Ent} (h:Co l x r):Co (y::l) x (y::r)
inductive Upd:List Ent→Ent→Ent→List Ent→Prop
 |here {x y:Ent} {l:List Ent}:Upd (x::l) x y (y::l)
 |there {x y z:Ent} {l r:List Ent} (h:Upd l x y r):Upd (z::l) x y (z::r)
inductive Sub:List Ent→List Ent→Prop
 |nil {l:List Ent}:Sub [] l
 |cons {x:Ent} {l r t:List Ent} (h:Co l x r) (k:Sub t r):Sub (x::t) l
theorem Co.perm{l:List Ent}{x:Ent}{r:List Ent}(h:Co l x r):l.Perm (x::r):=by
 induction h with
 |here=>exact .refl _
 |there _ ih=>exact (ih.cons _).trans (.swap _ _ _)
theorem Upd.kA{l:List Ent}{x y:Ent}{r:List Ent}(h:Upd l x y r):∃t,Co l x t∧Co r y t:=by
 induction h with
 |here=>exact ⟨_,.here,.here⟩
 |there _ ih=>obtain ⟨t,h1,h2⟩:=ih;exact ⟨_,.there h1,.there h2⟩
theorem Ent.IA{e f:Ent}(h:Ent.apart e f):Ent.apart f e:=fun b h1 h2=>h b h2 h1
theorem St.perm{H:bp}{w:World}{σ τ:List Ent}(hs:St H w σ)(h:σ.Perm τ):St H w τ:=
 ⟨hs.ro,fun e he=>hs.own e (h.mem_iff.2 he),(h.pairwise_iff (fun {_ _}=>Ent.IA)).1 hs.nd,fun e he=>hs.dis e (h.mem_iff.2 he),hs.io⟩
theorem St.pick{H:bp}{w:World}{σ:List Ent}{x:Ent}{r:List Ent}(hs:St H w σ)(h:Co σ x r):St H w (x::r):=hs.perm h.perm
theorem St.I1{H:bp}{w:World}{σ:List Ent}{x:Ent}{r:List Ent}(hs:St H w (x::r))(h:Co σ x r):St H w σ:=hs.perm h.perm.symm
theorem St.tail{H:bp}{w:World}{σ:List Ent}{x:Ent}(hs:St H w (x::σ)):St H w σ:=
 ⟨hs.ro,fun e he=>hs.own e (.tail _ he),(List.pairwise_cons.1 hs.nd).2,fun e he=>hs.dis e (.tail _ he),hs.io⟩
theorem St.nul{H:bp}{w:World}{σ:List Ent}(hs:St H w σ):St H w (.nul::σ):=
 ⟨hs.ro,fun e he=>(by cases he with|head=>trivial|tail _ he=>exact hs.own e he),
  List.pairwise_cons.2 ⟨fun _ _ b h _=>(by cases h),hs.nd⟩,
  fun e he b hb=>(by cases he with|head=>cases hb|tail _ he=>exact hs.dis e he b hb),hs.io⟩
theorem St.cons{H:bp}{w:World}{σ:List Ent}{x:Ent}(hs:St H w σ)(hx:x.sat w)(hd:∀b,x.key=some b→H b=none)(ha:∀y∈σ,Ent.apart x y):St H w (x::σ):=
 ⟨hs.ro,fun e he=>(by cases he with|head=>exact hx|tail _ he=>exact hs.own e he),
  List.pairwise_cons.2 ⟨ha,hs.nd⟩,
  fun e he b hb=>(by cases he with|head=>exact hd b hb|tail _ he=>exact hs.dis e he b hb),hs.io⟩
theorem Sub.st{σ τ:List Ent}(h:Sub τ σ):∀{H:bp} {w:World},St H w σ→St H w τ:=by
 induction h with
 |nil=>exact fun hs=>⟨hs.ro,fun e h=>(by cases h),.nil,fun e h=>(by cases h),hs.io⟩
 | @cons x l r t h k ih=>
  intro H w hs;have h1:=hs.pick h;have h2:=ih h1.tail;refine h2.cons (h1.own _ (.head _)) (h1.dis _ (.head _)) fun y hy=>(List.pairwise_cons.1 h1.nd).1 y ?_
  clear hs h1 h2 ih h
  induction k with
  |nil=>cases hy
  | @cons x l r t h k ih=>
   cases hy with
   |head=>exact h.perm.mem_iff.2 (.head _)
   |tail _ hy=>exact h.perm.mem_iff.2 (.tail _ (ih hy))
theorem St.sub{H:bp}{w:World}{σ τ:List Ent}(hs:St H w σ)(h:Sub τ σ):St H w τ:=h.st hs
inductive Suf:List Ent→List Ent→Prop
 |refl {l:List Ent}:Suf l l
 |cons {x:Ent} {l r:List Ent} (h:Suf r l):Suf r (x::l)
theorem St.out{H:bp}{w:World}{σ τ:List Ent}(hs:St H w σ)(h:Suf τ σ:=by repeat (first|exact .refl|refine .cons ?_)):St H w τ:=by
 induction h with
 |refl=>exact hs
 |cons _ ih=>exact ih hs.tail
theorem St.le{H H':bp}{w:World}{σ:List Ent}(hs:St H' w σ)(h:HLe H H'):St H w σ:=
 ⟨fun b o e=>hs.ro b o (h.1 b o e),hs.own,hs.nd,fun e he b hb=>(by
  cases hh:H b with
  |none=>rfl
  |some o=>have:=h.1 b o hh;rw [hs.dis e he b hb] at this;cases this),fun x hx=>hs.io x (h.2 x hx)⟩
def Row(H:bp)(b:Nat)(c:List Value):Prop:=∃T fz,H b=some (.cells c.toArray T fz)
theorem Row.mono{H H':bp}{c:List Value}(h:Row H b c)(hl:HLe H H'):Row H' b c:=by
 obtain ⟨T,fz,h⟩:=h;exact ⟨T,fz,hl.1 _ _ h⟩
theorem Row.cell{H:bp}{c:List Value}(h:Row H b c)(i:Nat):cellAt H b i=c[i]? :=by
 obtain ⟨T,fz,h⟩:=h;simp [cellAt,h]
theorem St.bG{H:bp}{w:World}{σ r:List Ent}{c:List Value}(hs:St H w σ)(h:Co σ (.blk b c) r):
  ∃H',HLe H H'∧Row H' b c∧St H' w r:=by
 have h1:=hs.pick h;obtain ⟨T,hb⟩:=h1.own _ (.head _);have hn:=h1.dis _ (.head _) b rfl;refine ⟨⟨fun k=>if k=b then some (.cells c.toArray T (0,0)) else H k,H.io⟩,⟨fun k o hk=>?_,fun _ h=>h⟩,⟨T,(0,0),by simp⟩,?_,h1.tail.own,h1.tail.nd,fun e he k hk=>?_,hs.io⟩
 ·show (if k=b then _ else _)=_;by_cases e:k=b
  ·subst e;rw [hn] at hk;cases hk
  ·simp only [e,if_false];exact hk
 ·intro k o hk;replace hk:(if k=b then _ else _)=_:=hk;by_cases e:k=b
  ·subst e;simp only [if_true,Option.some.injEq] at hk;rw [←hk];exact hb
  ·simp only [e,if_false] at hk;exact hs.ro k o hk
 ·show (if k=b then _ else _)=_;by_cases e':k=b
  ·subst e';exact ((List.pairwise_cons.1 h1.nd).1 e he k rfl hk).elim
  ·simp only [e',if_false];exact h1.tail.dis e he k hk
theorem St.fresh{H:bp}{w:World}{σ:List Ent}(hs:St H w σ):H w.heap.size=none:=by
 cases h:H w.heap.size with
 |none=>rfl
 |some o=>have:=(Array.getElem?_eq_some_iff.1 (hs.ro _ _ h)).1;omega
theorem Mg{w:World}{e:Ent}(h:e.sat w)(o:Obj):e.sat {w with heap:=w.heap.push o}:=by
 have key:∀b o',w.heap[b]? =some o'→(w.heap.push o)[b]? =some o':=fun b o' hb=>by
  have fU:=(Array.getElem?_eq_some_iff.1 hb).1;rw [Array.getElem?_push];simp [Nat.ne_of_lt fU,hb]
 cases e with
 |blk b c=>obtain ⟨T,h⟩:=h;exact ⟨T,key _ _ h⟩
 |obj b o=>exact key _ _ h
 |nul=>trivial
theorem St.push{H:bp}{w:World}{σ:List Ent}(hs:St H w σ)(o:Obj):St H {w with heap:=w.heap.push o} σ:=
 ⟨fun b o' hb=>by
  have h:=hs.ro b o' hb;have fU:=(Array.getElem?_eq_some_iff.1 h).1;show (w.heap.push o)[b]? =some o';rw [Array.getElem?_push];simp [Nat.ne_of_lt fU,h],fun e he=>Mg (hs.own e he) o,hs.nd,hs.dis,hs.io⟩
theorem St.new{H:bp}{w:World}{σ:List Ent}(hs:St H w σ)(o:Obj)(e:Ent)(hk:e.key=some w.heap.size)(he:e.sat {w with heap:=w.heap.push o}):
  St H {w with heap:=w.heap.push o} (e::σ):=
 (hs.push o).cons he (fun b hb=>by rw [hk] at hb;cases hb;exact hs.fresh) fun y hy b h1 h2=>by
  rw [hk] at h1;cases h1;have:=(hs.own y hy).lt h2;omega
theorem St.qf{H:bp}{w:World}{σ:List Ent}(hs:St H w σ)(c:Array Value)(T:TypeId):
  St H {w with heap:=w.heap.push (.cells c T)} (.blk w.heap.size c.toList::σ):=
 hs.new _ _ rfl ⟨T,by simp⟩
theorem St.newObj{H:bp}{w:World}{σ:List Ent}(hs:St H w σ)(o:Obj):
  St H {w with heap:=w.heap.push o} (.obj w.heap.size o::σ):=
 hs.new _ _ rfl (by simp [Ent.sat])
theorem St.drawn{H:bp}{w:World}{σ:List Ent}(hs:St H w σ)(n:Nat)(h:w.drawn≤n:=by first|exact Nat.le_succ _|omega):St H {w with drawn:=n} σ:=
 ⟨hs.ro,fun e he=>by have:=hs.own e he;cases e<;>exact this,hs.nd,hs.dis,fun x hx=>⟨(hs.io x hx).1,(hs.io x hx).2.1,(hs.io x hx).2.2.1,Nat.le_trans (hs.io x hx).2.2.2 h⟩⟩
theorem St.grown{W w':World}{H':bp}(hs:St H' w' [])(hl:HLe (hp W) H'):∃(q:Nat) (os':Array Obj),w'={W with drawn:=W.drawn+q,heap:=W.heap++os'}:=by
 obtain ⟨h1,h2,h3,h4⟩:=hs.io _ (hl.2 _ rfl);have Tp:∀b,b<W.heap.size→w'.heap[b]? =W.heap[b]? :=fun b hb=>by
  have hg:W.heap[b]? =some W.heap[b]:=Array.getElem?_eq_getElem hb;rw [hg];exact hs.ro _ _ (hl.1 _ _ hg)
 refine ⟨w'.drawn - W.drawn,w'.heap.extract W.heap.size w'.heap.size,?_⟩;have hle:W.heap.size≤w'.heap.size:=by
  rcases Nat.lt_or_ge w'.heap.size W.heap.size with h|h
  ·have:=Tp w'.heap.size h;rw [Array.getElem?_eq_none (Nat.le_refl _),Array.getElem?_eq_getElem h] at this;cases this
  ·exact h
 have hh:W.heap++w'.heap.extract W.heap.size w'.heap.size=w'.heap:=by
  apply Array.ext_getElem?;intro i;rw [Array.getElem?_append];by_cases hi:i<W.heap.size
  ·rw [if_pos hi,Tp i hi]
  ·rw [if_neg hi,Array.getElem?_extract];by_cases hj:i<w'.heap.size
   ·rw [if_pos (by omega),show W.heap.size+(i - W.heap.size)=i by omega]
   ·rw [if_neg (by omega),Array.getElem?_eq_none (by omega)]
 have hd:W.drawn+(w'.drawn - W.drawn)=w'.drawn:=by have:W.drawn≤w'.drawn:=h4;omega
 rw [hh,hd];cases w';cases W;simp only at h1 h2 h3;subst h1;subst h2;subst h3;rfl
theorem St.lt{H:bp}{w:World}{σ:List Ent}(hs:St H w σ){b:Nat}{c:List Value}(h:Mem σ (.blk b c)):b<w.heap.size:=
 (hs.own _ h.mem).lt rfl
theorem Ca{H:bp}{w:World}{σ:List Ent}(hs:St H w σ){b off:Nat}{v:Value}(h:cellAt H b off=some v):w.cell? ⟨b,off,none⟩=some v:=by
 unfold cellAt at h
 cases hb:H b with
 |none=>simp [hb] at h
 |some o=>
  rw [hb] at h;unfold World.cell?;rw [hs.ro b o hb];cases o<;>simp_all
theorem fP{H:bp}{w:World}{σ:List Ent}(hs:St H w σ){b:Nat}{c:List Value}(h:Mem σ (.blk b c))(off:Nat):w.cell? ⟨b,off,none⟩=c[off]? :=by
 obtain ⟨T,hb⟩:=hs.own _ h.mem;simp [World.cell?,hb]
theorem nN{H:bp}{w:World}{σ:List Ent}(hs:St H w σ){b:Nat}{c:List Value}(h:Mem σ (.blk b c))(off:Nat):w.frozen? ⟨b,off,none⟩=false:=by
 obtain ⟨T,hb⟩:=hs.own _ h.mem;simp [World.frozen?,hb]
theorem Upd.mem{l:List Ent}{x y:Ent}{r:List Ent}(h:Upd l x y r):Mem l x:=by
 induction h with
 |here=>exact .here
 |there _ ih=>exact .there ih
theorem St.setCell{H:bp}{w:World}{σ τ:List Ent}(hs:St H w σ){b off:Nat}{c:List Value}{v:Value}(h:Upd σ (.blk b c) (.blk b (c.set off v)) τ):
  St H (w.setCell ⟨b,off,none⟩ v) τ:=by
 obtain ⟨t,h1,h2⟩:=h.kA;have h3:=hs.pick h1;obtain ⟨T,hb⟩:=h3.own _ (.head _);have fU:=(Array.getElem?_eq_some_iff.1 hb).1;have eG:∀k,k≠b→(w.setCell ⟨b,off,none⟩ v).heap[k]? =w.heap[k]? :=fun k hk=>by
  show (w.heap.modify b _)[k]? =_;rw [Array.getElem?_modify];simp [Ne.symm hk]
 have qQ:(w.setCell ⟨b,off,none⟩ v).heap[b]? =some (.cells (c.set off v).toArray T (0,0)):=by
  show (w.heap.modify b _)[b]? =_;rw [Array.getElem?_modify];simp [hb]
 refine St.I1 ⟨fun k o hk=>?_,fun e he=>?_,?_,fun e he k hk=>?_,hs.io⟩ h2
 ·rw [eG k]
  ·exact hs.ro k o hk
  ·intro e;subst e;rw [h3.dis _ (.head _) k rfl] at hk;cases hk
 ·cases he with
  |head=>exact ⟨T,qQ⟩
  |tail _ he=>
   have h4:=h3.own e (.tail _ he);have h5:=(List.pairwise_cons.1 h3.nd).1 e he
   cases e with
   |blk b' c'=>obtain ⟨T',h4⟩:=h4;exact ⟨T',by rw [eG b' (fun e=>h5 b rfl (by rw [e];rfl))];exact h4⟩
   |obj b' o=>simp only [Ent.sat] at h4 ⊢;rw [eG b' (fun e=>h5 b rfl (by rw [e];rfl))];exact h4
   |nul=>trivial
 ·exact List.pairwise_cons.2 ⟨fun z hz k h1 h2=>(List.pairwise_cons.1 h3.nd).1 z hz k h1 h2,(List.pairwise_cons.1 h3.nd).2⟩
 ·cases he with
  |head=>exact h3.dis _ (.head _) k hk
  |tail _ he=>exact h3.dis e (.tail _ he) k hk
theorem St.putObj{H:bp}{w:World}{σ τ:List Ent}(hs:St H w σ){b:Nat}{o o':Obj}(h:Upd σ (.obj b o) (.obj b o') τ):
  St H {w with heap:=w.heap.setIfInBounds b o'} τ:=by
 obtain ⟨t,h1,h2⟩:=h.kA;have h3:=hs.pick h1;have hb:w.heap[b]? =some o:=h3.own _ (.head _);have fU:=(Array.getElem?_eq_some_iff.1 hb).1;have eG:∀k,k≠b→(w.heap.setIfInBounds b o')[k]? =w.heap[k]? :=fun k hk=>by
  rw [Array.getElem?_setIfInBounds_ne (Ne.symm hk)]
 refine St.I1 ⟨fun k o hk=>?_,fun e he=>?_,?_,fun e he k hk=>?_,hs.io⟩ h2
 ·rw [eG k]
  ·exact hs.ro k o hk
  ·intro e;subst e;rw [h3.dis _ (.head _) k rfl] at hk;cases hk
 ·cases he with
  |head=>simp [Ent.sat,fU]
  |tail _ he=>
   have h4:=h3.own e (.tail _ he);have h5:=(List.pairwise_cons.1 h3.nd).1 e he
   cases e with
   |blk b' c'=>obtain ⟨T',h4⟩:=h4;exact ⟨T',by rw [eG b' (fun e=>h5 b rfl (by rw [e];rfl))];exact h4⟩
   |obj b' o=>simp only [Ent.sat] at h4 ⊢;rw [eG b' (fun e=>h5 b rfl (by rw [e];rfl))];exact h4
   |nul=>trivial
 ·exact List.pairwise_cons.2 ⟨fun z hz k h1 h2=>(List.pairwise_cons.1 h3.nd).1 z hz k h1 h2,(List.pairwise_cons.1 h3.nd).2⟩
 ·cases he with
  |head=>exact h3.dis _ (.head _) k hk
  |tail _ he=>exact h3.dis e (.tail _ he) k hk
end Go.MW
namespace Go.MW
variable{i:Nat}
theorem q8{a b:Nat}(h:¬a=b):Nat.beq a b=false:=by
 cases e:Nat.beq a b with
 |false=>rfl
 |true=>exact absurd (Nat.eq_of_beq_eq_true e) h
def get:List (Nat×Value)→Nat→Option Value
 |[],_=>none
 |(k,v)::l,t=>bif Nat.beq k t then some v else get l t
structure FS where
 n:Nat
 ds:List Deferred
 e:List (Nat×Value)
def FS.ev(s:FS):Operand→Option Value
 | .tmp t=>get s.e t
 | .const v=>some v
 | .global g=>some (.pointer (some ⟨g,0,none⟩))
 | .func f=>some (.func (.func f) #[] #[])
def FS.put(s:FS)(d:Nat)(v:Value):FS:=⟨s.n,s.ds,(d,v)::s.e⟩
structure Sim(s:FS)(a:Act):Prop where
 size:a.tmps.size=s.n
 ds:a.defers=s.ds
 val:∀t v,get s.e t=some v→a.tmps.getD t undef=v
theorem Sim.ev{s:FS}{a:Act}(h:Sim s a){x:Operand}{v:Value}(hx:s.ev x=some v):a.eval x=v:=by
 cases x with
 |tmp t=>exact h.val t v hx
 |const c=>simp only [FS.ev,Option.some.injEq] at hx;exact hx
 |global g=>simp only [FS.ev,Option.some.injEq] at hx;exact hx
 |func f=>simp only [FS.ev,Option.some.injEq] at hx;exact hx
theorem Sim.put{s:FS}{a:Act}(h:Sim s a){d:Nat}(hd:Nat.blt d s.n=true)(v:Value):Sim (s.put d v) (a.put (some d) v):=by
 have fU:d<a.tmps.size:=by rw [h.size];simpa using hd
 refine ⟨by simp [Act.put,FS.put,h.size],by simp [Act.put,FS.put,h.ds],fun t u ht=>?_⟩;simp only [FS.put,get] at ht;by_cases e:d=t
 ·subst e;simp only [Nat.beq_refl,cond_true,Option.some.injEq] at ht;subst ht;simp [Act.put,fU]
 ·have:Nat.beq d t=false:=q8 e;rw [this] at ht;have h2:=h.val t u ht;simp only [Act.put];rw [←h2];simp [Array.getElem?_setIfInBounds_ne e]
theorem Sim.MA{s:FS}{a:Act}(h:Sim s a)(v:Value):Sim s (a.put none v):=h
structure ob(s t:FS):Prop where
 n:s.n=t.n
 ds:s.ds=t.ds
 e:∀k v,get t.e k=some v→get s.e k=some v
theorem ob.nil{s:FS}{n:Nat}{ds:List Deferred}(hn:s.n=n)(hd:s.ds=ds):ob s ⟨n,ds,[]⟩:=⟨hn,hd,fun _ _ h=>by cases h⟩
theorem ob.cons{s:FS}{n:Nat}{ds:List Deferred}{l:List (Nat×Value)}{k:Nat}{v:Value}(hv:get s.e k=some v)(h:ob s ⟨n,ds,l⟩):ob s ⟨n,ds,(k,v)::l⟩:=
 ⟨h.n,h.ds,fun i u hi=>by
  simp only [get] at hi
  cases hb:Nat.beq k i with
  |true=>rw [hb] at hi;simp only [cond_true,Option.some.injEq] at hi;have:=Nat.eq_of_beq_eq_true hb;rw [←this,hv,hi]
  |false=>rw [hb] at hi;exact h.e i u hi⟩
theorem ob.dw{s:FS}{n:Nat}{ds:List Deferred}{l:List (Nat×Value)}{k:Nat}{q:IntKind}{x y:Int}(hv:get s.e k=some (.int q x))(e:x=y)(h:ob s ⟨n,ds,l⟩):ob s ⟨n,ds,(k,.int q y)::l⟩:=
 .cons (e▸hv) h
theorem ob.sim{s t:FS}(h:ob s t){a:Act}(ha:Sim s a):Sim t a:=
 ⟨ha.size.trans h.n,ha.ds.trans h.ds,fun k v e=>ha.val k v (h.e k v e)⟩
abbrev FW(ro:Option Nat):Fence:={fn:=fun _=>True,depth:=none,alive:=false,round:=ro}
theorem Lt:FW none=Fence.wide:=rfl
def PA(Q:Exit→FS→World→Prop):Exit→Act→World→Prop:=fun x a w=>∃s,Sim s a∧Q x s w
def WE(P:Program)(ro:Option Nat)(c:Code)(Q:Exit→FS→World→Prop)(s:FS)(w:World):Prop:=
 ∀a,Sim s a→c.wpIn (FW ro) 0 P (PA Q) a w
def thn(K:FS→World→Prop)(Q:Exit→FS→World→Prop):Exit→FS→World→Prop
 | .normal,s,w=>K s w
 | .exit i,s,w=>Q (.exit i) s w
 | .goto i,s,w=>Q (.goto i) s w
 | .ret,s,w=>Q .ret s w
 | .panic c,s,w=>Q (.panic c) s w
 | .outgrown,s,w=>Q .outgrown s w
def inB(id:Nat)(Q:Exit→FS→World→Prop):Exit→FS→World→Prop
 | .exit i,s,w=>bif Nat.beq i id then Q .normal s w else Q (.exit i) s w
 | .normal,s,w=>Q .normal s w
 | .goto i,s,w=>Q (.goto i) s w
 | .ret,s,w=>Q .ret s w
 | .panic c,s,w=>Q (.panic c) s w
 | .outgrown,s,w=>Q .outgrown s w
variable{P:Program}{ro:Option Nat}{Q:Exit→FS→World→Prop}{s:FS}{w:World}
theorem nT{K:FS→World→Prop}(h:K s w):thn K Q .normal s w:=h
theorem nB(h:Q .normal s w):inB i Q .normal s w:=h
theorem rT{K:FS→World→Prop}(h:Q .ret s w):thn K Q .ret s w:=h
theorem rB(h:Q .ret s w):inB i Q .ret s w:=h
theorem xT{K:FS→World→Prop}(h:Q (.exit i) s w):thn K Q (.exit i) s w:=h
theorem xB(h:Q .normal s w):inB i Q (.exit i) s w:=by simp only [inB,Nat.beq_refl,cond_true];exact h
theorem xN{j:Nat}(h:Q (.exit j) s w)(hn:Nat.beq j i=false:=by rfl):inB i Q (.exit j) s w:=by simp only [inB,hn,cond_false];exact h
theorem WE.mono{c:Code}{Q':Exit→FS→World→Prop}(h:WE P ro c Q s w)(hq:∀x s w,Q x s w→Q' x s w):WE P ro c Q' s w:=
 fun a ha=>wpIn_mono (h a ha) fun _ _ _ ⟨s',h1,h2⟩=>⟨s',h1,hq _ _ _ h2⟩
theorem WE.sub{c:Code}{t:FS}(h:WE P ro c Q t w)(hs:ob s t):WE P ro c Q s w:=fun a ha=>h a (hs.sim ha)
theorem WE.seq{c d:Code}(h:WE P ro c (thn (WE P ro d Q) Q) s w):WE P ro (.seq c d) Q s w:=fun a ha=>
 wpIn_seq (wpIn_mono (h a ha) fun x a' w' ⟨s',h1,h2⟩=>by
  cases x with
  |normal=>exact h2 a' h1
  |_=>exact ⟨s',h1,h2⟩)
theorem WE.skip(h:Q .normal s w):WE P ro .skip Q s w:=fun _ ha=>wpIn_skip ⟨s,ha,h⟩
theorem WE.label{l:Nat}(h:Q .normal s w):WE P ro (.label l) Q s w:=fun _ ha=>wpIn_label ⟨s,ha,h⟩
theorem WE.ret(h:Q .ret s w):WE P ro .ret Q s w:=fun _ ha=>wpIn_ret ⟨s,ha,h⟩
theorem WE.exit(h:Q (.exit i) s w):WE P ro (.exit i) Q s w:=fun _ ha=>wpIn_exit ⟨s,ha,h⟩
theorem WE.block{c:Code}(h:WE P ro c (inB i Q) s w):WE P ro (.block i c) Q s w:=fun a ha=>
 wpIn_block (wpIn_mono (h a ha) fun x a' w' ⟨s',h1,h2⟩=>by
  cases x with
  |exit j=>
   simp only [Exit.inBlock];by_cases e:j=i
   ·subst e;rw [if_pos rfl];simp only [inB,Nat.beq_refl,cond_true] at h2;exact ⟨s',h1,h2⟩
   ·have hb:Nat.beq j i=false:=q8 e;rw [if_neg e];simp only [inB,hb,cond_false] at h2;exact ⟨s',h1,h2⟩
  |_=>exact ⟨s',h1,h2⟩)
theorem WE.cond{x:Operand}{c d:Code}{b:Bool}(hx:s.ev x=some (.bool b))(h1:b=true→WE P ro c Q s w)(h2:b=false→WE P ro d Q s w):
  WE P ro (.cond x c d) Q s w:=fun a ha=>
 wpIn_cond_split (ha.ev hx) (fun e=>h1 e a ha) (fun e=>h2 e a ha)
theorem WE.Rh{x:Operand}{c d:Code}{b:Bool}(hx:s.ev x=some (.bool b))(hb:b=true)(h:WE P ro c Q s w):
  WE P ro (.cond x c d) Q s w:=fun a ha=>wpIn_cond_true (by rw [ha.ev hx,hb]) (h a ha)
theorem WE.Ri{x:Operand}{c d:Code}{b:Bool}(hx:s.ev x=some (.bool b))(hb:b=false)(h:WE P ro d Q s w):
  WE P ro (.cond x c d) Q s w:=fun a ha=>wpIn_cond_false (by rw [ha.ev hx,hb]) (h a ha)
theorem Dz(p:Nat→Prop)(n:Nat)(h:p n):∃n,p n∧∀m,p m→n≤m:=by
 induction n using Nat.strongRecOn with
 |_ n ih=>
  by_cases hm:∃m,m<n∧p m
  ·obtain ⟨m,h1,h2⟩:=hm;exact ih m h1 h2
  ·exact ⟨n,h,fun m hp=>Nat.le_of_not_lt fun hl=>hm ⟨m,hl,hp⟩⟩
theorem MU{F:Fence}{n:Nat}{P:Program}{Q:Exit→Act→World→Prop}{a:Act}{w:World}{c:Code}(I:Act→World→Nat→Prop)(m:Nat)(h0:I a w m)
  (round:∀a w m,I a w m→c.wpIn F n P (Exit.then (fun a' w'=>∃m',m'<m∧I a' w' m') Q) a w):(Code.loop c).wpIn F n P Q a w:=by
 have key:∀a w m,I a w m→∃n,I a w n∧∀m,I a w m→n≤m:=fun a w m h=>Dz _ m h
 have spec:∀a w m,I a w m→I a w (Classical.epsilon (fun n=>I a w n∧∀m,I a w m→n≤m))∧∀m,I a w m→(Classical.epsilon (fun n=>I a w n∧∀m,I a w m→n≤m))≤m:=
  fun a w m h=>Classical.epsilon_spec (p:=fun n=>I a w n∧∀m,I a w m→n≤m) (key a w m h)
 refine wpIn_loop (fun a w=>∃m,I a w m) (fun a w=>Classical.epsilon (fun n=>I a w n∧∀m,I a w m→n≤m)) ⟨m,h0⟩ fun a w ⟨m,hm⟩=>?_
 refine wpIn_mono (round a w _ (spec a w m hm).1) fun x a' w' h=>?_
 cases x with
 |normal=>
  obtain ⟨m',h1,h2⟩:=h;exact ⟨⟨m',h2⟩,Nat.lt_of_le_of_lt ((spec a' w' m' h2).2 m' h2) h1⟩
 |_=>exact h
theorem WE.loop{ι:Type}{c:Code}(fr:ι→FS)(I:ι→World→Prop)(μ:ι→Nat)(i:ι)(hs:ob s (fr i))(h0:I i w)
  (h:∀i w,I i w→WE P ro c (thn (fun s' w'=>∃j,ob s' (fr j)∧I j w'∧μ j<μ i) Q) (fr i) w):WE P ro (.loop c) Q s w:=fun a ha=>
 MU (fun a w n=>∃i,Sim (fr i) a∧I i w∧μ i=n) (μ i) ⟨i,hs.sim ha,h0,rfl⟩ fun a w n ⟨i,h1,h2,h3⟩=>
  wpIn_mono (h i w h2 a h1) fun x a' w' ⟨s',h4,h5⟩=>by
   cases x with
   |normal=>obtain ⟨j,h6,h7,h8⟩:=h5;exact ⟨μ j,h3▸h8,j,h6.sim h4,h7,rfl⟩
   |_=>exact ⟨s',h4,h5⟩
end Go.MW
namespace Go.MW
variable{α:Type}{k i b:Nat}{ts l xs:List Int}{most:Int}
abbrev I(x:Int):Value:= .int .i64 x
abbrev Is(xs:List Int):List Value:=xs.map I
theorem Ls{x':Int}(h:xs[k]? =some x')(sp:List Value):(Is xs++sp)[k]? =some (I x'):=by
 have hl:=(List.getElem?_eq_some_iff.1 h).1;rw [List.getElem?_append_left (by simpa using hl)];simp [h]
theorem RH{x':Int}(h:xs[k]? =some x'):(Is xs)[k]? =some (I x'):=by simp [h]
theorem js(h:k<xs.length):(Is xs)[k]? =some (I (gi xs k)):=RH (ck h)
theorem Ez(xs:List Int)(k:Nat)(x':Int):(Is xs).set k (I x')=Is (xs.set k x'):=by simp [Is,List.map_set]
theorem G0(h:k<xs.length):Nat.blt k (Is xs).length=true:=by simpa using h
def Arc.v(x:Arc):List Value:=[I x.f,I x.t,I x.c,I x.l]
def jL(l:List Arc):List Value:=(l.map Arc.v).flatten
theorem ED(x:Arc)(l:List Arc):jL (x::l)=x.v++jL l:=rfl
theorem zx(l m:List Arc):jL (l++m)=jL l++jL m:=by simp [jL]
theorem Ly(l:List Arc)(x:Arc):jL (l++[x])=jL l++x.v:=by rw [zx];simp [jL]
theorem dB(l:List Arc):(jL l).length=l.length*4:=by
 induction l with
 |nil=>rfl
 |cons x l ih=>rw [ED,List.length_append,ih,List.length_cons];simp only [Arc.v,List.length_cons,List.length_nil];omega
theorem zu{l:List Arc}(h:k<l.length):jL l=jL (l.take k)++((ga l k).v++jL (l.drop (k+1))):=by
 have h1:ga l k=l[k]:=by simp [ga,h]
 conv=>lhs;rw [←List.take_append_drop k l,zx,List.drop_eq_getElem_cons h,ED,←h1]
theorem tN{l:List Arc}{j:Nat}(h:k<l.length)(hj:j<4):(jL l)[k*4+j]? =(ga l k).v[j]? :=by
 have hl:(jL (l.take k)).length=k*4:=by rw [dB,List.length_take];omega
 rw [zu h,List.getElem?_append_right (by omega),hl,List.getElem?_append_left (by simp [Arc.v];omega)]
 congr 1;omega
theorem He{l:List Arc}(h:k<l.length):((jL l).drop (k*4)).take (ga l k).v.length=(ga l k).v:=by
 have hl:(jL (l.take k)).length=k*4:=by rw [dB,List.length_take];omega
 rw [zu h,←hl,List.drop_left,List.take_left]
theorem Hf{l:List Arc}(h:k<l.length)(x:Arc):jL (l.set k x)=jL (l.take k)++(x.v++jL (l.drop (k+1))):=by
 rw [zu (k:=k) (by simpa using h),yU h,if_pos rfl]
 congr 2
 ·rw [List.take_set,List.set_eq_of_length_le (by rw [List.length_take];omega)]
 ·rw [List.drop_set,if_pos (by omega)]
theorem EC{l:List Arc}(h:k<l.length)(z:Int):(jL l).set (k*4+3) (I z)=jL (l.set k ⟨(ga l k).f,(ga l k).t,(ga l k).c,z⟩):=by
 have hl:(jL (l.take k)).length=k*4:=by rw [dB,List.length_take];omega
 rw [Hf h,zu h,List.set_append_right _ _ (by omega),hl];simp [Arc.v]
theorem G1{l:List Arc}{j:Nat}(h:k<l.length)(hj:j<4):Nat.blt (k*4+j) (jL l).length=true:=by rw [dB];simp;omega
end Go.MW
namespace Go.MW
variable{t':Nat}{want bb:Bool}{vs:List Value}
def WO(P:Program)(ro:Option Nat)(ops:Array Oper)(l:List Oper)(K:FS→World→Prop)(s:FS)(w:World):Prop:=
 ∀a,Sim s a→wpListIn (FW ro) 0 P ops (PA (thn K (fun _ _ _=>False))) l a w
def OJ(P:Program)(ro:Option Nat)(o:Oper)(K:FS→World→Prop)(s:FS)(w:World):Prop:=
 ∀a,Sim s a→o.wpIn (FW ro) 0 P a w (fun a' w'=>∃s',Sim s' a'∧K s' w') (fun _ _ _=>False)
def QJ(P:Program)(H:bp)(σ:List Ent)(s:FS)(op:Op)(v:Value):Prop:=
 (∀c,op≠.defer c)∧∀a w dst ty pos eZ g,Sim s a→St H w σ→(execOp a.eval ⟨dst,op,ty,pos,eZ,g⟩).run P w= .ok (.value v) w
variable{P:Program}{ro:Option Nat}{Q:Exit→FS→World→Prop}{K:FS→World→Prop}{ops:Array Oper}{rest:List Oper}{s:FS}{w:World}
 {H:bp} {σ τ:List Ent} {n d:Nat} {ds:List Deferred} {e:List (Nat×Value)} {op:Op} {ty t:TypeId} {pos:String} {eZ:Array Edge} {v:Value} {x y:Operand} {b off:Nat} {c:List Value}
theorem A8{F:Fence}{n:Nat}{P:Program}{ops:Array Oper}{Q Q':Exit→Act→World→Prop}(hq:∀x a w,Q x a w→Q' x a w):
  ∀(l:List Oper) (a:Act) (w:World),wpListIn F n P ops Q l a w→wpListIn F n P ops Q' l a w:=by
 have key:∀(o:Oper) (K K':Act→World→Prop),(∀a w,K a w→K' a w)→∀a w,o.wpIn F n P a w K Q→o.wpIn F n P a w K' Q':=by
  intro o K K' hk a w hh;unfold Oper.wpIn at*;refine ⟨hh.1,?_⟩;have hh:=hh.2;generalize (o.semAt F.round a.eval).run P w=r at*
  cases r with
  |ok x w'=>
   cases x<;>simp only [Oper.uponIn] at hh ⊢<;>
    first
     |exact hk _ _ hh
     |exact ⟨hh.1,CallsIn.mono hh.2 (fun e w'' he=>by cases e<;>first|exact hk _ _ he|exact hq _ _ _ he|exact (let ⟨a,w,h⟩:=he;⟨a,w,hq _ _ _ h⟩))⟩
     |exact ⟨hh.1,RowsIn.mono hh.2 (fun _ _ he=>hk _ _ he)⟩
     |exact ⟨hh.1,RoundIn.mono hh.2 (fun e w'' he=>by cases e<;>first|exact hk _ _ he|exact hq _ _ _ he|exact (let ⟨a,w,h⟩:=he;⟨a,w,hq _ _ _ h⟩))⟩
  |halt x w'=>cases x<;>simp only [Oper.uponIn] at hh ⊢<;>first|exact hh|exact hq _ _ _ hh
 intro l
 induction l with
 |nil=>exact fun a w h=>hq _ _ _ h
 |cons o l ih=>
  intro a w h;simp only [wpListIn] at h ⊢;split
  ·rename_i hw;simp only [hw,if_true] at h;exact key o _ _ ih _ _ h
  ·rename_i hw;simp only [hw] at h;exact ⟨h.1,ih _ _ h.2⟩
theorem WE.region{id:Nat}{l:List Oper}(h:WO P ro l.toArray l (Q .normal) s w):WE P ro (.region id l.toArray false) Q s w:=fun a ha=>
 wpIn_region_lit (A8 (fun x a w ⟨s',h1,h2⟩=>⟨s',h1,by cases x<;>first|exact h2|exact h2.elim⟩) _ _ _ (h a ha))
theorem WE.af{id:Nat}{l:List Oper}{c:Code}(h:WO P ro l.toArray l (WE P ro c Q) s w):WE P ro (.seq (.region id l.toArray false) c) Q s w:=
 .seq (.region h)
theorem WO.nil(h:K s w):WO P ro ops [] K s w:=fun _ ha=>⟨s,ha,h⟩
theorem Oe{F:Fence}{n:Nat}{P:Program}{o:Oper}{a:Act}{w:World}{K:Act→World→Prop}{Q:Exit→Act→World→Prop}(hh:o.wpIn F n P a w K (fun _ _ _=>False)):o.wpIn F n P a w K Q:=by
 unfold Oper.wpIn at*;refine ⟨hh.1,?_⟩;have hh:=hh.2;generalize (o.semAt F.round a.eval).run P w=r at*
 cases r with
 |ok x w'=>
  cases x<;>simp only [Oper.uponIn] at hh ⊢<;>
   first
    |exact hh
    |exact ⟨hh.1,CallsIn.mono hh.2 (fun e w'' he=>by cases e<;>first|exact he|exact he.elim|exact (let ⟨_,_,h⟩:=he;h.elim))⟩
    |exact ⟨hh.1,RoundIn.mono hh.2 (fun e w'' he=>by cases e<;>first|exact he|exact he.elim|exact (let ⟨_,_,h⟩:=he;h.elim))⟩
 |halt x w'=>cases x<;>simp only [Oper.uponIn] at hh ⊢<;>first|exact hh|exact hh.elim
theorem WO.o{dst:Option Tmp}(h:OJ P ro ⟨dst,op,ty,pos,eZ,none⟩ (WO P ro ops rest K) s w):WO P ro ops (⟨dst,op,ty,pos,eZ,none⟩::rest) K s w:=fun a ha=>by
 simp only [wpListIn,Region.wanted,if_true];exact Oper.wpIn_mono (fun a' w' ⟨s',h1,h2⟩=>h2 a' h1) (Oe (h a ha))
theorem QJ.oj(hq:QJ P H σ ⟨n,ds,e⟩ op v)(hs:St H w σ)(hd:Nat.blt d n=true)(k:K ⟨n,ds,(d,v)::e⟩ w):OJ P ro ⟨some d,op,ty,pos,eZ,none⟩ K ⟨n,ds,e⟩ w:=fun a ha=>by
 refine ⟨fun _ _=>trivial,?_⟩;rw [Oper.semAt_eq _ _ _ hq.1,hq.2 a w _ _ _ _ _ ha hs];exact ⟨_,ha.put hd v,k⟩
theorem WO.q(hs:St H w σ)(hq:QJ P H σ ⟨n,ds,e⟩ op v)(k:WO P ro ops rest K ⟨n,ds,(d,v)::e⟩ w)(hd:Nat.blt d n=true:=by rfl):
  WO P ro ops (⟨some d,op,ty,pos,eZ,none⟩::rest) K ⟨n,ds,e⟩ w:= .o (hq.oj hs hd k)
theorem WO.gT{dst:Option Tmp}{j:Nat}(hj:(ops[j]?).bind (·.dst)=some t')(ht:get s.e t'=some (.bool bb))
  (k:WO P ro ops (⟨dst,op,ty,pos,eZ,none⟩::rest) K s w) (hb:bb=want:=by rfl):WO P ro ops (⟨dst,op,ty,pos,eZ,some (j,want)⟩::rest) K s w:=fun a ha=>by
 have h:=k a ha;have hl:t'<a.tmps.size:=by
  rcases Nat.lt_or_ge t' a.tmps.size with h|h
  ·exact h
  ·have:=ha.val t' _ ht;simp [Array.getElem?_eq_none h,undef] at this
 have hv:a.tmps[t']? =some (.bool bb):=by have:=ha.val t' _ ht;simp [hl] at this ⊢;exact this
 have hy:yielded ops a.tmps j=some bb:=by unfold yielded;rw [hj];simp [hv]
 simp only [wpListIn,Region.wanted,if_true] at h;simp only [wpListIn,Region.wanted,hy,hb,beq_self_eq_true,if_true];exact h
theorem WO.gF{j:Nat}{u:Value}(hj:(ops[j]?).bind (·.dst)=some t')(ht:get e t'=some u)
  (k:WO P ro ops rest K ⟨n,ds,(d,undef)::e⟩ w) (hb:u≠.bool want:=by simp [undef]) (hd:Nat.blt d n=true:=by rfl):WO P ro ops (⟨some d,op,ty,pos,eZ,some (j,want)⟩::rest) K ⟨n,ds,e⟩ w:=fun a ha=>by
 have h:=k _ (ha.put hd undef);have hy:¬yielded ops a.tmps j=some want:=by
  unfold yielded;rw [hj];intro hh;simp only [Option.bind_some] at hh
  rcases Nat.lt_or_ge t' a.tmps.size with hl|hl
  ·have:=ha.val t' _ ht;simp only [Array.getD_eq_getD_getElem?,Array.getElem?_eq_getElem hl,Option.getD_some] at this;rw [Array.getElem?_eq_getElem hl,this] at hh;cases u<;>simp at hh
   exact hb (by rw [hh])
  ·rw [Array.getElem?_eq_none hl] at hh;simp at hh
 simp only [wpListIn,Region.wanted,beq_iff_eq,hy,if_false];exact ⟨fun _ _=>trivial,h⟩
theorem WO.bif(ht:get e t'=some (.bool bb))(h1:bb=true→WO P ro ops rest K ⟨n,ds,(t',.bool true)::e⟩ w)(h2:bb=false→WO P ro ops rest K ⟨n,ds,(t',.bool false)::e⟩ w):
  WO P ro ops rest K ⟨n,ds,e⟩ w:=fun a ha=>by
 have key:∀b:Bool,bb=b→Sim ⟨n,ds,(t',.bool b)::e⟩ a:=fun b hb=>⟨ha.size,ha.ds,fun k v hk=>by
  simp only [get] at hk
  cases hh:Nat.beq t' k with
  |true=>rw [hh] at hk;simp only [cond_true,Option.some.injEq] at hk;rw [←Nat.eq_of_beq_eq_true hh,←hk,←hb];exact ha.val _ _ ht
  |false=>rw [hh] at hk;exact ha.val _ _ hk⟩
 cases bb with
 |true=>exact h1 rfl a (key true rfl)
 |false=>exact h2 rfl a (key false rfl)
theorem WO.jK{p:Prop}[Decidable p](ht:get e t'=some (.bool (decide p)))(h1:p→WO P ro ops rest K ⟨n,ds,(t',.bool true)::e⟩ w)(h2:¬p→WO P ro ops rest K ⟨n,ds,(t',.bool false)::e⟩ w):
  WO P ro ops rest K ⟨n,ds,e⟩ w:= .bif ht (fun h=>h1 (of_decide_eq_true h)) (fun h=>h2 (of_decide_eq_false h))
theorem WO.G2{p:Prop}[Decidable p](ht:get e t'=some (.bool (!decide p)))(h1:¬p→WO P ro ops rest K ⟨n,ds,(t',.bool true)::e⟩ w)(h2:p→WO P ro ops rest K ⟨n,ds,(t',.bool false)::e⟩ w):
  WO P ro ops rest K ⟨n,ds,e⟩ w:= .bif ht (fun h=>h1 (by simpa using h)) (fun h=>h2 (by simpa using h))
theorem WE.bQ{x:Operand}{c d:Code}{p:Prop}[Decidable p](hx:s.ev x=some (.bool (decide p)))(h1:p→WE P ro c Q s w)(h2:¬p→WE P ro d Q s w):WE P ro (.cond x c d) Q s w:=
 .cond hx (fun h=>h1 (of_decide_eq_true h)) (fun h=>h2 (of_decide_eq_false h))
theorem WE.gN{x:Operand}{c d:Code}{p:Prop}[Decidable p](hx:s.ev x=some (.bool (!decide p)))(h1:¬p→WE P ro c Q s w)(h2:p→WE P ro d Q s w):WE P ro (.cond x c d) Q s w:=
 .cond hx (fun h=>h1 (by simpa using h)) (fun h=>h2 (by simpa using h))
def Vb(j:Nat)(want:Bool)(n:Nat):List Oper→Bool
 |[]=>true
 |o::l=>(match o.guard with|some (j',w')=>Nat.beq j j'&&(want==w')|none=>false)&&(match o.dst with|some d=>Nat.blt d n|none=>true)&&Vb j want n l
def RQ:List Oper→List (Nat×Value)→List (Nat×Value)
 |[],e=>e
 |o::l,e=>RQ l (match o.dst with|some d=>(d,undef)::e|none=>e)
theorem Fi{a:Act}{j:Nat}{u:Value}(hj:(ops[j]?).bind (·.dst)=some t')(ht:a.tmps.getD t' undef=u)(hb:u≠.bool want):¬yielded ops a.tmps j=some want:=by
 unfold yielded;rw [hj];intro hh;simp only [Option.bind_some] at hh
 rcases Nat.lt_or_ge t' a.tmps.size with hl|hl
 ·simp only [Array.getD_eq_getD_getElem?,Array.getElem?_eq_getElem hl,Option.getD_some] at ht;rw [Array.getElem?_eq_getElem hl,ht] at hh;cases u<;>simp at hh
  exact hb (by rw [hh])
 ·rw [Array.getElem?_eq_none hl] at hh;simp at hh
theorem WO.gFs{l:List Oper}(m j:Nat)(want:Bool){t':Nat}{u:Value}(hj:(ops[j]?).bind (·.dst)=some t')(ht:get e t'=some u)(yI:Vb j want n (l.take m)=true)
  (k:WO P ro ops (l.drop m) K ⟨n,ds,RQ (l.take m) e⟩ w) (hb:u≠.bool want:=by simp [undef]) (hn:(l.take m).all (fun o=>match o.dst with|some d=> !Nat.beq d t'|none=>true)=true:=by rfl):WO P ro ops l K ⟨n,ds,e⟩ w:=by
 induction m generalizing l e with
 |zero=>simpa [RQ] using k
 |succ m ih=>
  cases l with
  |nil=>simpa [RQ] using k
  |cons o l=>
   simp only [List.take_succ_cons,Vb,Bool.and_eq_true,List.all_cons] at yI hn;obtain ⟨⟨hg,hd⟩,yI⟩:=yI;obtain ⟨dst,op,ty,pos,eZ,g⟩:=o
   cases g with
   |none=>simp at hg
   |some g=>
    obtain ⟨j',w'⟩:=g;simp only [Bool.and_eq_true,beq_iff_eq] at hg;obtain ⟨h1,rfl⟩:=hg;obtain rfl:=Nat.eq_of_beq_eq_true h1;simp only [List.take_succ_cons,List.drop_succ_cons,RQ] at k;intro a ha;have hy:=Fi (ops:=ops) (a:=a) hj (ha.val _ _ ht) hb;simp only [wpListIn,Region.wanted,beq_iff_eq,hy,if_false];refine ⟨fun _ _=>trivial,?_⟩
    cases dst with
    |none=>exact ih ht yI k hn.2 a ha
    |some d=>
     refine ih (e:=(d,undef)::e) ?_ yI k hn.2 _ (ha.put hd undef);simp only [get];have:Nat.beq d t'=false:=by simpa using hn.1
     rw [this];exact ht
theorem Jy(hx:FS.ev s x=some v):QJ P H σ s (.move x) v:=
 ⟨fun _=>by simp,fun a w _ _ _ _ _ ha _=>by simp only [execOp,ha.ev hx];rfl⟩
theorem Mz(hx:FS.ev s x=some v):QJ P H σ s (.assign x) v:=
 ⟨fun _=>by simp,fun a w _ _ _ _ _ ha _=>by simp only [execOp,ha.ev hx];rfl⟩
theorem P5{z:Operand}{u:Value}(hc:FS.ev s x=some (.bool true))(hu:FS.ev s y=some u):QJ P H σ s (.pick x y z) u:=
 ⟨fun _=>by simp,fun a w _ _ _ _ _ ha _=>by simp only [execOp,ha.ev hc,ha.ev hu];rfl⟩
theorem P6{z:Operand}{u:Value}(hc:FS.ev s x=some (.bool false))(hu:FS.ev s z=some u):QJ P H σ s (.pick x y z) u:=
 ⟨fun _=>by simp,fun a w _ _ _ _ _ ha _=>by simp only [execOp,ha.ev hc,ha.ev hu];rfl⟩
section int
variable{k:IntKind}{p q:Int}{gL:TypeId}
theorem mE{op:BinOp}{p q:Int}{v:Value}(Vq:¬(op= .eql∨op= .neq))(h:∀w,(binOp op t (.int k p) (.int k q)).run P w= .ok v w)
  (hx:FS.ev s x=some (.int k p)) (hy:FS.ev s y=some (.int k q)):QJ P H σ s (.binOp op t x y gL) v:=
 ⟨fun _=>by simp,fun a w _ _ _ _ _ ha _=>by
  have hg:eqGuard op t x y (.int k p) (.int k q)=pure ():=by
   unfold eqGuard;cases op<;>simp at Vq<;>rfl
  simp only [execOp,ha.ev hx,ha.ev hy,hg,pure_bind,Sem.run_bind,h w];rfl⟩
theorem JF(hx:FS.ev s x=some (.int k p))(hy:FS.ev s y=some (.int k q)):QJ P H σ s (.binOp .add t x y gL) (.int k (k.wrap (p+q))):=
 mE (by simp) (fun w=>by simp [binOp,Op.intArith]) hx hy
theorem P3(hx:FS.ev s x=some (.int k p))(hy:FS.ev s y=some (.int k q)):QJ P H σ s (.binOp .sub t x y gL) (.int k (k.wrap (p - q))):=
 mE (by simp) (fun w=>by simp [binOp,Op.intArith]) hx hy
theorem P7(hx:FS.ev s x=some (.int k p))(hy:FS.ev s y=some (.int k q)):QJ P H σ s (.binOp .mul t x y gL) (.int k (k.wrap (p*q))):=
 mE (by simp) (fun w=>by simp [binOp,Op.intArith]) hx hy
theorem mH{m:Int}(h: -9223372036854775808≤m∧m≤9223372036854775807):IntKind.i64.wrap m=m:=by
 exact IntWalk.i64_in m h
theorem JE{p q:Int}(hx:FS.ev s x=some (.int .i64 p))(hy:FS.ev s y=some (.int .i64 q))(h: -9223372036854775808≤p+q∧p+q≤9223372036854775807):QJ P H σ s (.binOp .add t x y gL) (.int .i64 (p+q)):=by
 have:=JF (P:=P) (H:=H) (σ:=σ) (t:=t) (gL:=gL) hx hy;rwa [mH h] at this
theorem Sv{p q:Int}(hx:FS.ev s x=some (.int .i64 p))(hy:FS.ev s y=some (.int .i64 q))(h: -9223372036854775808≤p - q∧p - q≤9223372036854775807):QJ P H σ s (.binOp .sub t x y gL) (.int .i64 (p - q)):=by
 have:=P3 (P:=P) (H:=H) (σ:=σ) (t:=t) (gL:=gL) hx hy;rwa [mH h] at this
theorem SB{p q:Int}(hx:FS.ev s x=some (.int .i64 p))(hy:FS.ev s y=some (.int .i64 q))(h: -9223372036854775808≤p*q∧p*q≤9223372036854775807):QJ P H σ s (.binOp .mul t x y gL) (.int .i64 (p*q)):=by
 have:=P7 (P:=P) (H:=H) (σ:=σ) (t:=t) (gL:=gL) hx hy;rwa [mH h] at this
theorem P8(hx:FS.ev s x=some (.int k p))(hy:FS.ev s y=some (.int k q)):QJ P H σ s (.binOp .lss t x y gL) (.bool (decide (p<q))):=
 mE (by simp) (fun w=>by simp [binOp,Op.intCmp]) hx hy
theorem V9(hx:FS.ev s x=some (.int k p))(hy:FS.ev s y=some (.int k q)):QJ P H σ s (.binOp .leq t x y gL) (.bool (decide (p≤q))):=
 mE (by simp) (fun w=>by simp [binOp,Op.intCmp]) hx hy
theorem Wa(hx:FS.ev s x=some (.int k p))(hy:FS.ev s y=some (.int k q)):QJ P H σ s (.binOp .gtr t x y gL) (.bool (decide (q<p))):=
 mE (by simp) (fun w=>by simp [binOp,Op.intCmp]) hx hy
theorem Wb(hx:FS.ev s x=some (.int k p))(hy:FS.ev s y=some (.int k q)):QJ P H σ s (.binOp .geq t x y gL) (.bool (decide (q≤p))):=
 mE (by simp) (fun w=>by simp [binOp,Op.intCmp]) hx hy
theorem run_eq{op:BinOp}{p q:Int}{v:Value}(h:∀w,(binOp op t (.int k p) (.int k q)).run P w= .ok v w)
  (hx:FS.ev s x=some (.int k p)) (hy:FS.ev s y=some (.int k q)):QJ P H σ s (.binOp op t x y gL) v:=
 ⟨fun _=>by simp,fun a w _ _ _ _ _ ha _=>by
  have hg:(eqGuard op t x y (.int k p) (.int k q)).run P w= .ok () w:=by
   unfold eqGuard;by_cases ho:(!(op matches .eql| .neq))=true
   ·simp
   ·simp
  simp only [execOp,ha.ev hx,ha.ev hy,Sem.run_bind,hg,Result.andThen,h w];rfl⟩
theorem Wc(hx:FS.ev s x=some (.int k p))(hy:FS.ev s y=some (.int k q)):QJ P H σ s (.binOp .eql t x y gL) (.bool (decide (p=q))):=
 run_eq (fun w=>by simp [binOp,Op.intCmp];rfl) hx hy
theorem V8(hx:FS.ev s x=some (.int k p))(hy:FS.ev s y=some (.int k q)):QJ P H σ s (.binOp .neq t x y gL) (.bool (!decide (p=q))):=
 run_eq (fun w=>by simp [binOp,Op.intCmp,bne];rfl) hx hy
theorem V6(hx:FS.ev s x=some (.int k p))(hy:FS.ev s y=some (.int k q))(h:q≠0):QJ P H σ s (.binOp .rem t x y gL) (.int k (p.tmod q)):=
 mE (by simp) (fun w=>by simp [binOp,Op.intDiv,h]) hx hy
theorem Sw(hx:FS.ev s x=some (.int k p))(hy:FS.ev s y=some (.int k q))(h:q≠0):QJ P H σ s (.binOp .quo t x y gL) (.int k (k.wrap (p.tdiv q))):=
 mE (by simp) (fun w=>by simp [binOp,Op.intDiv,h]) hx hy
theorem Sy(hx:FS.ev s x=some (.int k p)):QJ P H σ s (.unOp .neg t x) (.int k (k.wrap (0 - p))):=
 ⟨fun _=>by simp,fun a w _ _ _ _ _ ha _=>by simp only [execOp,ha.ev hx,Op.unary,Op.intArith];rfl⟩
theorem Sx{p:Int}(hx:FS.ev s x=some (.int .i64 p))(h: -9223372036854775807≤p∧p≤9223372036854775807):QJ P H σ s (.unOp .neg t x) (.int .i64 (-p)):=by
 have:=Sy (P:=P) (H:=H) (σ:=σ) (t:=t) hx;rw [mH (by omega),Int.zero_sub] at this;exact this
theorem V7(hx:FS.ev s x=some (.bool bb)):QJ P H σ s (.unOp .not t x) (.bool !bb):=
 ⟨fun _=>by simp,fun a w _ _ _ _ _ ha _=>by simp only [execOp,ha.ev hx,Op.unary];rfl⟩
end int
theorem Qb{fs:Array Field}{k m:Nat}{f:Field}{b off:Nat}(hx:FS.ev s x=some (.pointer (some ⟨b,off,none⟩)))(hu:∀w,(underlying t).run P w= .ok (.struct fs) w)(hf:fs[k]? =some f)
  (hz:∀w,(sizeOf f.type).run P w= .ok (m+1) w):QJ P H σ s (.fieldAddr t x k) (.pointer (some ⟨b,off+f.offset,none⟩)):=
 ⟨fun _=>by simp,fun a w _ _ _ _ _ ha _=>by
  simp only [execOp,ha.ev hx,Instr.fieldAt,Instr.sureAddr,fieldPlace,Sem.run_bind,hu w,Result.andThen,hf,Sem.run_pure,hz w];simp only [Nat.add_one_ne_zero,if_false,Sem.run_pure,Addr.add];by_cases h0:f.offset=0<;>simp [h0]⟩
def FA(P:Program)(t k o:Nat):Prop:=∀(b off:Nat) (w:World),(Instr.fieldAt t (.pointer (some ⟨b,off,none⟩)) k).run P w= .ok (.pointer (some ⟨b,off+o,none⟩)) w
theorem dh{fs:Array Field}{k m:Nat}{f:Field}(hu:∀w,(underlying t).run P w= .ok (.struct fs) w)(hf:fs[k]? =some f)(hz:∀w,(sizeOf f.type).run P w= .ok (m+1) w):FA P t k f.offset:=fun b off w=>by
 simp only [Instr.fieldAt,Instr.sureAddr,fieldPlace,Sem.run_bind,hu w,Result.andThen,hf,Sem.run_pure,hz w];simp only [Nat.add_one_ne_zero,if_false,Sem.run_pure,Addr.add];by_cases h0:f.offset=0<;>simp [h0]
theorem q_fa{b off k o:Nat}(hx:FS.ev s x=some (.pointer (some ⟨b,off,none⟩)))(hf:FA P t k o):QJ P H σ s (.fieldAddr t x k) (.pointer (some ⟨b,off+o,none⟩)):=
 ⟨fun _=>by simp,fun a w _ _ _ _ _ ha _=>by simp only [execOp,ha.ev hx,Sem.run_bind,hf b off w];rfl⟩
theorem eM{b off:Nat}(hx:FS.ev s x=some (.pointer (some ⟨b,off,none⟩)))(ha:∀w,(isAgg t).run P w= .ok false w){c:List Value}(hm:Mem σ (.blk b c):=by repeat (first|exact .here|refine .there ?_))(hv:c[off]? =some v:=by first|rfl|exact js (by first|assumption|omega)):
  QJ P H σ s (.load t x) v:=
 ⟨fun _=>by simp,fun a w _ _ _ _ _ hs zD=>by
  have hc:w.cell? ⟨b,off,none⟩=some v:=(fP zD hm off).trans hv;simp only [execOp,hs.ev hx,Instr.loadAt,Instr.sureAddr,loadVar,Sem.run_bind,Sem.run_pure,Result.andThen,ha w];simp [load,Sem.run,hc]⟩
theorem aR{b off:Nat}(hx:FS.ev s x=some (.pointer (some ⟨b,off,none⟩)))(ha:∀w,(isAgg t).run P w= .ok false w)(hv:cellAt H b off=some v):
  QJ P H σ s (.load t x) v:=
 ⟨fun _=>by simp,fun a w _ _ _ _ _ hs zD=>by
  have hc:w.cell? ⟨b,off,none⟩=some v:=Ca zD hv;simp only [execOp,hs.ev hx,Instr.loadAt,Instr.sureAddr,loadVar,Sem.run_bind,Sem.run_pure,Result.andThen,ha w];simp [load,Sem.run,hc]⟩
def bI(H:bp)(b off:Nat)(vs:List Value):Prop:=∀i v,vs[i]? =some v→cellAt H b (off+i)=some v
theorem bI.mono{H H':bp}{b off:Nat}(h:bI H b off vs)(hl:HLe H H'):bI H' b off vs:=fun i v e=>cellAt.mono (h i v e) hl
theorem jI(b off i:Nat):Addr.add ⟨b,off,none⟩ i=⟨b,off+i,none⟩:=by
 unfold Addr.add;by_cases h:i=0<;>simp [h]
theorem fp{w:World}{b off:Nat}(h:∀i v,vs[i]? =some v→w.cell? ⟨b,off+i,none⟩=some v):(loadCells ⟨b,off,none⟩ vs.length).run P w= .ok vs.toArray w:=by
 have key:∀(k:Nat) (acc:Array Value),k≤vs.length→(loadCellsFrom ⟨b,off,none⟩ (vs.length - k) k acc).run P w= .ok (acc++(vs.drop (vs.length - k)).toArray) w:=by
  intro k
  induction k with
  |zero=>intro acc _;simp [loadCellsFrom]
  |succ k ih=>
   intro acc hk;have fU:vs.length - (k+1)<vs.length:=by omega
   have hc:=h (vs.length - (k+1)) _ (List.getElem?_eq_getElem fU);have e1:vs.length - (k+1)+1=vs.length - k:=by omega
   simp only [loadCellsFrom,load,jI,Sem.run_bind,Sem.run,hc,Result.andThen,e1,ih _ (by omega)];rw [List.drop_eq_getElem_cons fU,e1];simp
 have:=key vs.length #[] (Nat.le_refl _);simpa [loadCells] using this
theorem gY{b off:Nat}(hx:FS.ev s x=some (.pointer (some ⟨b,off,none⟩)))(ha:∀w,(isAgg t).run P w= .ok true w)(hz:∀w,(sizeOf t).run P w= .ok vs.length w)
  {c:List Value} (hm:Mem σ (.blk b c):=by repeat (first|exact .here|refine .there ?_)) (hv:(c.drop off).take vs.length=vs:=by rfl):QJ P H σ s (.load t x) (.agg vs.toArray):=
 ⟨fun _=>by simp,fun a w _ _ _ _ _ hs zD=>by
  have hc:∀i v,vs[i]? =some v→w.cell? ⟨b,off+i,none⟩=some v:=fun i v hi=>by
   rw [fP zD hm];have hl:=(List.getElem?_eq_some_iff.1 hi).1;rw [←hv,List.getElem?_take,List.getElem?_drop] at hi;simpa [hl] using hi
  simp only [execOp,hs.ev hx,Instr.loadAt,Instr.sureAddr,loadVar,Sem.run_bind,Sem.run_pure,Result.andThen,ha w,hz w,if_true,fp hc]⟩
theorem bj{b off:Nat}(hx:FS.ev s x=some (.pointer (some ⟨b,off,none⟩)))(ha:∀w,(isAgg t).run P w= .ok true w)(hz:∀w,(sizeOf t).run P w= .ok vs.length w)
  (hv:bI H b off vs):QJ P H σ s (.load t x) (.agg vs.toArray):=
 ⟨fun _=>by simp,fun a w _ _ _ _ _ hs zD=>by
  have hc:∀i v,vs[i]? =some v→w.cell? ⟨b,off+i,none⟩=some v:=fun i v hi=>Ca zD (hv i v hi)
  simp only [execOp,hs.ev hx,Instr.loadAt,Instr.sureAddr,loadVar,Sem.run_bind,Sem.run_pure,Result.andThen,ha w,hz w,if_true,fp hc]⟩
theorem Bn{elem:TypeId}{b off len cap m:Nat}{k:IntKind}{i:Int}(hx:FS.ev s x=some (.slice (some ⟨b,off,none⟩) len cap))(hy:FS.ev s y=some (.int k i))
  (hu:∀w,(underlying t).run P w= .ok (.slice elem) w) (hz:∀w,(sizeOf elem).run P w= .ok m w) (hi:0≤i∧i<len):
  QJ P H σ s (.indexAddr t x y) (.pointer (some ⟨b,off+i.toNat*m,none⟩)):=
 ⟨fun _=>by simp,fun a w _ _ _ _ _ ha _=>by
  simp only [execOp,ha.ev hx,ha.ev hy,Instr.indexAt,asIntOf,Sem.run_bind,hu w,Result.andThen,Sem.run_pure,hi,and_self,if_true,hz w,jI]⟩
theorem JD{vs:Array Value}{k:Nat}(hx:FS.ev s x=some (.tuple vs))(hv:vs[k]? =some v):QJ P H σ s (.extract x k) v:=
 ⟨fun _=>by simp,fun a w _ _ _ _ _ ha _=>by
  simp only [execOp,ha.ev hx,Instr.extract,hv];rfl⟩
def evs(s:FS):List Operand→Option (List Value)
 |[]=>some []
 |x::l=>match FS.ev s x,evs s l with
  |some v,some r=>some (v::r)
  |_,_=>none
theorem B3{s:FS}{a:Act}(ha:Sim s a):∀{l:List Operand} {vs:List Value},evs s l=some vs→l.map a.eval=vs:=by
 intro l
 induction l with
 |nil=>intro vs h;simp only [evs,Option.some.injEq] at h;rw [←h];rfl
 |cons x l ih=>
  intro vs h;simp only [evs] at h;split at h
  ·rename_i v r hv hr;simp only [Option.some.injEq] at h;rw [←h,List.map_cons,ha.ev hv,ih hr]
  ·cases h
def evp(s:FS):List (Nat×Operand)→Option (List (Nat×Value))
 |[]=>some []
 |(i,x)::l=>match FS.ev s x,evp s l with
  |some v,some r=>some ((i,v)::r)
  |_,_=>none
theorem FV{s:FS}{a:Act}(ha:Sim s a):∀{l:List (Nat×Operand)} {vs:List (Nat×Value)},evp s l=some vs→l.map (fun (i,x)=>(i,a.eval x))=vs:=by
 intro l
 induction l with
 |nil=>intro vs h;simp only [evp,Option.some.injEq] at h;rw [←h];rfl
 |cons x l ih=>
  obtain ⟨i,x⟩:=x;intro vs h;simp only [evp] at h;split at h
  ·rename_i v r hv hr;simp only [Option.some.injEq] at h;rw [←h,List.map_cons,ih hr];simp only [ha.ev hv]
  ·cases h
theorem dv{fn:Fn}{f c:List Operand}{fv cv:List Value}(hf:evs s f=some fv)(hc:evs s c=some cv):QJ P H σ s (.makeFunc fn f.toArray c.toArray) (.func fn fv.toArray cv.toArray):=
 ⟨fun _=>by simp,fun a w _ _ _ _ _ ha _=>by
  simp only [execOp,List.map_toArray,B3 ha hf,B3 ha hc,Instr.makeFunc];rfl⟩
def od(P:Program)(t:TypeId)(pl:List (Nat×Nat))(zero:List Value):Prop:=
 ∀(parts:List (Nat×Value)) (cells:List Value) (w:World),Instr.fill (fun i=>pl[i]?) zero.toArray parts=some cells.toArray→(Instr.build t parts.toArray).run P w= .ok (.agg cells.toArray) w
theorem Qc{pl:List (Nat×Nat)}{zero:List Value}(hb:od P t pl zero){ps:List (Nat×Operand)}{vs:List (Nat×Value)}{cells:List Value}(hp:evp s ps=some vs)
  (hc:Instr.fill (fun i=>pl[i]?) zero.toArray vs=some cells.toArray:=by rfl):QJ P H σ s (.build t ps.toArray) (.agg cells.toArray):=
 ⟨fun _=>by simp,fun a w _ _ _ _ _ ha _=>by
  have:=hb vs cells w hc;simp only [execOp,List.map_toArray,FV ha hp,Sem.run_bind,this];rfl⟩
theorem Mx{elem:TypeId}{a':Option Addr}{len cap:Nat}(hx:FS.ev s x=some (.slice a' len cap))(hu:∀w,(underlying t).run P w= .ok (.slice elem) w):
  QJ P H σ s (.call ⟨.builtin .len,#[x],#[t]⟩) (.int .i64 len):=
 ⟨fun _=>by simp,fun a w _ _ _ _ _ ha _=>by
  simp [execOp,resolve,ha.ev hx,invoke,builtin,Builtin.len_,hu w,goInt,Sem.run_bind]⟩
theorem SF{k:IntKind}{p q:Int}{ts:Array TypeId}(hx:FS.ev s x=some (.int k p))(hy:FS.ev s y=some (.int k q)):
  QJ P H σ s (.call ⟨.builtin .max,#[x,y],ts⟩) (.int k (if q>p then q else p)):=
 ⟨fun _=>by simp,fun a w _ _ _ _ _ ha _=>by
  simp [execOp,resolve,ha.ev hx,ha.ev hy,invoke,builtin,Builtin.max_,Builtin.max2]⟩
theorem SD{k:IntKind}{p q:Int}{ts:Array TypeId}(hx:FS.ev s x=some (.int k p))(hy:FS.ev s y=some (.int k q)):
  QJ P H σ s (.call ⟨.builtin .min,#[x,y],ts⟩) (.int k (if q<p then q else p)):=
 ⟨fun _=>by simp,fun a w _ _ _ _ _ ha _=>by
  simp [execOp,resolve,ha.ev hx,ha.ev hy,invoke,builtin,Builtin.min_,Builtin.min2]⟩
theorem Fg{a':Addr}(hx:FS.ev s x=some (.pointer (some a'))):QJ P H σ s (.nilCheck x) (.pointer (some a')):=
 ⟨fun _=>by simp,fun a w _ _ _ _ _ ha _=>by simp only [execOp,ha.ev hx];rfl⟩
end Go.MW
namespace Go.MW
variable{m k cap bytes:Nat}{vs xs args:List Value}{en:Ent}{k1 k2:IntKind}{a':Option Addr}{gL:TypeId}{R:Value→World→Prop}
variable{P:Program}{ro:Option Nat}{Q:Exit→FS→World→Prop}{K:FS→World→Prop}{ops:Array Oper}{rest:List Oper}{s:FS}{w:World}
 {H:bp} {σ τ:List Ent} {n d:Nat} {ds:List Deferred} {e:List (Nat×Value)} {op:Op} {ty t:TypeId} {pos:String} {eZ:Array Edge} {v:Value} {x y:Operand} {b off:Nat} {c:List Value}
theorem OJ.val{o:Op}{w':World}(HX:∀c,o≠.defer c)(hx:∀a,Sim ⟨n,ds,e⟩ a→(execOp a.eval ⟨some d,o,ty,pos,eZ,none⟩).run P w= .ok (.value v) w')(hd:Nat.blt d n=true)(k:K ⟨n,ds,(d,v)::e⟩ w'):
  OJ P ro ⟨some d,o,ty,pos,eZ,none⟩ K ⟨n,ds,e⟩ w:=fun a ha=>by
 refine ⟨fun _ _=>trivial,?_⟩;rw [Oper.semAt_eq _ _ _ HX,hx a ha];exact ⟨_,ha.put hd v,k⟩
theorem OJ.sk{o:Op}{w':World}(HX:∀c,o≠.defer c)(hx:∀a,Sim s a→(execOp a.eval ⟨none,o,ty,pos,eZ,none⟩).run P w= .ok .skip w')(k:K s w'):
  OJ P ro ⟨none,o,ty,pos,eZ,none⟩ K s w:=fun a ha=>by
 refine ⟨fun _ _=>trivial,?_⟩;rw [Oper.semAt_eq _ _ _ HX,hx a ha];exact ⟨_,ha,k⟩
theorem OJ.alloc{z:Value}{zl:List Value}(hs:St H w σ)(hz:∀w,(zeroValue t).run P w= .ok z w)(hc:z.cells=zl.toArray)
  (k:∀b w',St H w' (.blk b zl::σ)→K ⟨n,ds,(d,.pointer (some ⟨b,0,none⟩))::e⟩ w') (hd:Nat.blt d n=true:=by rfl):OJ P ro ⟨some d,.alloc t,ty,pos,eZ,none⟩ K ⟨n,ds,e⟩ w:=
 .val (w':={w with heap:=w.heap.push (.cells zl.toArray t)}) (fun _=>by simp) (fun a _=>by simp only [execOp,Instr.alloc,Sem.run_bind,hz w,Result.andThen,newVar,newRow,hc,newObj,Sem.run,Sem.run_pure]) hd (k _ _ (hs.qf _ _))
theorem OJ.box{cl:List Value}(hs:St H w σ)(hx:FS.ev ⟨n,ds,e⟩ x=some v)(hc:v.cells=cl.toArray)
  (k:∀b w',St H w' (.blk b cl::σ)→K ⟨n,ds,(d,.pointer (some ⟨b,0,none⟩))::e⟩ w') (hd:Nat.blt d n=true:=by rfl):OJ P ro ⟨some d,.box t x,ty,pos,eZ,none⟩ K ⟨n,ds,e⟩ w:=
 .val (w':={w with heap:=w.heap.push (.cells cl.toArray t)}) (fun _=>by simp) (fun a ha=>by simp only [execOp,Instr.box,ha.ev hx,Sem.run_bind,Result.andThen,newVar,newRow,hc,newObj,Sem.run,Sem.run_pure]) hd (k _ _ (hs.qf _ _))
def xp(P:Program)(t:TypeId)(len m:Nat)(zs:List Value):Prop:=
 ∀(parts:List (Nat×Value)) (cells:List Value) (w:World),Instr.fill (fun i=>some (i*m,m)) zs.toArray parts=some cells.toArray→
  ∃T,(Instr.buildSlice t len parts.toArray).run P w= .ok (.slice (some ⟨w.heap.size,0,none⟩) len len) {w with heap:=w.heap.push (.cells cells.toArray T)}
theorem OJ.buildSlice{len:Nat}{zs cells:List Value}{ps:List (Nat×Operand)}{vs:List (Nat×Value)}(hs:St H w σ)(hb:xp P t len m zs)(hp:evp ⟨n,ds,e⟩ ps=some vs)
  (hc:Instr.fill (fun i=>some (i*m,m)) zs.toArray vs=some cells.toArray)
  (k:∀b w',St H w' (.blk b cells::σ)→K ⟨n,ds,(d,.slice (some ⟨b,0,none⟩) len len)::e⟩ w') (hd:Nat.blt d n=true:=by rfl):OJ P ro ⟨some d,.buildSlice t len ps.toArray,ty,pos,eZ,none⟩ K ⟨n,ds,e⟩ w:=by
 obtain ⟨T,hT⟩:=hb vs cells w hc;exact .val (w':={w with heap:=w.heap.push (.cells cells.toArray T)}) (fun _=>by simp) (fun a ha=>by simp only [execOp,List.map_toArray,FV ha hp,Sem.run_bind,hT,Result.andThen,Sem.run_pure]) hd (k _ _ (hs.qf _ _))
theorem AH{w:World}{a:Addr}{v u:Value}(hv:v.oneCell'=true)(hc:w.cell? a=some u)(hf:w.frozen? a=false):(store a v).run P w= .ok () (w.setCell a v):=by
 unfold store;cases v<;>first|(simp [Value.oneCell'] at hv;done)|simp [Sem.run,hc,hf]
theorem By{v:Value}(h:v.oneCell'=true):v.cells=#[v]:=by
 cases v<;>first|rfl|(simp [Value.oneCell'] at h;done)
theorem OJ.store{b off:Nat}{c c':List Value}(hs:St H w σ)(hx:FS.ev s x=some (.pointer (some ⟨b,off,none⟩)))(hy:FS.ev s y=some v)(hz:∀w,(sizeOf t).run P w= .ok 1 w)
  (k:∀w',St H w' τ→K s w') (hu:Upd σ (.blk b c) (.blk b c') τ:=by repeat constructor) (hl:Nat.blt off c.length=true:=by first|rfl|exact G0 (by first|assumption|omega)) (hc:c.set off v=c':=by first|exact Ez _ _ _|rfl) (hv:v.oneCell'=true:=by rfl):OJ P ro ⟨none,.store t x y,ty,pos,eZ,none⟩ K s w:=by
 subst hc;have hl:off<c.length:=by simpa using hl
 have h1:w.cell? ⟨b,off,none⟩=some c[off]:=(fP hs hu.mem off).trans (List.getElem?_eq_getElem hl);refine .sk (w':=w.setCell ⟨b,off,none⟩ v) (fun _=>by simp) (fun a ha=>?_) (k _ (hs.setCell hu));simp only [execOp,ha.ev hx,ha.ev hy,Instr.storeAt,Instr.sureAddr,storeVar,Sem.run_bind,Sem.run_pure,Result.andThen,hz w,By hv,List.size_toArray,List.length_cons,List.length_nil,ne_eq,Nat.zero_add,not_true,if_false];simp only [storeCells,Addr.add,if_true,Sem.run_bind,AH hv h1 (nN hs hu.mem off),Result.andThen,Sem.run_pure]
def so:List Value→Nat→List Value→List Value
 |c,_,[]=>c
 |c,off,v::vs=>so (c.set off v) (off+1) vs
theorem NZ{l:List Arc}{x:Arc}(h:k<l.length):Nat.ble (k*4+x.v.length) (jL l).length=true:=by rw [dB];simp [Arc.v];omega
theorem C8{l:List Arc}(h:k<l.length)(x:Arc):so (jL l) (k*4) x.v=jL (l.set k x):=by
 have hl:(jL (l.take k)).length=k*4:=by rw [dB,List.length_take];omega
 rw [Hf h,zu h];simp only [Arc.v,so];rw [List.set_append_right _ _ (by omega),List.set_append_right _ _ (by omega),List.set_append_right _ _ (by omega),List.set_append_right _ _ (by omega),hl];simp [show k*4+1 - k*4=1 by omega,show k*4+1+1 - k*4=2 by omega,show k*4+1+1+1 - k*4=3 by omega]
theorem ng{b:Nat}:∀(vs:List Value) (off i:Nat) (c:List Value) (w:World) (σ τ:List Ent),St H w σ→(∀v∈vs,v.oneCell'=true)→off+i+vs.length≤c.length→
  Upd σ (.blk b c) (.blk b (so c (off+i) vs)) τ→∃w',(storeCells ⟨b,off,none⟩ vs i).run P w= .ok () w'∧St H w' τ:=by
 intro vs
 induction vs with
 |nil=>
  intro off i c w σ τ hs _ _ hu;refine ⟨w,by simp [storeCells],?_⟩;obtain ⟨r,h1,h2⟩:=hu.kA;exact (hs.pick h1).I1 h2
 |cons v vs ih=>
  intro off i c w σ τ hs hv hl hu;simp only [List.length_cons] at hl;have fU:off+i<c.length:=by omega
  obtain ⟨ρ,Qw,Qv⟩:∃ρ,Upd σ (.blk b c) (.blk b (c.set (off+i) v)) ρ∧Upd ρ (.blk b (c.set (off+i) v)) (.blk b (so (c.set (off+i) v) (off+(i+1)) vs)) τ:=by
   have:∀{σ τ:List Ent} {p q:Ent},Upd σ p q τ→∀m,∃ρ,Upd σ p m ρ∧Upd ρ m q τ:=fun h m=>by
    induction h with
    |here=>exact ⟨_,.here,.here⟩
    |there _ ih=>obtain ⟨ρ,a,b⟩:=ih;exact ⟨_,.there a,.there b⟩
   simp only [so] at hu;exact this hu _
  have h1:w.cell? ⟨b,off+i,none⟩=some c[off+i]:=(fP hs Qw.mem _).trans (List.getElem?_eq_getElem fU);obtain ⟨w',h2,h3⟩:=ih off (i+1) (c.set (off+i) v) _ ρ τ (hs.setCell Qw) (fun u hu=>hv u (.tail _ hu)) (by simp;omega) Qv;refine ⟨w',?_,h3⟩;simp only [storeCells,jI,Sem.run_bind,AH (hv v (.head _)) h1 (nN hs Qw.mem _),Result.andThen,h2]
theorem OJ.aL{b off:Nat}{c c':List Value}(hs:St H w σ)(hx:FS.ev s x=some (.pointer (some ⟨b,off,none⟩)))(hy:FS.ev s y=some (.agg vs.toArray))(hz:∀w,(sizeOf t).run P w= .ok vs.length w)
  (k:∀w',St H w' τ→K s w') (hu:Upd σ (.blk b c) (.blk b c') τ:=by repeat constructor) (hl:Nat.ble (off+vs.length) c.length=true:=by first|rfl|exact NZ (by first|assumption|omega)) (hc:so c off vs=c':=by first|exact C8 (by first|assumption|omega) _|rfl) (hv:vs.all Value.oneCell'=true:=by rfl):OJ P ro ⟨none,.store t x y,ty,pos,eZ,none⟩ K s w:=by
 subst hc;obtain ⟨w',h1,h2⟩:=ng (P:=P) vs off 0 c w σ τ hs (by simpa using hv) (by have:=Nat.le_of_ble_eq_true hl;omega) (by simpa using hu);refine .sk (w':=w') (fun _=>by simp) (fun a ha=>?_) (k _ h2);simp only [execOp,ha.ev hx,ha.ev hy,Instr.storeAt,Instr.sureAddr,storeVar,Sem.run_bind,Sem.run_pure,Result.andThen,hz w,Value.cells,List.size_toArray,ne_eq,not_true,if_false,h1]
def RS(H:bp)(m:Nat)(v:Value)(cs:List (List Value)):Prop:=
 ∃a cap,v= .slice a cs.length cap∧cs.length≤cap∧cs.length≤9223372036854775807∧∀i c,cs[i]? =some c→c.length=m∧∃b off,a=some ⟨b,off,none⟩∧bI H b (off+i*m) c
theorem RS.mono{H H':bp}{v:Value}{cs:List (List Value)}(h:RS H m v cs)(hl:HLe H H'):RS H' m v cs:=by
 obtain ⟨a,cap,h1,h2,h3,h4⟩:=h;exact ⟨a,cap,h1,h2,h3,fun i c hi=>let ⟨h5,b,off,h6,h7⟩:=h4 i c hi;⟨h5,b,off,h6,h7.mono hl⟩⟩
theorem RS.nil(H:bp)(m:Nat)(a:Option Addr)(cap:Nat):RS H m (.slice a 0 cap) []:=⟨a,cap,rfl,Nat.zero_le _,by simp,fun _ _ h=>by cases h⟩
theorem RS.shape{cs:List (List Value)}(h:RS H m v cs):∃a cap,v= .slice a cs.length cap:=by
 obtain ⟨a,cap,h1,_⟩:=h;exact ⟨a,cap,h1⟩
theorem RS.len{len:Nat}{a:Option Addr}{cs:List (List Value)}(h:RS H m (.slice a len cap) cs):len=cs.length∧len≤cap∧len≤9223372036854775807:=by
 obtain ⟨a',w8,h1,h2,h3,_⟩:=h;cases h1;exact ⟨rfl,h2,h3⟩
theorem RS.at{len:Nat}{a:Option Addr}{cs:List (List Value)}(h:RS H m (.slice a len cap) cs){i:Nat}(hi:i<cs.length):
  ∃b off,a=some ⟨b,off,none⟩∧bI H b (off+i*m) cs[i]∧cs[i].length=m:=by
 obtain ⟨a',w8,h1,h2,h3,h4⟩:=h;cases h1
 obtain ⟨h5,b,off,h6,h7⟩:=h4 i _ (List.getElem?_eq_getElem hi);exact ⟨b,off,h6,h7,h5⟩
theorem WO.ix{cs:List (List Value)}{elem:TypeId}{k:IntKind}{i:Int}(hs:St H w σ)(hr:RS H m v cs)(hx:FS.ev ⟨n,ds,e⟩ x=some v)(hy:FS.ev ⟨n,ds,e⟩ y=some (.int k i))
  (hu:∀w,(underlying t).run P w= .ok (.slice elem) w) (hz:∀w,(sizeOf elem).run P w= .ok m w) (hi:0≤i∧i<cs.length)
  (kk:∀b off,bI H b off (cs[i.toNat]'(by omega))→WO P ro ops rest K ⟨n,ds,(d,.pointer (some ⟨b,off,none⟩))::e⟩ w) (hd:Nat.blt d n=true:=by rfl):
  WO P ro ops (⟨some d,.indexAddr t x y,ty,pos,eZ,none⟩::rest) K ⟨n,ds,e⟩ w:=by
 obtain ⟨a,cap,rfl⟩:=hr.shape;obtain ⟨b,off,rfl,h1,h2⟩:=hr.at (i:=i.toNat) (by omega);exact .q hs (Bn hx hy hu hz hi) (kk _ _ h1) hd
theorem bI.one{v:Value}(h:bI H b off [v]):cellAt H b off=some v:=h 0 v rfl
theorem bI.get(h:bI H b off vs)(i:Nat){v:Value}(hi:vs[i]? =some v):cellAt H b (off+i)=some v:=h i v hi
theorem JB{cs:List (List Value)}{elem:TypeId}(hr:RS H m v cs)(hx:FS.ev s x=some v)(hu:∀w,(underlying t).run P w= .ok (.slice elem) w):
  QJ P H σ s (.call ⟨.builtin .len,#[x],#[t]⟩) (.int .i64 cs.length):=by
 obtain ⟨a,cap,rfl⟩:=hr.shape;exact Mx hx hu
theorem Sub.refl:∀l:List Ent,Sub l l
 |[]=> .nil
 |_::l=> .cons .here (Sub.refl l)
theorem Sub.weaken{l r:List Ent}{x:Ent}(h:Sub r l):Sub r (x::l):=by
 induction h with
 |nil=>exact .nil
 | @cons y l r t h k ih=>exact .cons (.there h) ih
theorem Co.sub{σ r:List Ent}{x:Ent}(h:Co σ x r):Sub r σ:=by
 induction h with
 |here=>exact (Sub.refl _).weaken
 |there _ ih=>exact .cons .here ih
def bE(m:Nat)(v:Value)(xs:List Value)(en:Ent):Prop:=
 (∃a,v= .slice a 0 0∧xs=[]∧en= .nul)∨
 (∃b len cap spare,v= .slice (some ⟨b,0,none⟩) len cap∧en= .blk b (xs++spare)∧xs.length=len*m∧(xs++spare).length=cap*m∧len≤cap)
theorem bE.nil(m:Nat)(a:Option Addr):bE m (.slice a 0 0) [] .nul:= .inl ⟨a,rfl,rfl,rfl⟩
theorem bE.full{len:Nat}{b:Nat}(h:xs.length=len*m):bE m (.slice (some ⟨b,0,none⟩) len len) xs (.blk b xs):=
 .inr ⟨b,len,len,[],rfl,by simp,h,by simpa using h,Nat.le_refl _⟩
theorem bE.shape{v:Value}(h:bE m v xs en):∃a len cap,v= .slice a len cap∧xs.length=len*m:=by
 rcases h with ⟨a,h1,h2,_⟩|⟨b,len,cap,spare,h1,_,h3,_⟩
 ·exact ⟨a,0,0,h1,by simp [h2]⟩
 ·exact ⟨_,len,cap,h1,h3⟩
def Src(P:Program)(H:bp)(σ:List Ent)(m:Nat)(u:Value)(k:Nat)(ys:List Value):Prop:=
 (∃a cap,u= .slice a k cap)∧ys.length=k*m∧∀w,St H w σ→(Builtin.firstCells m k u).run P w= .ok ys.toArray w
theorem Src.rs{u:Value}{cs:List (List Value)}(h:RS H m u cs):Src P H σ m u cs.length cs.flatten:=by
 obtain ⟨a,cap,rfl,_,_,h4⟩:=h;have hlen:∀l:List (List Value),(∀c∈l,c.length=m)→l.flatten.length=l.length*m:=by
  intro l
  induction l with
  |nil=>intro _;simp
  |cons c l ih=>intro hl;simp only [List.flatten_cons,List.length_append,List.length_cons,hl c (.head _),ih fun c hc=>hl c (.tail _ hc),Nat.add_mul,Nat.one_mul];omega
 have rX:∀c∈cs,c.length=m:=fun c hc=>by
  obtain ⟨i,hi⟩:=List.getElem?_of_mem hc;exact (h4 i c hi).1
 refine ⟨⟨a,cap,rfl⟩,hlen cs rX,fun w hs=>?_⟩
 cases a with
 |none=>
  cases cs with
  |nil=>simp [Builtin.firstCells]
  |cons c cs=>obtain ⟨_,b,off,hh,_⟩:=h4 0 c rfl;cases hh
 |some a=>
  obtain ⟨b,off,sp⟩:=a
  cases cs with
  |nil=>simp [Builtin.firstCells,loadCells,loadCellsFrom]
  |cons c0 cs'=>
   obtain ⟨_,b',off',hh,_⟩:=h4 0 c0 rfl;cases hh
   generalize AU:c0::cs'=cs at*;have hc:∀j v,cs.flatten[j]? =some v→w.cell? ⟨b,off+j,none⟩=some v:=by
    have key:∀(l:List (List Value)) (i:Nat),(∀c∈l,c.length=m)→(∀k c,l[k]? =some c→bI H b (off+(i+k)*m) c)→∀j v,l.flatten[j]? =some v→cellAt H b (off+i*m+j)=some v:=by
     intro l
     induction l with
     |nil=>intro i _ _ j v h;simp at h
     |cons c l ih=>
      intro i h1 h2 j v hj;have tX:=h1 c (.head _)
      rcases Nat.lt_or_ge j c.length with fU|TN
      ·rw [List.flatten_cons,List.getElem?_append_left fU] at hj;have:=h2 0 c rfl j v hj;simpa using this
      ·rw [List.flatten_cons,List.getElem?_append_right TN] at hj;have:=ih (i+1) (fun c hc=>h1 c (.tail _ hc)) (fun k c hk=>by have:=h2 (k+1) c hk;rwa [show i+(k+1)=i+1+k from by omega] at this) (j - c.length) v hj;rw [Nat.add_mul,Nat.one_mul] at this
       rwa [show off+(i*m+m)+(j - c.length)=off+i*m+j from by omega] at this
    intro j v hj;have:=key cs 0 rX (fun k c hk=>by
     obtain ⟨_,b2,o2,e2,h5⟩:=h4 k c hk;cases e2
     simpa using h5) j v hj
    simp only [Nat.zero_mul,Nat.add_zero] at this;exact Ca hs this
   simp only [Builtin.firstCells];rw [←hlen cs rX];exact fp hc
theorem Src.own{b off:Nat}{c ys:List Value}(hm:Mem σ (.blk b c))(hy:(c.drop off).take ys.length=ys)(hl:ys.length=k*m):Src P H σ m (.slice (some ⟨b,off,none⟩) k cap) k ys:=by
 refine ⟨⟨_,_,rfl⟩,hl,fun w hs=>?_⟩;simp only [Builtin.firstCells];rw [←hl];refine fp fun i v hi=>?_
 rw [fP hs hm];have fU:=(List.getElem?_eq_some_iff.1 hi).1;rw [←hy,List.getElem?_take,List.getElem?_drop] at hi;simpa [fU] using hi
theorem KS(nl:Nat):∀(r c:Nat),c≤nl+(nl+768)/4→Builtin.growBy nl r c≤nl+(nl+768)/4:=by
 intro r
 induction r with
 |zero=>intro c h;exact h
 |succ r ih=>
  intro c h;simp only [Builtin.growBy];split
  ·exact h
  ·exact ih _ (by omega)
theorem Oy{nl oc:Nat}(h:oc<nl):Builtin.nextslicecap nl oc≤2*nl:=by
 unfold Builtin.nextslicecap;split
 ·omega
 ·split
  ·omega
  ·exact Nat.le_trans (KS nl 4 oc (by omega)) (by omega)
theorem run_askRoom(b:Nat)(w:World):(askRoom b).run P w= .ok () w:=by
 unfold askRoom;split<;>simp [mark,Sem.run]
theorem mB(z:Array Value)(k:Nat):(Builtin.zeroCells z k).size=k*z.size:=by simp [Builtin.zeroCells]
structure F1(P:Program)(sT xT elem:TypeId)(m bytes:Nat):Prop where
 s:∀w,(underlying sT).run P w= .ok (.slice elem) w
 x:∀w,(underlying xT).run P w= .ok (.slice elem) w
 size:∀w,(sizeOf elem).run P w= .ok m w
 bytes:∃i,(∀w,(typeInfo elem).run P w= .ok i w)∧i.bytes=bytes∧0<bytes
 zero:∃z,(∀w,(zeroValue elem).run P w= .ok z w)∧z.cells.size=m
def SS:Value→Bool
 | .slice (some _) _ _=>true
 |_=>false
theorem OJ.Lo{sT xT elem:TypeId}{u:Value}{ys:List Value}{r:List Ent}(hs:St H w σ)(ht:F1 P sT xT elem m bytes)
  (hx:FS.ev ⟨n,ds,e⟩ x=some v) (hy:FS.ev ⟨n,ds,e⟩ y=some u) (ho:bE m v xs en) (hu:Src P H σ m u k ys) (h1:∀v∈ys,v.oneCell'=true)
  (hb:∀l,xs.length=l*m→(l+k)*bytes≤140737488355328)
  (kk:∀v' jn w',(SS v=true→SS v'=true)→bE m v' (xs++ys) jn→St H w' (jn::r)→K ⟨n,ds,(d,v')::e⟩ w') (hp:Co σ en r:=by repeat constructor) (hd:Nat.blt d n=true:=by rfl):
  OJ P ro ⟨some d,.call ⟨.builtin .append,#[x,y],#[sT,xT]⟩,ty,pos,eZ,none⟩ K ⟨n,ds,e⟩ w:=by
 obtain ⟨⟨ua,ucap,rfl⟩,qg,Vv⟩:=hu;obtain ⟨i,hi,Xl,hbp⟩:=ht.bytes;obtain ⟨z,hz,S8⟩:=ht.zero;obtain ⟨base,len,cap,rfl,AR,hle,Ks,Qz⟩:∃base len cap,v= .slice base len cap∧xs.length=len*m∧len≤cap∧((Builtin.firstCells m len (.slice base len cap)).run P w= .ok xs.toArray w)∧
   (len+k≤cap→∃w' jn,(match base with|some a=>storeCells (a.add (len*m)) ys|none=>pure ()).run P w= .ok () w'∧bE m (.slice base (len+k) cap) (xs++ys) jn∧St H w' (jn::r)):=by
  rcases ho with ⟨a,rfl,rfl,rfl⟩|⟨b,len,cap,spare,rfl,rfl,h2,h3,h4⟩
  ·refine ⟨a,0,0,rfl,by simp,Nat.le_refl _,?_,fun hk=>?_⟩
   ·cases a with
    |none=>simp [Builtin.firstCells]
    |some a=>simp [Builtin.firstCells,loadCells,loadCellsFrom]
   ·have DV:k=0:=by omega
    subst DV;have:ys=[]:=List.length_eq_zero_iff.1 (by simpa using qg);subst this;exact ⟨w,.nul,by cases a<;>simp [storeCells],.nil m a,hs.pick hp⟩
  ·have Vp:=hs.pick hp;refine ⟨some ⟨b,0,none⟩,len,cap,rfl,h2,h4,?_,fun hk=>?_⟩
   ·simp only [Builtin.firstCells];rw [←h2];refine fp fun j v hj=>?_
    have fU:=(List.getElem?_eq_some_iff.1 hj).1;rw [fP Vp .here,Nat.zero_add,List.getElem?_append_left fU];exact hj
   ·have z6:ys.length≤spare.length:=by
     rw [List.length_append,h2] at h3;rw [qg];have:k*m≤(cap - len)*m:=Nat.mul_le_mul_right m (by omega);rw [Nat.sub_mul] at this;omega
    have Kb:∀(ys pre spare:List Value),ys.length≤spare.length→so (pre++spare) pre.length ys=pre++ys++spare.drop ys.length:=by
     intro ys
     induction ys with
     |nil=>intro pre spare _;simp [so]
     |cons y ys ih=>
      intro pre spare h
      cases spare with
      |nil=>simp at h
      |cons s0 spare=>
       simp only [so];have e1:(pre++s0::spare).set pre.length y=(pre++[y])++spare:=by
        rw [List.set_append_right _ _ (Nat.le_refl _)];simp
       have e2:pre.length+1=(pre++[y]).length:=by simp
       rw [e1,e2,ih (pre++[y]) spare (by simpa using h)];simp
    obtain ⟨w',h5,h6⟩:=ng (P:=P) ys (len*m) 0 (xs++spare) w _ _ Vp h1 (by rw [List.length_append,h2];omega) (.here:Upd (.blk b (xs++spare)::r) _ (.blk b (so (xs++spare) (len*m+0) ys)) _);rw [Nat.add_zero,←h2,Kb ys xs spare z6] at h6;refine ⟨w',.blk b ((xs++ys)++spare.drop ys.length),?_,.inr ⟨b,len+k,cap,_,rfl,rfl,?_,?_,hk⟩,h6⟩
    ·simp only [jI,Nat.zero_add];exact h5
    ·rw [List.length_append,h2,qg,Nat.add_mul]
    ·rw [←h3];simp only [List.length_append,List.length_drop];omega
 have hbound:=hb len AR;have WN:len+k≤140737488355328:=Nat.le_trans (Nat.le_mul_of_pos_right _ hbp) hbound;by_cases QK:len+k≤cap
 ·obtain ⟨w',jn,h2,h3,h4⟩:=Qz QK;refine .val (w':=w') (fun _=>by simp) (fun a ha=>?_) hd (kk _ _ _ (by cases base<;>simp [SS]) h3 h4);simp only [execOp,resolve,List.map_toArray,List.map_cons,List.map_nil,ha.ev hx,ha.ev hy,Sem.run_bind,Sem.run_pure,Result.andThen,invoke,builtin,Builtin.append_];simp only [List.getElem?_toArray,List.getElem?_cons_zero,List.getElem?_cons_succ,Sem.run_bind,ht.s w,ht.x w,ht.size w,Result.andThen,Sem.run_pure,Builtin.lenOf,Bool.false_eq_true,if_false,Bool.not_false,if_true,QK,Vv w hs]
  cases base with
  |none=>simp only [Sem.run_pure] at h2 ⊢;cases h2;rfl
  |some a=>
   have VP:Sem.run P (storeCells (a.add (len*m)) ys) w= .ok () w':=h2;simp only [Sem.run_bind,VP,Result.andThen,Sem.run_pure]
 ·have hn:Builtin.nextslicecap (len+k) cap≤2*(len+k):=Oy (by omega);have W6:¬Builtin.nextslicecap (len+k) cap*i.bytes>2 ^48:=by
   have:=Nat.mul_le_mul_right i.bytes hn;rw [Nat.mul_assoc,Xl] at this;rw [Xl];omega
  obtain ⟨nc,Zt⟩:∃nc,nc=Question.cut (.appendCap (len+k) cap elem) (w.tape w.drawn (.appendCap (len+k) cap elem)):=⟨_,rfl⟩;have TN:len+k≤nc:=by rw [Zt];simp only [Question.cut];omega
  obtain ⟨sp,z6⟩:∃sp,sp=(Builtin.zeroCells z.cells (nc - (len+k))).toList:=⟨_,rfl⟩;have WL:sp.length=(nc - (len+k))*m:=by rw [z6,Array.length_toList,mB,S8]
  have Kc:St H {w with drawn:=w.drawn+1} σ:=hs.drawn _;refine .val (v:= .slice (some ⟨w.heap.size,0,none⟩) (len+k) nc) (w':={w with drawn:=w.drawn+1,heap:=w.heap.push (.cells (xs++ys++sp).toArray elem)}) (fun _=>by simp) (fun a ha=>?_) hd
   (kk _ (.blk w.heap.size (xs++ys++sp)) _ (fun _=>rfl) (.inr ⟨_,len+k,nc,sp,rfl,rfl,by rw [List.length_append,AR,qg,Nat.add_mul],?_,TN⟩) ?_)
  ·have ZH:(Builtin.firstCells m len (.slice base len cap)).run P {w with drawn:=w.drawn+1}= .ok xs.toArray {w with drawn:=w.drawn+1}:=by
    rcases ho with ⟨a,h1,rfl,rfl⟩|⟨b,len',w8,spare,h1,rfl,h2,h3,h4⟩
    ·cases h1
     cases base with
     |none=>simp [Builtin.firstCells]
     |some a=>simp [Builtin.firstCells,loadCells,loadCellsFrom]
    ·cases h1
     simp only [Builtin.firstCells];rw [←h2];refine fp fun j v hj=>?_
     have fU:=(List.getElem?_eq_some_iff.1 hj).1;rw [fP (Kc.pick hp) .here,Nat.zero_add,List.getElem?_append_left fU];exact hj
   have hg:¬(((len+k:Nat):Int)>IntKind.i64.max∧(False∨i.bytes=0)):=by rw [Xl];intro hh;exact hh.2.elim (fun h=>h) (fun h=>by omega)
   simp only [execOp,resolve,List.map_toArray,List.map_cons,List.map_nil,ha.ev hx,ha.ev hy,Sem.run_bind,Sem.run_pure,Result.andThen,invoke,builtin,Builtin.append_];simp only [List.getElem?_toArray,List.getElem?_cons_zero,List.getElem?_cons_succ,Sem.run_bind,ht.s w,ht.x w,ht.size w,Result.andThen,Sem.run_pure,Builtin.lenOf,Bool.false_eq_true,if_false,Bool.not_false,if_true,QK,hi w,hg,W6];simp only [choose,Sem.run,Question.forced,Bool.false_eq_true,if_false,←Zt,run_askRoom,hi,ZH,Vv _ Kc,hz,Result.andThen,Sem.run_bind,Sem.run_pure,newRow,newObj,z6];have he:∀z:Array Value,xs.toArray++ys.toArray++z=(xs++ys++z.toList).toArray:=fun z=>by apply Array.ext';simp
   simp only [he]
  ·simp only [List.length_append,AR,qg,WL];rw [←Nat.add_mul,←Nat.add_mul];congr 1;omega
  ·have h5:=(Kc.qf (xs++ys++sp).toArray elem);exact h5.sub (.cons .here hp.sub)
theorem OJ.append{sT xT elem:TypeId}{u:Value}{ys:List Value}{r:List Ent}(hs:St H w σ)(ht:F1 P sT xT elem m bytes)
  (hx:FS.ev ⟨n,ds,e⟩ x=some v) (hy:FS.ev ⟨n,ds,e⟩ y=some u) (ho:bE m v xs en) (hu:Src P H σ m u k ys) (h1:∀v∈ys,v.oneCell'=true)
  (hb:∀l,xs.length=l*m→(l+k)*bytes≤140737488355328)
  (kk:∀v' jn w',bE m v' (xs++ys) jn→St H w' (jn::r)→K ⟨n,ds,(d,v')::e⟩ w') (hp:Co σ en r:=by repeat constructor) (hd:Nat.blt d n=true:=by rfl):
  OJ P ro ⟨some d,.call ⟨.builtin .append,#[x,y],#[sT,xT]⟩,ty,pos,eZ,none⟩ K ⟨n,ds,e⟩ w:=
 .Lo hs ht hx hy ho hu h1 hb (fun v' jn w' _=>kk v' jn w') hp hd
theorem OJ.MS{elem:TypeId}{q:Nat}{len:Int}{i:TypeInfo}{z:Value}(hs:St H w σ)(hx:FS.ev ⟨n,ds,e⟩ x=some (.int k1 q))(hq:(q:Int)≤len)(hy:FS.ev ⟨n,ds,e⟩ y=some (.int k2 len))
  (hu:∀w,(underlying t).run P w= .ok (.slice elem) w) (hi:∀w,(typeInfo elem).run P w= .ok i w) (hb:i.bytes=bytes) (hz:∀w,(sizeOf elem).run P w= .ok m w) (J6:∀w,(zeroValue elem).run P w= .ok z w)
  (S8:z.cells.size=m:=by rfl) (hm:0<m:=by decide) (h0:0≤len) (h1:len*bytes≤140737488355328)
  (k:∀b w',St H w' (.blk b (List.replicate len.toNat z.cells.toList).flatten::σ)→K ⟨n,ds,(d,.slice (some ⟨b,0,none⟩) q len.toNat)::e⟩ w') (KM:0<bytes:=by decide) (hd:Nat.blt d n=true:=by rfl):
  OJ P ro ⟨some d,.makeSlice t x y,ty,pos,eZ,none⟩ K ⟨n,ds,e⟩ w:=by
 obtain ⟨l,rfl⟩:=Int.eq_ofNat_of_zero_le h0;have hl:l≤140737488355328:=by
  have h2:((l*bytes:Nat):Int)≤140737488355328:=by rw [Int.natCast_mul];exact h1
  have h3:=Nat.le_mul_of_pos_right l KM;omega
 have hw:IntKind.i64.wrap (l:Int)=l:=mH (by omega);have hwq:IntKind.i64.wrap (q:Int)=q:=mH (by omega);have XN:¬((bytes:Int)*(l:Int)>2 ^48):=by rw [Int.mul_comm];omega
 have Ks:∀(zz:Array Value),zz.size=m→((Array.range (l*m)).map (fun j=>zz[j%zz.size]!)).toList=(List.replicate l zz.toList).flatten:=by
  intro zz Zf;apply List.ext_getElem?;intro j;have key:∀(l:Nat) (q:List Value),q.length=m→∀j,(List.replicate l q).flatten[j]? =if j<l*m then q[j%m]? else none:=by
   intro l q hq
   induction l with
   |zero=>intro j;simp
   |succ l ih=>
    intro j;rw [List.replicate_succ,List.flatten_cons,List.getElem?_append,hq,ih];by_cases h1:j<m
    ·have:j<(l+1)*m:=by rw [Nat.add_mul,Nat.one_mul];omega
     simp only [h1,this,if_true,Nat.mod_eq_of_lt h1]
    ·simp only [h1,if_false];have e1:(j - m<l*m)↔(j<(l+1)*m):=by rw [Nat.add_mul,Nat.one_mul];omega
     have e2:(j - m)%m=j%m:=by rw [←Nat.mod_eq_sub_mod (by omega)]
     simp only [e1,e2]
  rw [key l zz.toList (by simpa using Zf) j];by_cases h1:j<l*m
  ·have h2:j%m<m:=Nat.mod_lt _ hm;simp [h1,Zf,h2]
  ·simp [h1]
 obtain ⟨zs,M4⟩:∃zs,zs=(List.replicate l z.cells.toList).flatten:=⟨_,rfl⟩;refine .val (v:= .slice (some ⟨w.heap.size,0,none⟩) q l) (w':={w with heap:=w.heap.push (.cells zs.toArray elem)}) (fun _=>by simp) (fun a ha=>?_) hd (by subst M4;simpa using k _ _ (hs.qf _ _));have Ni:((Array.range (l*m)).map (fun j=>(if l*m=0 then #[] else z.cells)[j%(if l*m=0 then #[] else z.cells).size]!))=zs.toArray:=by
  rw [M4];apply Array.ext';by_cases h1:l*m=0
  ·have:l=0:=by rcases Nat.mul_eq_zero.1 h1 with h|h<;>omega
   subst this;simp
  ·simp only [h1,if_false];simpa using Ks z.cells S8
 simp only [execOp,ha.ev hx,ha.ev hy,Instr.makeSlice,asInt,asIntOf,Sem.run_bind,hu w,Result.andThen,Sem.run_pure,hi w,hb,hw,hwq,Int.toNat_natCast];simp only [show ¬((l:Int)<0) by omega,show ¬((q:Int)<0) by omega,show ¬((q:Int)>l) by omega,decide_false,XN,Bool.or_false,Bool.false_eq_true,if_false];simp only [Sem.run_bind,run_askRoom,hz w,Result.andThen];by_cases h9:l*m=0
 ·simp only [h9,if_true] at Ni ⊢;simp only [Sem.run_bind,Sem.run_pure,Result.andThen,newRow,newObj,Sem.run,Ni]
 ·simp only [h9,if_false] at Ni ⊢;simp only [Sem.run_bind,Sem.run_pure,J6 w,Result.andThen,newRow,newObj,Sem.run,Ni]
theorem OJ.makeSlice{elem:TypeId}{len:Int}{i:TypeInfo}{z:Value}(hs:St H w σ)(hx:FS.ev ⟨n,ds,e⟩ x=some (.int k1 len))(hy:FS.ev ⟨n,ds,e⟩ y=some (.int k2 len))
  (hu:∀w,(underlying t).run P w= .ok (.slice elem) w) (hi:∀w,(typeInfo elem).run P w= .ok i w) (hb:i.bytes=bytes) (hz:∀w,(sizeOf elem).run P w= .ok m w) (J6:∀w,(zeroValue elem).run P w= .ok z w)
  (S8:z.cells.size=m:=by rfl) (hm:0<m:=by decide) (h0:0≤len) (h1:len*bytes≤140737488355328)
  (k:∀b w',St H w' (.blk b (List.replicate len.toNat z.cells.toList).flatten::σ)→K ⟨n,ds,(d,.slice (some ⟨b,0,none⟩) len.toNat len.toNat)::e⟩ w') (KM:0<bytes:=by decide) (hd:Nat.blt d n=true:=by rfl):
  OJ P ro ⟨some d,.makeSlice t x y,ty,pos,eZ,none⟩ K ⟨n,ds,e⟩ w:=by
 obtain ⟨l,rfl⟩:=Int.eq_ofNat_of_zero_le h0;exact .MS hs hx (Int.le_refl _) hy hu hi hb hz J6 S8 hm h0 h1 k KM hd
theorem P4{elem:TypeId}{len:Nat}{lo hi:Int}(hx:FS.ev s x=some (.slice a' len cap)){yl yh:Operand}(hl:FS.ev s yl=some (.int k1 lo))(hh:FS.ev s yh=some (.int k2 hi))
  (hu:∀w,(underlying t).run P w= .ok (.slice elem) w) (hz:∀w,(sizeOf elem).run P w= .ok m w) (h1:0≤lo∧lo≤hi∧hi≤cap):
  QJ P H σ s (.slice t x (some yl) (some yh) none) (.slice (if cap=lo.toNat then a' else a'.map (·.add (lo.toNat*m))) (hi.toNat - lo.toNat) (cap - lo.toNat)):=
 ⟨fun _=>by simp,fun a w _ _ _ _ _ ha _=>by
  have h2:0≤hi∧hi≤(cap:Int):=by omega
  have h3:0≤lo∧lo≤(hi.toNat:Int):=by omega
  simp only [execOp,ha.ev hx,Option.map_some,Option.map_none,ha.ev hl,ha.ev hh,Instr.sliceAt,Instr.slice,Instr.sliceBounds,Instr.sliceBound,asIntOf,Sem.run_bind,hu w,Result.andThen,Sem.run_pure,h2,h3,and_self,if_true,hz w]⟩
theorem Bm{elem:TypeId}{len:Nat}{hi:Int}(hx:FS.ev s x=some (.slice a' len cap)){yh:Operand}(hh:FS.ev s yh=some (.int k2 hi))
  (hu:∀w,(underlying t).run P w= .ok (.slice elem) w) (hz:∀w,(sizeOf elem).run P w= .ok m w) (h1:0≤hi∧hi≤cap):
  QJ P H σ s (.slice t x none (some yh) none) (.slice a' hi.toNat cap):=
 ⟨fun _=>by simp,fun a w _ _ _ _ _ ha _=>by
  have he:(if cap=0 then a' else a'.map (·.add 0))=a':=by
   split
   ·rfl
   ·cases a'<;>simp [Addr.add]
  simp only [execOp,ha.ev hx,Option.map_some,Option.map_none,ha.ev hh,Instr.sliceAt,Instr.slice,Instr.sliceBounds,Instr.sliceBound,asIntOf,Sem.run_bind,hu w,Result.andThen,Sem.run_pure,h1,and_self,if_true,hz w,Nat.zero_mul,he,Nat.sub_zero]⟩
theorem Bl{elem:TypeId}{len:Nat}{lo:Int}(hx:FS.ev s x=some (.slice a' len cap)){yl:Operand}(hl:FS.ev s yl=some (.int k1 lo))
  (hu:∀w,(underlying t).run P w= .ok (.slice elem) w) (hz:∀w,(sizeOf elem).run P w= .ok m w) (h1:0≤lo∧lo≤len):
  QJ P H σ s (.slice t x (some yl) none none) (.slice (if cap=lo.toNat then a' else a'.map (·.add (lo.toNat*m))) (len - lo.toNat) (cap - lo.toNat)):=
 ⟨fun _=>by simp,fun a w _ _ _ _ _ ha _=>by
  simp only [execOp,ha.ev hx,Option.map_some,Option.map_none,ha.ev hl,Instr.sliceAt,Instr.slice,Instr.sliceBounds,Instr.sliceBound,asIntOf,Sem.run_bind,hu w,Result.andThen,Sem.run_pure,h1,and_self,if_true,hz w]⟩
theorem RS.part{len lo hi:Nat}{a:Option Addr}{cs:List (List Value)}(h:RS H m (.slice a len cap) cs)(h1:lo≤hi)(h2:hi≤len):
  RS H m (.slice (if cap=lo then a else a.map (·.add (lo*m))) (hi - lo) (cap - lo)) ((cs.take hi).drop lo):=by
 obtain ⟨a',w8,e,h3,h4,h5⟩:=h;cases e
 have hlen:((cs.take hi).drop lo).length=hi - lo:=by simp;omega
 refine ⟨_,_,by rw [hlen],by omega,by omega,fun i c Ko=>?_⟩;have fU:=(List.getElem?_eq_some_iff.1 Ko).1;rw [List.getElem?_drop,List.getElem?_take] at Ko;split at Ko
 ·obtain ⟨h6,b,off,rfl,h7⟩:=h5 _ c Ko;refine ⟨h6,b,off+lo*m,?_,by rw [Nat.add_assoc,←Nat.add_mul];exact h7⟩;rw [if_neg (by omega)];simp [jI]
 ·cases Ko
theorem Bk{u v:Value}{r:Bool}{op:BinOp}(ho:op= .eql∨op= .neq)(hb:∀w,(binOp op t u v).run P w=(do let r ←Op.equal t u v;pure (.bool (bif decide (op= .eql) then r else !r)):Sem Value).run P w)
  (hg:∀x y,(eqGuard op t x y u v)=pure ()) (hx:FS.ev s x=some u) (hy:FS.ev s y=some v) (h:∀(d:Nat) (w:World),(Op.equalIn (d+1) t u v).run P w= .ok r w):
  QJ P H σ s (.binOp op t x y gL) (.bool (bif decide (op= .eql) then r else !r)):=
 ⟨fun _=>by simp,fun a w _ _ _ _ _ ha _=>by
  have h2:(Op.equal t u v).run P w= .ok r w:=h 9999 w;simp only [execOp,ha.ev hx,ha.ev hy,hg,pure_bind,Sem.run_bind,hb]
  rcases ho with rfl|rfl<;>simp [h2]⟩
theorem AL{elem:TypeId}(hx:FS.ev s x=some (.pointer a'))(hy:FS.ev s y=some (.pointer none))(hu:∀w,(underlying t).run P w= .ok (.pointer elem) w):
  QJ P H σ s (.binOp .eql t x y gL) (.bool a'.isNone):=
 Bk (.inl rfl) (fun w=>by simp [binOp]) (fun x y=>by simp [eqGuard]) hx hy (fun d w=>by cases a'<;>simp [Op.equalIn,hu w])
theorem Dh{elem:TypeId}{len:Nat}(hx:FS.ev s x=some (.slice a' len cap))(hy:FS.ev s y=some (.slice none 0 0))(hu:∀w,(underlying t).run P w= .ok (.slice elem) w):
  QJ P H σ s (.binOp .eql t x y gL) (.bool a'.isNone):=
 Bk (.inl rfl) (fun w=>by simp [binOp]) (fun x y=>by simp [eqGuard]) hx hy (fun d w=>by cases a'<;>simp [Op.equalIn,hu w])
theorem Wd{p q:Bool}(hx:FS.ev s x=some (.bool p))(hy:FS.ev s y=some (.bool q))(hu:∀w,(underlying t).run P w= .ok .bool w):
  QJ P H σ s (.binOp .eql t x y gL) (.bool (p==q)):=
 Bk (.inl rfl) (fun w=>by simp [binOp]) (fun x y=>by simp [eqGuard]) hx hy (fun d w=>by simp [Op.equalIn,hu w])
theorem Sz{p q:Bool}(hx:FS.ev s x=some (.bool p))(hy:FS.ev s y=some (.bool q))(hu:∀w,(underlying t).run P w= .ok .bool w):
  QJ P H σ s (.binOp .neq t x y gL) (.bool (!(p==q))):=
 Bk (.inr rfl) (fun w=>by simp [binOp]) (fun x y=>by simp [eqGuard]) hx hy (fun d w=>by simp [Op.equalIn,hu w])
def Cl(P:Program)(f:FuncId)(args:List Value)(w:World)(R:Value→World→Prop):Prop:=
 Calls P f args.toArray w fun e w'=>∃v,e= .returned v∧R v w'
theorem Cl.mono{f:FuncId}{R':Value→World→Prop}(h:Cl P f args w R)(hr:∀v w',R v w'→R' v w'):Cl P f args w R':=
 Calls.mono h fun _ _ ⟨v,h1,h2⟩=>⟨v,h1,hr _ _ h2⟩
theorem A3{nn:Nat}{f:FuncId}{args:Array Value}{R:Ending→World→Prop}(h:Calls P f args w R):CallsIn (FW ro) nn P f args w R:=
 ⟨trivial,fun cs _=>(callsIn_wide (n:=nn).2 h).2 cs (room_wide _)⟩
theorem OJ.jN{f:FuncId}{fx:Operand}{l:List Operand}{first cap:List Value}{ts:Array TypeId}(hf:FS.ev ⟨n,ds,e⟩ fx=some (.func (.func f) first.toArray cap.toArray))(hv:evs ⟨n,ds,e⟩ l=some vs)
  (hc:∀args w,(callFunc f args).run P w= .ok (.enter f args) w) (yO:Cl P f (first++vs++cap) w R) (k:∀v w',R v w'→K ⟨n,ds,(d,v)::e⟩ w') (hd:Nat.blt d n=true:=by rfl):
  OJ P ro ⟨some d,.call ⟨.value fx,l.toArray,ts⟩,ty,pos,eZ,none⟩ K ⟨n,ds,e⟩ w:=fun a ha=>by
 refine ⟨fun _ _=>trivial,?_⟩;rw [Oper.semAt_eq _ _ _ (by simp)];simp only [execOp,resolve,List.map_toArray,B3 ha hv,ha.ev hf,Deferred.ofValue,Sem.run_bind,Sem.run_pure,Result.andThen,invoke,hc];refine ⟨fun h=>(by cases h),?_⟩;have h2:(first.toArray++vs.toArray++cap.toArray)=(first++vs++cap).toArray:=by simp
 rw [h2];refine CallsIn.mono (A3 yO) fun en w' ⟨v,h1,h3⟩=>?_
 subst h1;exact ⟨_,ha.put hd v,k v w' h3⟩
theorem OJ.call{f:FuncId}{l:List Operand}{ts:Array TypeId}(hc:∀args w,(callFunc f args).run P w= .ok (.enter f args) w)(hv:evs ⟨n,ds,e⟩ l=some vs)
  (yO:Cl P f vs w R) (k:∀v w',R v w'→K ⟨n,ds,(d,v)::e⟩ w') (hd:Nat.blt d n=true:=by rfl):
  OJ P ro ⟨some d,.call ⟨.value (.func f),l.toArray,ts⟩,ty,pos,eZ,none⟩ K ⟨n,ds,e⟩ w:=
 .jN (first:=[]) (cap:=[]) rfl hv hc (by simpa using yO) k hd
def Lv(P:Program)(fn:Func)(R:Value→World→Prop)(s:FS):List Deferred→World→Prop
 |[],w=>∃v,(∀a,Sim s a→(results fn a.tmps).run P w= .ok v w)∧R v w
 |d::ds,w=>∃r w',d.target= .collected r∧(Instr.takeDeferred r).run P w= .ok [] w'∧Lv P fn R s ds w'
def Fin(P:Program)(fn:Func)(R:Value→World→Prop):Exit→FS→World→Prop
 | .normal,s,w=>Lv P fn R s s.ds w
 | .ret,s,w=>Lv P fn R s s.ds w
 | .exit _,_,_=>False
 | .goto _,_,_=>False
 | .panic _,_,_=>False
 | .outgrown,_,_=>False
theorem Lv.leaves{fn:Func}{s:FS}{a:Act}(ha:Sim s a):∀(l:List Deferred) (w:World),Lv P fn R s l w→
  LeavesInM (FW none) 0 P fn a.tmps (fun e w'=>∃v,e= .returned v∧R v w') l .returning w:=by
 intro l
 induction l with
 |nil=>intro w ⟨v,h1,h2⟩;exact ⟨v,h1 a ha,v,rfl,h2⟩
 |cons d l ih=>intro w ⟨r,w',h1,h2,h3⟩;exact ⟨by simp,.inl ⟨r,w',h1,h2,ih w' h3⟩⟩
theorem BX{i:Nat}{v:Value}(h:args[i]? =some v):(args.toArray++Array.replicate k undef).getD i undef=v:=by
 have hl:=(List.getElem?_eq_some_iff.1 h).1;rw [Array.getD_eq_getD_getElem?,Array.getElem?_append_left (by simpa using hl)];simp [h]
theorem Cl.of{f:FuncId}{fn:Func}{c:Code}{nn:Nat}{e:List (Nat×Value)}(hf:P.funcs[f]? =some fn)(hb:fn.body=some c)(hn:fn.ntmps=nn)
  (hl:args.length≤nn) (he:∀i v,get e i=some v→args[i]? =some v) (h:WE P none c (Fin P fn R) ⟨nn,[],e⟩ w):Cl P f args w R:=by
 refine (callsIn_wide (n:=0)).1 (callsIn_of_wp_marks hf hb trivial ?_);refine wpIn_mono (h _ ⟨?_,rfl,fun t v hv=>?_⟩) ?_
 ·simp [hn];omega
 ·exact BX (he t v hv)
 ·rintro x a w ⟨s,h1,h2⟩
  cases x with
  |normal=>simp only [bodyPostM,h1.ds];exact Lv.leaves h1 _ _ h2
  |ret=>simp only [bodyPostM,h1.ds];exact Lv.leaves h1 _ _ h2
  |_=>exact h2.elim
theorem Ar:∀i v,get [] i=some v→args[i]? =some v:=fun _ _ h=>by cases h
theorem dH{u:Value}{e:List (Nat×Value)}(hk:args[k]? =some u)(h:∀i v,get e i=some v→args[i]? =some v):∀i v,get ((k,u)::e) i=some v→args[i]? =some v:=fun i v hi=>by
 simp only [get] at hi
 cases hb:Nat.beq k i with
 |true=>rw [hb] at hi;simp only [cond_true,Option.some.injEq] at hi;rw [←Nat.eq_of_beq_eq_true hb,←hi];exact hk
 |false=>rw [hb] at hi;exact h i v hi
theorem Fin.Su{fn:Func}(hr:fn.results=#[])(h:R (.tuple #[]) w):Fin P fn R .ret ⟨n,[],e⟩ w:=
 ⟨_,fun a _=>by simp [results,hr],h⟩
theorem Fin.zG{fn:Func}(hr:fn.results=#[])(h:R (.tuple #[]) w):Fin P fn R .normal ⟨n,[],e⟩ w:=
 ⟨_,fun a _=>by simp [results,hr],h⟩
theorem Fin.aW{fn:Func}{t:Tmp}(hr:fn.results=#[.tmp t])(hv:get e t=some v)(h:R v w):Fin P fn R .ret ⟨n,[],e⟩ w:=
 ⟨v,fun a ha=>by have:=ha.val t v hv;simp [results,hr];simpa using this,h⟩
theorem Fin.mh{fn:Func}{t1 t2:Tmp}{v1 v2:Value}(hr:fn.results=#[.tmp t1,.tmp t2])(h1:get e t1=some v1)(h2:get e t2=some v2)(h:R (.tuple #[v1,v2]) w):Fin P fn R .ret ⟨n,[],e⟩ w:=
 ⟨_,fun a ha=>by have e1:=ha.val _ _ h1;have e2:=ha.val _ _ h2;simp [results,hr];simp at e1 e2;exact ⟨e1,e2⟩,h⟩
theorem Fin.V4{fn:Func}{t1 t2 t3:Tmp}{v1 v2 v3:Value}(hr:fn.results=#[.tmp t1,.tmp t2,.tmp t3])(h1:get e t1=some v1)(h2:get e t2=some v2)(h3:get e t3=some v3)(h:R (.tuple #[v1,v2,v3]) w):Fin P fn R .ret ⟨n,[],e⟩ w:=
 ⟨_,fun a ha=>by have e1:=ha.val _ _ h1;have e2:=ha.val _ _ h2;have e3:=ha.val _ _ h3;simp [results,hr];simp at e1 e2 e3;exact ⟨e1,e2,e3⟩,h⟩
end Go.MW
namespace Go.MW
variable{fuel i t':Nat}{listed cU:List Bool}{g:Option (Nat×Bool)}
variable{P:Program}{ro:Option Nat}{Q:Exit→FS→World→Prop}{K:FS→World→Prop}{ops:Array Oper}{s:FS}{w:World}
 {H:bp} {σ τ:List Ent} {n d:Nat} {ds:List Deferred} {e:List (Nat×Value)} {op:Op} {ty t:TypeId} {pos:String} {eZ:Array Edge} {v:Value} {x y:Operand}
def AnyA(P:Program)(ro:Option Nat)(ops:Array Oper)(K:Act→World→Prop):Nat→Array Bool→Act→World→Prop:=
 wpAnyIn (FW ro) 0 P .any ops (fun x a w=>match x with| .normal=>K a w|_=>False)
def YI(P:Program)(ops:Array Oper)(I:World→Prop)(o:Oper)(v:Value)(a:Act):Prop:=
 (∀c,o.op≠.defer c)∧((Region.wanted o (yielded ops a.tmps)=true∧∀w,I w→(execOp a.eval o).run P w= .ok (.value v) w)∨
 (Region.wanted o (yielded ops a.tmps)=false∧v=undef))
theorem YI.same{I:World→Prop}{o:Oper}{v:Value}{a a':Act}(hy:YI P ops I o v a)(he:execOp a'.eval o=execOp a.eval o)
  (hw:Region.wanted o (yielded ops a'.tmps)=Region.wanted o (yielded ops a.tmps)):YI P ops I o v a':=by
 unfold YI at*;rw [he,hw];exact hy
abbrev qk:=Nat×bp×List Ent
def Sf(Pm:List qk)(w:World):Prop:=∀p∈Pm,St p.2.1 w p.2.2
def bnd(ops:Array Oper)(j i:Nat):Bool:=
 match ops[j]? with
 |some o=>o.after.toList.any fun e=>Region.binds .any e&&Nat.beq e.on i
 |none=>false
def EX(P:Program)(ro:Option Nat)(ops:Array Oper)(K:Act→World→Prop):Nat→Array Bool→List qk→Act→World→Prop
 |0,listed,_,a,w=>Region.ready .any ops listed=[]∧K a w
 |fuel+1,listed,Pm,a,w=>Sf Pm w∧
  (Region.ready .any ops listed=[]→K a w)∧
  ∀i∈Region.ready .any ops listed,wpOpIn (FW ro) 0 P ops (fun _ _ _=>False) i (fun a' w'=>∃zH:List qk,(∀p∈Pm,bnd ops i p.1=true∨p∈zH)∧Sf zH w'∧EX P ro ops K fuel (listed.setIfInBounds i true) zH a' w') a w
theorem EX.any{K:Act→World→Prop}:∀(fuel:Nat) (listed:Array Bool) (Pm:List qk) (a:Act) (w:World),EX P ro ops K fuel listed Pm a w→AnyA P ro ops K fuel listed a w:=by
 have hQ:∀i (K1 K2:Act→World→Prop),(∀a w,K1 a w→K2 a w)→∀a w,wpOpIn (FW ro) 0 P ops (fun _ _ _=>False) i K1 a w→wpOpIn (FW ro) 0 P ops (fun x a w=>match x with| .normal=>K a w|_=>False) i K2 a w:=by
  intro i K1 K2 hk a w h;have h:=wpOpIn_mono hk h;unfold wpOpIn at*;split
  ·rename_i e;simpa [e] using h
  ·rename_i o e;simp only [e] at h;split
   ·rename_i hw;simp only [hw,if_true] at h;exact Oe h
   ·rename_i hw;simp only [hw] at h;exact h
 intro fuel
 induction fuel with
 |zero=>intro listed Pm a w h;exact h
 |succ fuel ih=>
  intro listed Pm a w h;exact ⟨h.2.1,fun i hi=>hQ i _ _ (fun a w ⟨zH,_,_,h⟩=>ih _ zH a w h) a w (h.2.2 i hi)⟩
theorem EX.drop{K:Act→World→Prop}{listed:Array Bool}{Pm Pn:List qk}{a:Act}{w:World}(h:EX P ro ops K fuel listed Pm a w)(hp:∀p∈Pn,p∈Pm):EX P ro ops K fuel listed Pn a w:=by
 cases fuel with
 |zero=>exact h
 |succ fuel=>exact ⟨fun p QD=>h.1 p (hp p QD),h.2.1,fun i hi=>wpOpIn_mono (fun a' w' ⟨zH,g1,g2⟩=>⟨zH,fun p QD=>g1 p (hp p QD),g2⟩) (h.2.2 i hi)⟩
theorem YI.run{I:World→Prop}{o:Oper}{v:Value}{a:Act}(hi:ops[i]? =some o)(hy:YI P ops I o v a)
  {K:Act→World→Prop} {w:World} (hw:I w) (h:K (a.put o.dst v) w):wpOpIn (FW ro) 0 P ops (fun _ _ _=>False) i K a w:=by
 unfold wpOpIn;simp only [hi];obtain ⟨hd,⟨h1,h2⟩|⟨h1,rfl⟩⟩:=hy
 ·simp only [h1,if_true];refine ⟨fun _ _=>trivial,?_⟩;rw [Oper.semAt_eq _ _ _ hd,h2 w hw];exact h
 ·simp only [h1,Bool.false_eq_true,if_false];exact ⟨fun _ _=>trivial,h⟩
theorem ML{I:World→Prop}{j:Nat}{oi oj:Oper}{v:Value}(hj:ops[j]? =some oj)(hap:oi.apart ops oj=true)
  (hsi:∀cs b,oi.op≠.select cs b) (hsj:∀cs b,oj.op≠.select cs b) {K:Act→World→Prop} {a:Act} {w:World}
  (hy:YI P ops I oi v a) (h:wpOpIn (FW ro) 0 P ops (fun _ _ _=>False) j K (a.put oi.dst v) w):
  wpOpIn (FW ro) 0 P ops (fun _ _ _=>False) j (fun a' w'=>YI P ops I oi v a'∧K (a'.put oi.dst v) w') a w:=by
 obtain ⟨h1,h2,h3⟩:=Oper.apart_spec hap;have keep:∀(a:Act),YI P ops I oi v a→∀u,YI P ops I oi v (a.put oj.dst u):=fun a hy u=>
  hy.same (execOp_put oi hsi a oj.dst u h3) (wanted_put oi a oj.dst u h3)
 have keepD:∀d,YI P ops I oi v {a with defers:=d::a.defers}:=fun d=>hy.same rfl rfl
 unfold wpOpIn at*;simp only [hj] at*;rw [wanted_put oj a oi.dst v h1] at h;have WT:oj.semAt (FW ro).round (a.put oi.dst v).eval=oj.semAt (FW ro).round a.eval:=by
  have he:=execOp_put oj hsj a oi.dst v h1;by_cases HX:∃c,oj.op= .defer c
  ·obtain ⟨c,Vq⟩:=HX;have hr:∀x∈c.operands,(a.put oi.dst v).eval x=a.eval x:=fun x hx=>Act.eval_put fun d hd hxd=>h1 d hd (by
    subst hxd;exact List.mem_append_left _ (List.mem_filterMap.2 ⟨.tmp d,by rw [Vq];simpa [Op.operands] using hx,rfl⟩))
   unfold Oper.semAt;rw [Vq]
   cases ro with
   |none=>simp only [he]
   |some l=>simp only [resolve_congr c oj.type hr]
  ·rw [Oper.semAt_eq _ _ _ (fun c e=>HX ⟨c,e⟩),Oper.semAt_eq _ _ _ (fun c e=>HX ⟨c,e⟩),he]
 split
 ·rename_i hw;simp only [hw,if_true] at h;unfold Oper.wpIn at*;refine ⟨fun _ _=>trivial,?_⟩;have h:=h.2;rw [WT] at h;generalize (oj.semAt (FW ro).round a.eval).run P w=r at*
  cases r with
  |ok x w'=>
   cases x<;>simp only [Oper.uponIn] at h ⊢
   case value u=>exact ⟨keep a hy u,by rw [←Act.put_comm a v u h2];exact h⟩
   case skip=>exact ⟨keep a hy _,by rw [←Act.put_comm a v undef h2];exact h⟩
   case defer d=>
    refine ⟨keep _ (keepD d) _,?_⟩;rw [←Act.put_comm _ v undef h2,←Act.put_defers];exact h
   case enter f args=>
    refine ⟨h.1,CallsIn.mono h.2 fun e w'' he=>?_⟩
    cases e with
    |returned u=>exact ⟨keep a hy u,by rw [←Act.put_comm a v u h2];exact he⟩
    |panicked c=>exact he
    |outgrown=>exact he
   case row row args=>exact ⟨h.1,RowsIn.mono h.2 fun u w'' he=>⟨keep a hy u,by rw [←Act.put_comm a v u h2];exact he⟩⟩
   case round l f tmps assign body=>
    refine ⟨h.1,RoundIn.mono h.2 fun e w'' he=>?_⟩
    cases e with
    |returned u=>exact ⟨keep a hy u,by rw [←Act.put_comm a v u h2];exact he⟩
    |panicked c=>exact he
    |outgrown=>exact he
  |halt x w'=>cases x<;>simp only [Oper.uponIn] at h ⊢
 ·rename_i hw;simp only [hw] at h;exact ⟨fun _ _=>trivial,keep a hy _,by rw [←Act.put_comm a v undef h2];exact h.2⟩
theorem EX.first{oi:Oper}{v:Value}{pr:bp×List Ent}(hi:ops[i]? =some oi)(Ti:∀(j:Nat) (o:Oper) cs b,ops[j]? =some o→o.op≠.select cs b){K:Act→World→Prop}:
  ∀(fuel:Nat) (listed:Array Bool) (Pm:List qk) (a:Act) (w:World),
   (∀j oj,ops[j]? =some oj→j≠i→listed.getD j true=false→(∀e∈oj.after,Region.binds .any e=true→e.on≠i)→oi.apart ops oj=true)→
   i∈Region.ready .any ops listed→YI P ops (fun w=>St pr.1 w pr.2) oi v a→Sf ((i,pr)::Pm) w→
   EX P ro ops K fuel (listed.setIfInBounds i true) ((i,pr)::Pm) (a.put oi.dst v) w→EX P ro ops K (fuel+1) listed Pm a w:=by
 intro fuel
 induction fuel with
 |zero=>
  intro listed Pm a w _ hr hy hw H;refine ⟨fun p hp=>hw p (.tail _ hp),fun h=>(by rw [h] at hr;cases hr),fun j hj=>?_⟩;by_cases Nd:j=i
  ·subst Nd;exact hy.run hi (hw _ (.head _)) ⟨(j,pr)::Pm,fun p hp=> .inr (.tail _ hp),hw,H⟩
  ·have:=ready_mono hj Nd;rw [H.1] at this;cases this
 |succ fuel ih=>
  intro listed Pm a w OX hr hy hw H;refine ⟨fun p hp=>hw p (.tail _ hp),fun h=>(by rw [h] at hr;cases hr),fun j hj=>?_⟩;by_cases Nd:j=i
  ·subst Nd;exact hy.run hi (hw _ (.head _)) ⟨(j,pr)::Pm,fun p hp=> .inr (.tail _ hp),hw,H⟩
  ·have h1:=H.2.2 j (ready_mono hj Nd);obtain ⟨TJ,oj,Vr,rX⟩:=mem_ready.1 hj;have DR:∀e∈oj.after,Region.binds .any e=true→e.on≠i:=fun e he hb heq=>by
    have h1:=rX e he hb;have h0:=(mem_ready.1 hr).1;rw [heq] at h1
    rcases Nat.lt_or_ge i listed.size with h'|h'
    ·simp [h'] at h0 h1;rw [h0] at h1;cases h1
    ·simp [Array.getElem?_eq_none h'] at h1
   have hnb:bnd ops j i=false:=by
    unfold bnd;rw [Vr];simp only [List.any_eq_false,Bool.and_eq_true,not_and];intro e he hb hn;exact DR e (by simpa using he) hb (Nat.eq_of_beq_eq_true hn)
   have h2:=ML Vr (OX j oj Vr Nd TJ DR) (fun cs b=>Ti i oi cs b hi) (fun cs b=>Ti j oj cs b Vr) hy h1;have QI:∀k ok,ops[k]? =some ok→k≠i→(listed.setIfInBounds j true).getD k true=false→
     (∀e∈ok.after,Region.binds .any e=true→e.on≠i)→oi.apart ops ok=true:=fun k ok hk hki OE ew=>by
    refine OX k ok hk hki ?_ ew;by_cases Vy:j=k
    ·subst Vy;exact TJ
    ·rw [getD_set_ne true Vy] at OE;exact OE
   refine wpOpIn_mono (fun a' w' ⟨h3,zH,h4,h5,h6⟩=>?_) h2;have fH:(i,pr)∈zH:=by
    rcases h4 _ (.head _) with h|h
    ·rw [hnb] at h;cases h
    ·exact h
   refine ⟨zH,fun p hp=>h4 p (.tail _ hp),h5,ih (listed.setIfInBounds j true) zH a' w' QI (ready_mono hr (Ne.symm Nd)) h3 (fun p hp=>?_) ?_⟩
   ·cases hp with
    |head=>exact h5 _ fH
    |tail _ hp=>exact h5 _ hp
   ·rw [Array.setIfInBounds_comm _ _ Nd];exact h6.drop fun p hp=>by
     cases hp with
     |head=>exact fH
     |tail _ hp=>exact hp
def DO(P:Program)(ro:Option Nat)(ops:Array Oper)(K:FS→World→Prop)(fuel:Nat)(listed:List Bool)(Pm:List qk)(s:FS)(w:World):Prop:=
 Sf Pm w∧∀a,Sim s a→EX P ro ops (fun a w=>∃s,Sim s a∧K s w) fuel listed.toArray Pm a w
theorem WE.draw{id:Nat}{l:List Oper}{k:Nat}(hm:P.follows .mixedOrders=true)(hk:l.length=k)(hs:St H w σ)(h:∀w,St H w σ→DO P ro l.toArray (Q .normal) k (List.replicate k false) [] s w):
  WE P ro (.region id l.toArray true) Q s w:=fun a ha=>by
 refine wpIn_mono (wpIn_region_any hm (EX.any _ _ [] _ _ ?_)) (fun x a w hx=>?_) (Q:=fun x a w=>match x with| .normal=>∃s,Sim s a∧Q .normal s w|_=>False)
 ·have:=(h _ (hs.drawn (w.drawn+1))).2 a ha;simpa [hk] using this
 ·cases x with
  |normal=>exact hx
  |_=>exact hx.elim
inductive IE(H:bp)(σ:List Ent):List qk→Prop
 |nil:IE H σ []
 |cons {i:Nat} {H':bp} {σ':List Ent} {Pm:List qk} (hl:HLe H' H) (hs:Sub σ' σ) (t:IE H σ Pm):IE H σ ((i,H',σ')::Pm)
theorem IE.hold{Pm:List qk}(h:IE H σ Pm)(hs:St H w σ):Sf Pm w:=by
 induction h with
 |nil=>intro p hp;cases hp
 |cons hl BN t ih=>
  intro p hp
  cases hp with
  |head=>exact (hs.le hl).sub BN
  |tail _ hp=>exact ih p hp
theorem DO.done{Pm:List qk}(hr:Region.ready .any ops listed.toArray=[])(hs:St H w σ)(h:K s w)
  (hp:IE H σ Pm:=by repeat (first|exact .nil|refine .cons (by first|exact HLe.bot _|exact HLe.refl _|assumption) (by repeat constructor) ?_)):DO P ro ops K fuel listed Pm s w:=by
 refine ⟨hp.hold hs,fun a ha=>?_⟩
 cases fuel with
 |zero=>exact ⟨hr,s,ha,h⟩
 |succ f=>exact ⟨hp.hold hs,fun _=>⟨s,ha,h⟩,by rw [hr];simp⟩
def qn(ops:Array Oper)(listed:Array Bool)(i:Nat):Bool:=Region.noSelect ops&&Region.free .any ops listed i&&(Region.ready .any ops listed).contains i
theorem PO{s:FS}{a:Act}(o:Oper){j t':Nat}{want bb:Bool}(hg:o.guard=some (j,want))(ha:Sim s a)(hj:(ops[j]?).bind (·.dst)=some t')(ht:get s.e t'=some (.bool bb))(Ab:bb=want):Region.wanted o (yielded ops a.tmps)=true:=by
 have hl:t'<a.tmps.size:=by
  rcases Nat.lt_or_ge t' a.tmps.size with h|h
  ·exact h
  ·have:=ha.val t' _ ht;simp [Array.getElem?_eq_none h,undef] at this
 have hv:a.tmps[t']? =some (.bool bb):=by have:=ha.val t' _ ht;simp [hl] at this ⊢;exact this
 have hy:yielded ops a.tmps j=some bb:=by unfold yielded;rw [hj];simp [hv]
 simp [Region.wanted,hg,hy,Ab]
inductive GOk(ops:Array Oper)(e:List (Nat×Value)):Option (Nat×Bool)→Prop
 |none:GOk ops e none
 |some {j t':Nat} {want:Bool} (hj:(ops[j]?).bind (·.dst)=some t') (ht:get e t'=some (.bool want)):GOk ops e (some (j,want))
theorem GOk.wanted{dst:Option Tmp}{a:Act}(h:GOk ops e g)(ha:Sim ⟨n,ds,e⟩ a):Region.wanted ⟨dst,op,ty,pos,eZ,g⟩ (yielded ops a.tmps)=true:=by
 cases h with
 |none=>rfl
 |some hj ht=>exact PO _ rfl ha hj ht rfl
theorem DO.q{Pm:List qk}(σ':List Ent)(hi:ops[i]? =some ⟨some d,op,ty,pos,eZ,g⟩)(hb:qn ops listed.toArray i=true)(hg:GOk ops e g)(hq:QJ P H σ' ⟨n,ds,e⟩ op v)
  (k:DO P ro ops K fuel cU ((i,H,σ')::Pm) ⟨n,ds,(d,v)::e⟩ w) (hl:listed.set i true=cU:=by rfl) (hd:Nat.blt d n=true:=by rfl):DO P ro ops K (fuel+1) listed Pm ⟨n,ds,e⟩ w:=by
 subst hl;simp only [qn,Bool.and_eq_true] at hb;refine ⟨fun p hp=>k.1 p (.tail _ hp),fun a ha=>?_⟩;refine EX.first (v:=v) (pr:=(H,σ')) hi (Region.noSelect_spec hb.1.1) fuel _ _ a w (Region.free_spec hi hb.1.2) (by simpa using hb.2) ⟨hq.1,.inl ⟨hg.wanted ha,fun w hw=>hq.2 a w _ _ _ _ _ ha hw⟩⟩ k.1 ?_
 have:=k.2 _ (ha.put hd v);simpa using this
theorem St.Sm(w:World):St .bot w []:=⟨fun _ _ h=>(by cases h),fun _ h=>(by cases h),.nil,fun _ h=>(by cases h),fun _ h=>(by cases h)⟩
theorem DO.p{Pm:List qk}(hi:ops[i]? =some ⟨some d,op,ty,pos,eZ,g⟩)(hb:qn ops listed.toArray i=true)(hg:GOk ops e g)(hq:QJ P .bot [] ⟨n,ds,e⟩ op v)
  (k:DO P ro ops K fuel cU Pm ⟨n,ds,(d,v)::e⟩ w) (hl:listed.set i true=cU:=by rfl) (hd:Nat.blt d n=true:=by rfl):DO P ro ops K (fuel+1) listed Pm ⟨n,ds,e⟩ w:=by
 have triv':∀(fuel:Nat) (listed:Array Bool) (Pm:List qk) (a:Act) (w:World),EX P ro ops (fun a w=>∃s,Sim s a∧K s w) fuel listed Pm a w→EX P ro ops (fun a w=>∃s,Sim s a∧K s w) fuel listed ((i,.bot,[])::Pm) a w:=by
  intro fuel
  induction fuel with
  |zero=>intro listed Pm a w h;exact h
  |succ fuel ih=>
   intro listed Pm a w h;refine ⟨fun p hp=>?_,h.2.1,fun j hj=>wpOpIn_mono (fun a' w' ⟨zH,g1,g2,g3⟩=>⟨(i,.bot,[])::zH,fun p hp=>?_,fun p hp=>?_,ih _ _ _ _ g3⟩) (h.2.2 j hj)⟩
   ·cases hp with
    |head=>exact St.Sm w
    |tail _ hp=>exact h.1 p hp
   ·cases hp with
    |head=>exact .inr (.head _)
    |tail _ hp=>exact (g1 p hp).imp id (fun h=> .tail _ h)
   ·cases hp with
    |head=>exact St.Sm _
    |tail _ hp=>exact g2 p hp
 exact .q [] hi hb hg hq ⟨fun p hp=>by
  cases hp with
  |head=>exact St.Sm w
  |tail _ hp=>exact k.1 p hp,fun a ha=>triv' _ _ _ _ _ (k.2 a ha)⟩ hl hd
theorem DO.load{Pm:List qk}{b off:Nat}{c:List Value}(_:St H w σ)(hi:ops[i]? =some ⟨some d,.load t x,ty,pos,eZ,g⟩)(hb:qn ops listed.toArray i=true)(hg:GOk ops e g)
  (hx:FS.ev ⟨n,ds,e⟩ x=some (.pointer (some ⟨b,off,none⟩))) (ha:∀w,(isAgg t).run P w= .ok false w)
  (k:DO P ro ops K fuel cU ((i,.bot,[.blk b c])::Pm) ⟨n,ds,(d,v)::e⟩ w) (_:Mem σ (.blk b c):=by repeat (first|exact .here|refine .there ?_)) (hv:c[off]? =some v:=by first|rfl|exact js (by first|assumption|omega)) (hl:listed.set i true=cU:=by rfl) (hd:Nat.blt d n=true:=by rfl):
  DO P ro ops K (fuel+1) listed Pm ⟨n,ds,e⟩ w:= .q [.blk b c] hi hb hg (eM hx ha .here hv) k hl hd
theorem DO.zR{Pm:List qk}{b off:Nat}{c vs:List Value}(_:St H w σ)(hi:ops[i]? =some ⟨some d,.load t x,ty,pos,eZ,g⟩)(hb:qn ops listed.toArray i=true)(hg:GOk ops e g)
  (hx:FS.ev ⟨n,ds,e⟩ x=some (.pointer (some ⟨b,off,none⟩))) (ha:∀w,(isAgg t).run P w= .ok true w) (hz:∀w,(sizeOf t).run P w= .ok vs.length w)
  (k:DO P ro ops K fuel cU ((i,.bot,[.blk b c])::Pm) ⟨n,ds,(d,.agg vs.toArray)::e⟩ w) (_:Mem σ (.blk b c):=by repeat (first|exact .here|refine .there ?_)) (hv:(c.drop off).take vs.length=vs:=by rfl) (hl:listed.set i true=cU:=by rfl) (hd:Nat.blt d n=true:=by rfl):
  DO P ro ops K (fuel+1) listed Pm ⟨n,ds,e⟩ w:= .q [.blk b c] hi hb hg (gY hx ha hz .here hv) k hl hd
theorem DO.r{Pm:List qk}(_:St H w σ)(hi:ops[i]? =some ⟨some d,op,ty,pos,eZ,g⟩)(hb:qn ops listed.toArray i=true)(hg:GOk ops e g)(hq:QJ P H [] ⟨n,ds,e⟩ op v)
  (k:DO P ro ops K fuel cU ((i,H,[])::Pm) ⟨n,ds,(d,v)::e⟩ w) (hl:listed.set i true=cU:=by rfl) (hd:Nat.blt d n=true:=by rfl):
  DO P ro ops K (fuel+1) listed Pm ⟨n,ds,e⟩ w:= .q [] hi hb hg hq k hl hd
theorem DO.ixX{α:Type}{enc:α→List Value}{xs:List α}{m k:Nat}{x':α}{elem:TypeId}{q:IntKind}{z:Int}{Pm:List qk}(_:St H w σ)(hi:ops[i]? =some ⟨some d,.indexAddr t x y,ty,pos,eZ,g⟩)(hb:qn ops listed.toArray i=true)(hg:GOk ops e g)
  (hr:RS H m v (xs.map enc)) (hx:FS.ev ⟨n,ds,e⟩ x=some v) (hy:FS.ev ⟨n,ds,e⟩ y=some (.int q z))
  (hu:∀w,(underlying t).run P w= .ok (.slice elem) w) (hz:∀w,(sizeOf elem).run P w= .ok m w) (hk:xs[k]? =some x') (OC:z=(k:Int))
  (kk:∀b off,bI H b off (enc x')→DO P ro ops K fuel cU Pm ⟨n,ds,(d,.pointer (some ⟨b,off,none⟩))::e⟩ w) (hl:listed.set i true=cU:=by rfl) (hd:Nat.blt d n=true:=by rfl):
  DO P ro ops K (fuel+1) listed Pm ⟨n,ds,e⟩ w:=by
 subst OC;obtain ⟨fU,he⟩:=List.getElem?_eq_some_iff.1 hk;obtain ⟨a,cap,rfl⟩:=hr.shape;obtain ⟨b,off,rfl,h1,h2⟩:=hr.at (i:=k) (by simpa using fU);have hp:QJ P .bot [] ⟨n,ds,e⟩ (.indexAddr t x y) (.pointer (some ⟨b,off+k*m,none⟩)):=by
  have:=Bn (P:=P) (H:= .bot) (σ:=[]) hx hy hu hz (i:=(k:Int)) ⟨by omega,by simpa using fU⟩;simpa using this
 exact .p hi hb hg hp (kk _ _ (by simpa [he] using h1)) hl hd
theorem DO.qF{j:Nat}{want:Bool}{u:Value}{Pm:List qk}(hi:ops[i]? =some ⟨some d,op,ty,pos,eZ,some (j,want)⟩)(hb:qn ops listed.toArray i=true)
  (hj:(ops[j]?).bind (·.dst)=some t') (ht:get e t'=some u)
  (k:DO P ro ops K fuel cU ((i,.bot,[])::Pm) ⟨n,ds,(d,undef)::e⟩ w) (hl:listed.set i true=cU:=by rfl) (Ab:u≠.bool want:=by simp [undef]) (HX:∀c,op≠.defer c:=by simp) (hd:Nat.blt d n=true:=by rfl):DO P ro ops K (fuel+1) listed Pm ⟨n,ds,e⟩ w:=by
 subst hl;simp only [qn,Bool.and_eq_true] at hb;refine ⟨fun p hp=>k.1 p (.tail _ hp),fun a ha=>?_⟩;have hw:Region.wanted ⟨some d,op,ty,pos,eZ,some (j,want)⟩ (yielded ops a.tmps)=false:=by
  have hy:¬yielded ops a.tmps j=some want:=by
   unfold yielded;rw [hj];intro hh;simp only [Option.bind_some] at hh
   rcases Nat.lt_or_ge t' a.tmps.size with hl|hl
   ·have:=ha.val t' _ ht;simp only [Array.getD_eq_getD_getElem?,Array.getElem?_eq_getElem hl,Option.getD_some] at this;rw [Array.getElem?_eq_getElem hl,this] at hh;cases u<;>simp at hh
    exact Ab (by rw [hh])
   ·rw [Array.getElem?_eq_none hl] at hh;simp at hh
  simp [Region.wanted,hy]
 refine EX.first (v:=undef) (pr:=((.bot:bp),[])) hi (Region.noSelect_spec hb.1.1) fuel _ _ a w (Region.free_spec hi hb.1.2) (by simpa using hb.2) ⟨HX,.inr ⟨hw,rfl⟩⟩ k.1 ?_
 have:=k.2 _ (ha.put hd undef);simpa using this
theorem DO.bif{Pm:List qk}{bb:Bool}(ht:get e t'=some (.bool bb))(h1:bb=true→DO P ro ops K fuel listed Pm ⟨n,ds,(t',.bool true)::e⟩ w)(h2:bb=false→DO P ro ops K fuel listed Pm ⟨n,ds,(t',.bool false)::e⟩ w):
  DO P ro ops K fuel listed Pm ⟨n,ds,e⟩ w:=by
 have key:∀(a:Act),Sim ⟨n,ds,e⟩ a→∀b:Bool,bb=b→Sim ⟨n,ds,(t',.bool b)::e⟩ a:=fun a ha b hb=>⟨ha.size,ha.ds,fun k v hk=>by
  simp only [get] at hk
  cases hh:Nat.beq t' k with
  |true=>rw [hh] at hk;simp only [cond_true,Option.some.injEq] at hk;rw [←Nat.eq_of_beq_eq_true hh,←hk,←hb];exact ha.val _ _ ht
  |false=>rw [hh] at hk;exact ha.val _ _ hk⟩
 cases bb with
 |true=>exact ⟨(h1 rfl).1,fun a ha=>(h1 rfl).2 a (key a ha true rfl)⟩
 |false=>exact ⟨(h2 rfl).1,fun a ha=>(h2 rfl).2 a (key a ha false rfl)⟩
theorem DO.jK{Pm:List qk}{p:Prop}[Decidable p](ht:get e t'=some (.bool (decide p)))(h1:p→DO P ro ops K fuel listed Pm ⟨n,ds,(t',.bool true)::e⟩ w)(h2:¬p→DO P ro ops K fuel listed Pm ⟨n,ds,(t',.bool false)::e⟩ w):
  DO P ro ops K fuel listed Pm ⟨n,ds,e⟩ w:= .bif ht (fun h=>h1 (of_decide_eq_true h)) (fun h=>h2 (of_decide_eq_false h))
theorem DO.G2{Pm:List qk}{p:Prop}[Decidable p](ht:get e t'=some (.bool (!decide p)))(h1:¬p→DO P ro ops K fuel listed Pm ⟨n,ds,(t',.bool true)::e⟩ w)(h2:p→DO P ro ops K fuel listed Pm ⟨n,ds,(t',.bool false)::e⟩ w):
  DO P ro ops K fuel listed Pm ⟨n,ds,e⟩ w:= .bif ht (fun h=>h1 (by simpa using h)) (fun h=>h2 (by simpa using h))
def DE(P:Program)(ro:Option Nat)(ops:Array Oper)(K:FS→World→Prop)(fuel:Nat)(listed:List Bool)(i:Nat)(Pm:List qk)(s:FS)(w:World):Prop:=
 ∃zH,(∀p∈Pm,bnd ops i p.1=true∨p∈zH)∧DO P ro ops K fuel listed zH s w
def J1(ops:Array Oper)(i:Nat):List qk→List qk
 |[]=>[]
 |p::l=>bif bnd ops i p.1 then J1 ops i l else p::J1 ops i l
theorem DE.go{Pm:List qk}(h:DO P ro ops K fuel listed (J1 ops i Pm) s w):DE P ro ops K fuel listed i Pm s w:=by
 refine ⟨_,fun p hp=>?_,h⟩;clear h
 induction Pm with
 |nil=>cases hp
 |cons q l ih=>
  unfold J1
  cases hb:bnd ops i q.1 with
  |true=>
   simp only [cond_true]
   cases hp with
   |head=>exact .inl hb
   |tail _ hp=>exact ih hp
  |false=>
   simp only [cond_false]
   cases hp with
   |head=>exact .inr (.head _)
   |tail _ hp=>exact (ih hp).imp id (fun h=> .tail _ h)
theorem OJ.inI{dst:Option Tmp}{Pm:List qk}{a:Act}(hi:ops[i]? =some ⟨dst,op,ty,pos,eZ,g⟩)
  (hw:Region.wanted ⟨dst,op,ty,pos,eZ,g⟩ (yielded ops a.tmps)=true) (ha:Sim s a)
  (h:OJ P ro ⟨dst,op,ty,pos,eZ,none⟩ (DE P ro ops K fuel (listed.set i true) i Pm) s w):
  wpOpIn (FW ro) 0 P ops (fun _ _ _=>False) i (fun a' w'=>∃zH:List qk,(∀p∈Pm,bnd ops i p.1=true∨p∈zH)∧Sf zH w'∧EX P ro ops (fun a w=>∃s,Sim s a∧K s w) fuel (listed.toArray.setIfInBounds i true) zH a' w') a w:=by
 unfold wpOpIn;simp only [hi,hw,if_true];have h1:=h a ha;have h2:Oper.wpIn (FW ro) 0 P ⟨dst,op,ty,pos,eZ,g⟩ a w (fun a' w'=>∃s',Sim s' a'∧DE P ro ops K fuel (listed.set i true) i Pm s' w') (fun _ _ _=>False):=h1;refine Oper.wpIn_mono (fun a' w' ⟨s',g1,zH,g2,g3⟩=>⟨zH,g2,g3.1,?_⟩) h2;have:=g3.2 a' g1;simpa using this
theorem DO.e1{dst:Option Tmp}{Pm:List qk}(hr:Region.ready .any ops listed.toArray=[i])(hi:ops[i]? =some ⟨dst,op,ty,pos,eZ,g⟩)(hl:listed.set i true=cU)(hg:GOk ops e g)(hs:St H w σ)
  (h:OJ P ro ⟨dst,op,ty,pos,eZ,none⟩ (DE P ro ops K fuel cU i Pm) ⟨n,ds,e⟩ w)
  (hp:IE H σ Pm:=by repeat (first|exact .nil|refine .cons (by first|exact HLe.bot _|exact HLe.refl _|assumption) (by repeat constructor) ?_)):DO P ro ops K (fuel+1) listed Pm ⟨n,ds,e⟩ w:=by
 subst hl;have hI:=hp.hold hs;refine ⟨hI,fun a ha=>⟨hI,fun h0=>(by rw [hr] at h0;cases h0),fun j hj=>?_⟩⟩;rw [hr] at hj;obtain rfl:j=i:=by simpa using hj
 exact OJ.inI hi (hg.wanted ha) ha h
theorem DO.e2{d1 d2:Option Tmp}{o1 o2:Op}{t1 t2:TypeId}{p1 p2:String}{a1 a2:Array Edge}{g1 g2:Option (Nat×Bool)}{j:Nat}{l1 l2:List Bool}{Pm:List qk}(hr:Region.ready .any ops listed.toArray=[i,j])
  (hi:ops[i]? =some ⟨d1,o1,t1,p1,a1,g1⟩) (hj:ops[j]? =some ⟨d2,o2,t2,p2,a2,g2⟩) (BP:listed.set i true=l1) (LL:listed.set j true=l2) (TO:GOk ops e g1) (hg2:GOk ops e g2) (hs:St H w σ)
  (h1:OJ P ro ⟨d1,o1,t1,p1,a1,none⟩ (DE P ro ops K fuel l1 i Pm) ⟨n,ds,e⟩ w) (h2:OJ P ro ⟨d2,o2,t2,p2,a2,none⟩ (DE P ro ops K fuel l2 j Pm) ⟨n,ds,e⟩ w)
  (hp:IE H σ Pm:=by repeat (first|exact .nil|refine .cons (by first|exact HLe.bot _|exact HLe.refl _|assumption) (by repeat constructor) ?_)):DO P ro ops K (fuel+1) listed Pm ⟨n,ds,e⟩ w:=by
 subst BP;subst LL;have hI:=hp.hold hs;refine ⟨hI,fun a ha=>⟨hI,fun h0=>(by rw [hr] at h0;cases h0),fun k hk=>?_⟩⟩;rw [hr] at hk;simp only [List.mem_cons,List.not_mem_nil,or_false] at hk
 rcases hk with rfl|rfl
 ·exact OJ.inI hi (TO.wanted ha) ha h1
 ·exact OJ.inI hj (hg2.wanted ha) ha h2
theorem WE.cut{c d:Code}(M:FS→World→Prop)(h:WE P ro c (thn M Q) s w)(k:∀s w,M s w→WE P ro d Q s w):WE P ro (.seq c d) Q s w:=
 .seq (h.mono fun x s w hx=>by cases x<;>first|exact k s w hx|exact hx)
end Go.MW
namespace Go.MW
variable{cap:List Value}{xs:List (List Value)}
variable{P:Program}{ro:Option Nat}{Q:Exit→FS→World→Prop}{K:FS→World→Prop}{ops:Array Oper}{s:FS}{w:World}
 {H:bp} {σ τ:List Ent} {n d:Nat} {ds:List Deferred} {e:List (Nat×Value)} {ty t:TypeId} {pos:String} {eZ:Array Edge} {v:Value} {x y:Operand}
def Yd(P:Program)(l:Nat)(vs:List Value)(w:World)(R:Value→World→Prop):Prop:=
 ∃fn tmps assign body,(Instr.yield l vs.toArray).run P w= .ok (.round l fn tmps assign body) w∧RoundIn (FW none) 0 P l fn tmps assign body w (fun e w'=>∃v,e= .returned v∧R v w')
theorem Yd.mono{l:Nat}{vs:List Value}{R R':Value→World→Prop}(h:Yd P l vs w R)(hr:∀v w',R v w'→R' v w'):Yd P l vs w R':=by
 obtain ⟨fn,tmps,assign,body,h1,h2⟩:=h;exact ⟨fn,tmps,assign,body,h1,RoundIn.mono h2 fun _ _ ⟨v,a,b⟩=>⟨v,a,hr _ _ b⟩⟩
theorem OJ.yield{l:Nat}{fx:Operand}{args:List Operand}{vs:List Value}{ts:Array TypeId}{R:Value→World→Prop}(hf:FS.ev ⟨n,ds,e⟩ fx=some (.func (.yield l) #[] #[]))(hv:evs ⟨n,ds,e⟩ args=some vs)
  (h:Yd P l vs w R) (k:∀v w',R v w'→K ⟨n,ds,(d,v)::e⟩ w') (hd:Nat.blt d n=true:=by rfl):
  OJ P ro ⟨some d,.call ⟨.value fx,args.toArray,ts⟩,ty,pos,eZ,none⟩ K ⟨n,ds,e⟩ w:=fun a ha=>by
 refine ⟨fun _ _=>trivial,?_⟩;rw [Oper.semAt_eq _ _ _ (by simp)];obtain ⟨fn,tmps,assign,body,h1,h2⟩:=h;simp only [execOp,resolve,List.map_toArray,B3 ha hv,ha.ev hf,Deferred.ofValue,Sem.run_bind,Sem.run_pure,Result.andThen,invoke];have h3:(#[]++vs.toArray:Array Value)=vs.toArray:=by simp
 rw [h3,h1];refine ⟨fun h=>(by cases h),?_⟩;have h4:RoundIn (FW ro) 0 P l fn tmps assign body w (fun e w'=>∃v,e= .returned v∧R v w'):=h2;refine RoundIn.mono h4 fun en w' ⟨v,g1,g2⟩=>?_
 subst g1;exact ⟨_,ha.put hd v,k v w' g2⟩
def Iter(P:Program)(gf:FuncId)(cap:List Value)(H:bp)(xs:List (List Value)):Prop:=
 ∀(l:Nat) (I:Nat→bp→List Ent→Prop) (Ix:bp→List Ent→Prop),
  (∀k H1 H2 σ,HLe H1 H2→I k H1 σ→I k H2 σ)→(∀H1 H2 σ,HLe H1 H2→Ix H1 σ→Ix H2 σ)→
  (∀k (hk:k<xs.length) H' σb σf w,HLe H H'→I k H' σb→St H' w (σb++σf)→
   Yd P l xs[k] w fun v w'=>∃ss EY,HLe H' ss∧St ss w' (EY++σf)∧((v= .bool true∧I (k+1) ss EY)∨(v= .bool false∧Ix ss EY)))→
  ∀H' σb σf w,HLe H H'→I 0 H' σb→St H' w (σb++σf)→
   Cl P gf ([.func (.yield l) #[] #[]]++cap) w fun _ w'=>∃ss EY,HLe H' ss∧St ss w' (EY++σf)∧(I xs.length ss EY∨Ix ss EY)
def N6(P:Program)(gf:FuncId)(cap:List Value)(H:bp)(N:Nat)(E:Nat→bp→List Value→Prop):Prop:=
 ∀(l:Nat) (I:Nat→bp→List Ent→Prop) (Ix:bp→List Ent→Prop),
  (∀k H1 H2 σ,HLe H1 H2→I k H1 σ→I k H2 σ)→(∀H1 H2 σ,HLe H1 H2→Ix H1 σ→Ix H2 σ)→
  (∀k (_:k<N) z H' σb σf w,HLe H H'→E k H' z→I k H' σb→St H' w (σb++σf)→
   Yd P l z w fun v w'=>∃ss EY,HLe H' ss∧St ss w' (EY++σf)∧((v= .bool true∧I (k+1) ss EY)∨(v= .bool false∧Ix ss EY)))→
  ∀H' σb σf w,HLe H H'→I 0 H' σb→St H' w (σb++σf)→
   Cl P gf ([.func (.yield l) #[] #[]]++cap) w fun _ w'=>∃ss EY,HLe H' ss∧St ss w' (EY++σf)∧(I N ss EY∨Ix ss EY)
theorem Iter.toE{gf:FuncId}(h:Iter P gf cap H xs):N6 P gf cap H xs.length (fun k _ z=>xs[k]? =some z):=
 fun l I Ix EM Nb hy=>h l I Ix EM Nb fun k hk H' σb σf w h1 h2 h3=>hy k hk _ H' σb σf w h1 (List.getElem?_eq_getElem hk) h2 h3
theorem Iter.mono{gf:FuncId}{H H':bp}(h:Iter P gf cap H xs)(hl:HLe H H'):Iter P gf cap H' xs:=
 fun l I Ix EM Nb hy H1 σb σf w h1 h2 h3=>
  (h l (fun k H2 σb=>HLe H' H2∧I k H2 σb) Ix (fun k _ _ σ g1 g2=>⟨g2.1.trans g1,EM k _ _ σ g1 g2.2⟩) Nb (fun k hk H2 σb σf w _ h5 h6=>
   (hy k hk H2 σb σf w h5.1 h5.2 h6).mono fun _ _ ⟨H3,σ3,g1,g2,g3⟩=>
    ⟨H3,σ3,g1,g2,g3.imp (fun ⟨g4,g5⟩=>⟨g4,h5.1.trans g1,g5⟩) id⟩) H1 σb σf w (hl.trans h1) ⟨h1,h2⟩ h3).mono
   fun _ _ ⟨H3,σ3,g1,g2,g3⟩=>⟨H3,σ3,g1,g2,g3.imp (fun g=>g.2) id⟩
def Bj:List Nat→List Value→List (Nat×Value)→List (Nat×Value)
 |p::ps,v::vs,e=>Bj ps vs ((p,v)::e)
 |_,_,e=>e
theorem Sim.Bj{n:Nat}(ps:List Nat)(vs:List Value)(e:List (Nat×Value))(tmps:Array Value)(hp:ps.all (Nat.blt · n)=true)(h:Sim ⟨n,[],e⟩ ⟨tmps,[]⟩):
  Sim ⟨n,[],Bj ps vs e⟩ ⟨(ps.toArray.zip vs.toArray).foldl (fun t (p,v)=>t.setIfInBounds p v) tmps,[]⟩:=by
 have h0:ps.toArray.zip vs.toArray=(ps.zip vs).toArray:=by simp
 rw [h0,List.foldl_toArray]
 induction ps generalizing vs e tmps with
 |nil=>simpa [MW.Bj] using h
 |cons p ps ih=>
  cases vs with
  |nil=>simpa [MW.Bj] using h
  |cons v vs=>
   simp only [List.all_cons,Bool.and_eq_true] at hp;have:=ih vs ((p,v)::e) (tmps.setIfInBounds p v) hp.2 (h.put hp.1 v) (by simp);simpa [MW.Bj] using this
def U1(I:Nat→bp→List Ent→Prop)(Ix:Code→bp→List Ent→Prop)(k:Nat)(H1:bp)(σf:List Ent):Exit→FS→World→Prop
 | .normal,_,w=>∃H2 σb,HLe H1 H2∧St H2 w (σb++σf)∧I (k+1) H2 σb
 | .ret,_,w=>∃H2 σb,HLe H1 H2∧St H2 w (σb++σf)∧Ix .ret H2 σb
 | .exit i,_,w=>∃H2 σb,HLe H1 H2∧St H2 w (σb++σf)∧Ix (.exit i) H2 σb
 | .goto _,_,_=>False
 | .panic _,_,_=>False
 | .outgrown,_,_=>False
def UW(ro:Option Nat)(σf:List Ent):Prop:=
 match ro with
 |none=>True
 |some l0=>∃r0,Mem σf (.obj l0 (.loop r0))
def yx(ro:Option Nat)(D:Nat):List Deferred:=
 match ro with
 |none=>[{target:= .collected D,args:=#[]}]
 |some _=>[]
def qx(ro:Option Nat)(D:Nat):Ent:=
 match ro with
 |none=> .obj D (.deferred (some []))
 |some _=> .nul
theorem WE.On{g:Operand}{ps:List Nat}{assign body:Code}{gf:FuncId}{N:Nat}{E:Nat→bp→List Value→Prop}{σb σf:List Ent}(hs:St H w (σb++σf))(ho:UW ro σf)
  (hx:FS.ev ⟨n,ds,e⟩ g=some (.func (.func gf) #[] cap.toArray)) (sq:N6 P gf cap H N E) (hc:∀args w,(callFunc gf args).run P w= .ok (.enter gf args) w) (QC:∀k H' z,E k H' z→z.length=ps.length) (hp:ps.all (Nat.blt · n)=true)
  (I:Nat→bp→List Ent→Prop) (Ix:Code→bp→List Ent→Prop) (EM:∀k H1 H2 σ,HLe H1 H2→I k H1 σ→I k H2 σ) (Nb:∀c H1 H2 σ,HLe H1 H2→Ix c H1 σ→Ix c H2 σ) (h0:I 0 H σb)
  (yP:∀l k (_:k<N) z H' σb LU w,HLe H H'→E k H' z→I k H' σb→St H' w (σb++LU)→(∃r,Mem LU (.obj l (.loop r)))→
   WE P (some l) assign (thn (fun s1 w1=>∃H1 σ1,HLe H' H1∧St H1 w1 (σ1++LU)∧∀w2 zB,(∃r,Mem zB (.obj l (.loop r)))→St H1 w2 (σ1++zB)→WE P (some l) body (U1 I Ix k H1 zB) s1 w2) (fun _ _ _=>False))
    ⟨n,[],Bj ps z e⟩ w)
  (yN:∀D H' σb w,HLe H H'→I N H' σb→St H' w (qx ro D::(σb++σf))→Q .normal ⟨n,yx ro D++ds,e⟩ w)
  (J8:∀D c H' σb w,HLe H H'→Ix c H' σb→St H' w (qx ro D::(σb++σf))→WE P ro c Q ⟨n,yx ro D++ds,e⟩ w):
  WE P ro (.rangeFunc g ps.toArray assign body) Q ⟨n,ds,e⟩ w:=fun a ha=>by
 refine wpIn_rangeFunc fun fn _=>?_
 obtain ⟨D,l,w1,rec,wM,hent,zD,WV⟩:∃(D l:Nat) (w1:World) (rec:LoopState→Option Code→Loop),
   (∀st pe,rec st pe={state:=st,pending:=pe,fn,tmps:=a.tmps,params:=ps.toArray,assign,body,defers:=(rec .ready none).defers})∧True∧
   St H w1 (.obj l (.loop (rec .ready none))::qx ro D::(σb++σf))∧(Instr.enterLoop fn a.tmps ps.toArray assign body ro).run P w= .ok (l,yx ro D) w1:=by
  cases ro with
  |none=>
   refine ⟨w.heap.size,w.heap.size+1,_,fun st pe=>{state:=st,pending:=pe,fn,tmps:=a.tmps,params:=ps.toArray,assign,body,defers:=w.heap.size},fun _ _=>rfl,trivial,?_,run_enterLoop_outer _ _ _ _ _⟩;have h1:=(hs.newObj (.deferred (some []))).newObj (.loop {state:= .ready,pending:=none,fn,tmps:=a.tmps,params:=ps.toArray,assign,body,defers:=w.heap.size});simp only [Array.size_push] at h1;exact h1
  |some l0=>
   obtain ⟨r0,hm⟩:=ho;have hl:w.heap[l0]? =some (.loop r0):=hs.own (.obj l0 (.loop r0)) (List.mem_append_right _ hm.mem);refine ⟨0,w.heap.size,_,fun st pe=>{state:=st,pending:=pe,fn,tmps:=a.tmps,params:=ps.toArray,assign,body,defers:=r0.defers},fun _ _=>rfl,trivial,?_,run_enterLoop_inner hl _ _ _ _ _⟩;have h1:=hs.nul.newObj (.loop {state:= .ready,pending:=none,fn,tmps:=a.tmps,params:=ps.toArray,assign,body,defers:=r0.defers});exact h1
 have Zu:∀(o:Obj) (H':bp) (w:World) (σ:List Ent),St H' w (σ++(.obj l o::qx ro D::σf))→St H' w (.obj l o::qx ro D::(σ++σf)):=fun o H' w σ h=>
  h.perm (by
   have:(σ++(Ent.obj l o::qx ro D::σf)).Perm ((Ent.obj l o::qx ro D::σf)++σ):=List.perm_append_comm;refine this.trans ?_;simp only [List.cons_append];exact (List.Perm.cons _ (List.Perm.cons _ List.perm_append_comm)))
 have W7:∀(o:Obj) (H':bp) (w:World) (σ:List Ent),St H' w (.obj l o::qx ro D::(σ++σf))→St H' w (σ++(.obj l o::qx ro D::σf)):=fun o H' w σ h=>
  h.perm (by
   have:(σ++(Ent.obj l o::qx ro D::σf)).Perm ((Ent.obj l o::qx ro D::σf)++σ):=List.perm_append_comm;refine List.Perm.symm (this.trans ?_);simp only [List.cons_append];exact (List.Perm.cons _ (List.Perm.cons _ List.perm_append_comm)))
 have Kc:(rec .ready none).state= .ready:=by rw [wM]
 have CD:∀c,(rec .done (some c)).state= .done:=fun c=>by rw [wM]
 have QD:(rec .ready none).pending=none:=by rw [wM]
 have hpd:∀c,(rec .done (some c)).pending=some c:=fun c=>by rw [wM]
 refine ⟨l,yx ro D,w1,{target:= .fn (.func gf) cap.toArray,args:=#[.func (.yield l) #[] #[]]},w1,gf,#[.func (.yield l) #[] #[]]++cap.toArray,w1,WV,?_,fun _ _=>trivial,?_,fun h=>(by cases h),?_⟩
 ·simp only [resolve,ha.ev hx,Deferred.ofValue];simp [Act.eval]
 ·simp only [invoke];exact hc _ _
 have yO:=sq l (fun k H' σ=>∃σ',σ=σ'++[.obj l (.loop (rec .ready none))]∧I k H' σ') (fun H' σ=>∃σ' c,σ=σ'++[.obj l (.loop (rec .done (some c)))]∧Ix c H' σ') (fun k _ _ σ g1 ⟨σ',g2,g3⟩=>⟨σ',g2,EM k _ _ σ' g1 g3⟩) (fun _ _ σ g1 ⟨σ',c,g2,g3⟩=>⟨σ',c,g2,Nb c _ _ σ' g1 g3⟩) ?_
  H (σb++[.obj l (.loop (rec .ready none))]) (qx ro D::σf) w1 (HLe.refl H) ⟨σb,rfl,h0⟩ (by have:=W7 _ _ _ _ zD;simpa using this)
 ·have e0:(#[Value.func (.yield l) #[] #[]]++cap.toArray:Array Value)=([Value.func (.yield l) #[] #[]]++cap).toArray:=by simp
  rw [e0];refine CallsIn.mono (A3 yO) ?_;rintro en w2 ⟨v,rfl,H2,σ2,hle,M8,kC⟩
  rcases kC with ⟨σ',rfl,hi⟩|⟨σ',c,rfl,TK⟩
  ·have h3:St H2 w2 (.obj l (.loop (rec .ready none))::qx ro D::(σ'++σf)):=Zu _ _ _ _ (by simpa using M8);have hl:w2.heap[l]? =some (.loop (rec .ready none)):=h3.own _ (.head _);have he:=run_endLoop (P:=P) hl (by rw [Kc];simp);refine ⟨none,_,he.trans (congrArg (fun p=>Result.ok p _) QD),?_⟩;have h4:=(h3.putObj (o':= .loop {rec .ready none with state:= .exhausted}) .here).tail;refine ⟨⟨n,yx ro D++ds,e⟩,⟨ha.size,by simp [ha.ds],ha.val⟩,yN D H2 σ' _ hle hi h4⟩
  ·have h3:St H2 w2 (.obj l (.loop (rec .done (some c)))::qx ro D::(σ'++σf)):=Zu _ _ _ _ (by simpa using M8);have hl:w2.heap[l]? =some (.loop (rec .done (some c))):=h3.own _ (.head _);have he:=run_endLoop (P:=P) hl (by rw [CD c];simp);refine ⟨some c,_,he.trans (congrArg (fun p=>Result.ok p _) (hpd c)),?_⟩;have h4:=(h3.putObj (o':= .loop {rec .done (some c) with state:= .exhausted}) .here).tail;exact J8 D c H2 σ' _ hle TK h4 _ ⟨ha.size,by simp [ha.ds],ha.val⟩
 ·
  rintro k hk z H1 σ1 Oa w2 hle hE ⟨σ',rfl,hi⟩ M8;have s4:∀(σ:List Ent) (o:Obj),Mem (.obj l o::σ) (.obj l o):=fun _ _=> .here
  have h3:St H1 w2 (σ'++(.obj l (.loop (rec .ready none))::Oa)):=by simpa using M8
  have hl:w2.heap[l]? =some (.loop (rec .ready none)):=h3.own _ (List.mem_append_right _ (.head _));have hy:=run_yield (P:=P) (args:=z.toArray) hl (by rw [wM];simp [QC _ _ _ hE]);refine ⟨_,_,_,_,hy,roundIn_of_wpIn trivial ?_⟩;have WR:Sim ⟨n,[],e⟩ ⟨a.tmps,[]⟩:=⟨ha.size,rfl,ha.val⟩;have Th:=Sim.Bj ps z e a.tmps hp WR;have hb:=yP l k hk z H1 σ' (.obj l (.loop (rec .ready none))::Oa) w2 hle hE hi h3 ⟨_,.here⟩ _ Th;have OI:(rec .ready none).params=ps.toArray:=by rw [wM]
  have BO:(rec .ready none).tmps=a.tmps:=by rw [wM]
  have hr3:(rec .ready none).assign=assign:=by rw [wM]
  have hr4:(rec .ready none).body=body:=by rw [wM]
  simp only [OI,BO,hr3,hr4];refine wpIn_mono hb ?_;rintro x a1 w3 ⟨s1,Kc,BM⟩
  cases x with
  |normal=>
   obtain ⟨H2,σ2,aN,Tf,IW⟩:=BM;have hl3:w3.heap[l]? =some (.loop (rec .ready none)):=Tf.own _ (List.mem_append_right _ (.head _));have hbr:=run_beginRound (P:=P) hl3 (by rw [wM]);have To:∀(o o':Obj) (H':bp) (w:World) (σ:List Ent),St H' w (σ++(.obj l o::Oa))→St H' (w.putObj l o') (σ++(.obj l o'::Oa)):=fun o o' H' w σ h=>by
    have hu:∀σ:List Ent,Upd (σ++(.obj l o::Oa)) (.obj l o) (.obj l o') (σ++(.obj l o'::Oa)):=fun σ=>by
     induction σ with
     |nil=>exact .here
     |cons x σ ih=>exact .there ih
    exact h.putObj (hu σ)
   have Te:=To _ (.loop {rec .ready none with state:= .busy}) _ _ _ Tf;have QW:=IW _ _ ⟨_,.here⟩ Te a1 Kc;refine ⟨_,hbr,wpIn_mono QW ?_⟩;have fin:∀(jump:Option Code) (H3:bp) (σ3:List Ent) (w4:World),St H3 w4 (σ3++(.obj l (.loop {rec .ready none with state:= .busy})::Oa))→
     (Instr.endRound l jump).run P w4= .ok (.bool jump.isNone) (w4.putObj l (.loop (rec (if jump.isNone then .ready else .done) jump)))∧
     St H3 (w4.putObj l (.loop (rec (if jump.isNone then .ready else .done) jump))) (σ3++(.obj l (.loop (rec (if jump.isNone then .ready else .done) jump))::Oa)):=fun jump H3 σ3 w4 h5=>by
    have hl5:w4.heap[l]? =some (.loop {rec .ready none with state:= .busy}):=h5.own _ (List.mem_append_right _ (.head _));have h6:=run_endRound (P:=P) jump hl5;have e6:({({rec .ready none with state:= .busy}:Loop) with state:=if jump.isNone then .ready else .done,pending:=jump}:Loop)=rec (if jump.isNone then .ready else .done) jump:=by
     rw [wM (if jump.isNone then .ready else .done) jump,wM .ready none]
    rw [e6] at h6;exact ⟨h6,To _ _ _ _ _ h5⟩
   rintro x a2 w4 ⟨s2,CD,Qu⟩
   cases x with
   |normal=>
    obtain ⟨H3,σ3,g1,g2,g3⟩:=Qu;obtain ⟨g4,g5⟩:=fin none H3 σ3 w4 g2;exact ⟨_,_,g4,_,rfl,H3,σ3++[.obj l (.loop (rec .ready none))],aN.trans g1,by simpa using g5,.inl ⟨rfl,σ3,rfl,g3⟩⟩
   |ret=>
    obtain ⟨H3,σ3,g1,g2,g3⟩:=Qu;obtain ⟨g4,g5⟩:=fin (some .ret) H3 σ3 w4 g2;exact ⟨_,_,g4,_,rfl,H3,σ3++[.obj l (.loop (rec .done (some .ret)))],aN.trans g1,by simpa using g5,.inr ⟨rfl,σ3,_,rfl,g3⟩⟩
   |exit i=>
    obtain ⟨H3,σ3,g1,g2,g3⟩:=Qu;obtain ⟨g4,g5⟩:=fin (some (.exit i)) H3 σ3 w4 g2;exact ⟨_,_,g4,_,rfl,H3,σ3++[.obj l (.loop (rec .done (some (.exit i))))],aN.trans g1,by simpa using g5,.inr ⟨rfl,σ3,_,rfl,g3⟩⟩
   |_=>exact Qu.elim
  |_=>exact BM.elim
theorem WE.rangeFunc{g:Operand}{ps:List Nat}{assign body:Code}{gf:FuncId}{σb σf:List Ent}(hs:St H w (σb++σf))(ho:UW ro σf)
  (hx:FS.ev ⟨n,ds,e⟩ g=some (.func (.func gf) #[] cap.toArray)) (sq:Iter P gf cap H xs) (hc:∀args w,(callFunc gf args).run P w= .ok (.enter gf args) w) (QC:∀x∈xs,x.length=ps.length) (hp:ps.all (Nat.blt · n)=true)
  (I:Nat→bp→List Ent→Prop) (Ix:Code→bp→List Ent→Prop) (EM:∀k H1 H2 σ,HLe H1 H2→I k H1 σ→I k H2 σ) (Nb:∀c H1 H2 σ,HLe H1 H2→Ix c H1 σ→Ix c H2 σ) (h0:I 0 H σb)
  (yP:∀l k (hk:k<xs.length) H' σb LU w,HLe H H'→I k H' σb→St H' w (σb++LU)→(∃r,Mem LU (.obj l (.loop r)))→
   WE P (some l) assign (thn (fun s1 w1=>∃H1 σ1,HLe H' H1∧St H1 w1 (σ1++LU)∧∀w2 zB,(∃r,Mem zB (.obj l (.loop r)))→St H1 w2 (σ1++zB)→WE P (some l) body (U1 I Ix k H1 zB) s1 w2) (fun _ _ _=>False))
    ⟨n,[],Bj ps xs[k] e⟩ w)
  (yN:∀D H' σb w,HLe H H'→I xs.length H' σb→St H' w (qx ro D::(σb++σf))→Q .normal ⟨n,yx ro D++ds,e⟩ w)
  (J8:∀D c H' σb w,HLe H H'→Ix c H' σb→St H' w (qx ro D::(σb++σf))→WE P ro c Q ⟨n,yx ro D++ds,e⟩ w):
  WE P ro (.rangeFunc g ps.toArray assign body) Q ⟨n,ds,e⟩ w:=
 .On (N:=xs.length) (E:=fun k _ z=>xs[k]? =some z) hs ho hx sq.toE hc (fun _ _ z hz=>QC z (List.mem_of_getElem? hz)) hp I Ix EM Nb h0
  (fun l k hk z H' σb LU w h1 h2 h3 h4 h5=>by
   obtain ⟨h6,rfl⟩:=List.getElem?_eq_some_iff.1 h2;exact yP l k hk H' σb LU w h1 h3 h4 h5) yN J8
end Go.MW
namespace Go.MW
variable{m k cap:Nat}{xs:List Int}{i:Int}
variable{P:Program}{ro:Option Nat}{Q:Exit→FS→World→Prop}{K:FS→World→Prop}{ops:Array Oper}{s:FS}{w:World}
 {H:bp} {σ τ:List Ent} {n d:Nat} {ds:List Deferred} {e:List (Nat×Value)} {ty t:TypeId} {pos:String} {eZ:Array Edge} {v:Value} {x y:Operand}
theorem gW{z:Value}{zl:List Value}{fs:Array Field}{pl:List (Nat×Nat)}(hz:∀w,(zeroValue t).run P w= .ok z w)(Ta:z.cells=zl.toArray)(hu:∀w,(underlying t).run P w= .ok (.struct fs) w)
  (hp:∀w,(fs.mapM (fun f=>do pure (f.offset,←sizeOf f.type):Field→Sem (Nat×Nat))).run P w= .ok pl.toArray w):od P t pl zl:=fun parts cells w hc=>by
 unfold Instr.build;have e1:(fun i:Nat=>pl.toArray[i]?)=(fun i:Nat=>pl[i]?):=by funext i;simp
 simp only [Sem.run_bind,hz w,Result.andThen,Ta,hu w,hp w,e1,hc,Sem.run_pure]
theorem lZ{z:Value}{zs:List Value}{elem:TypeId}{len:Nat}(hu:∀w,(underlying t).run P w= .ok (.slice elem) w)(hz:∀w,(sizeOf elem).run P w= .ok m w)(J6:∀w,(zeroValue elem).run P w= .ok z w)
  (hn:¬len*m>2 ^24) (M4:((Array.range (len*m)).map fun i=>(if len*m=0 then #[] else z.cells)[i%(if len*m=0 then #[] else z.cells).size]!)=zs.toArray):xp P t len m zs:=fun parts cells w hc=>by
 refine ⟨elem,?_⟩;unfold Instr.buildSlice;simp only [Sem.run_bind,hu w,Result.andThen,hz w,hn,if_false];by_cases h0:len*m=0
 ·simp only [h0,if_true] at M4 ⊢;simp only [Sem.run_bind,Sem.run_pure,Result.andThen,M4,hc,newRow,newObj,Sem.run]
 ·simp only [h0,if_false] at M4 ⊢;simp only [Sem.run_bind,Sem.run_pure,J6 w,Result.andThen,M4,hc,newRow,newObj,Sem.run]
def Nx(n:Nat)(ds:List Deferred)(i m c c2 N k:Nat)(J:List (Nat×Value)→World→Prop)(s:FS)(w:World):Prop:=
 ∃fr,ob s ⟨n,ds,(i,.int .i64 (k:Int))::(m,.int .i64 (N:Int))::fr⟩∧(get fr c=none∧get fr c2=none)∧J fr w
theorem Nx.mk{i c c2 N:Nat}{J:List (Nat×Value)→World→Prop}{fr:List (Nat×Value)}(h:J fr w)(hs:ob s ⟨n,ds,(i,.int .i64 (k:Int))::(m,.int .i64 (N:Int))::fr⟩:=by repeat (first|exact .nil rfl rfl|refine .cons rfl ?_))
  (hc:get fr c=none∧get fr c2=none:=by exact ⟨rfl,rfl⟩):Nx n ds i m c c2 N k J s w:=⟨fr,hs,hc,h⟩
theorem fB{i:Nat}{v:Value}{l:List (Nat×Value)}(h:Nat.beq k i=false):get ((k,v)::l) i=get l i:=by simp only [get,h,cond_false]
theorem eD{v:Value}{l:List (Nat×Value)}:get ((k,v)::l) k=some v:=by simp only [get,Nat.beq_refl,cond_true]
theorem WE.for{b0 i c c2 r1 r2:Nat}{body:Code}{t1 t2 t3 t4 ty1 ty2 ty3:TypeId}{p1 p2 p3:String}{a1 a2 a3:Array Edge}(N:Nat)(J:Nat→List (Nat×Value)→World→Prop)(hN:N≤9223372036854775807)
  (h0:Nx n ds i m c c2 N 0 (J 0) ⟨n,ds,e⟩ w)
  (yP:∀k fr w,k<N→J k fr w→WE P ro body (thn (Nx n ds i m c c2 N k (J (k+1))) (inB b0 Q)) ⟨n,ds,(c,.bool true)::(i,.int .i64 (k:Int))::(m,.int .i64 (N:Int))::fr⟩ w)
  (yN:∀fr w,J N fr w→Q .normal ⟨n,ds,(c,.bool false)::(i,.int .i64 (N:Int))::(m,.int .i64 (N:Int))::fr⟩ w)
  (QV:Nat.beq c2 m=false:=by rfl) (Xh:Nat.beq i m=false:=by rfl)
  (hc:Nat.blt c n=true:=by rfl) (QM:Nat.blt c2 n=true:=by rfl) (hi:Nat.blt i n=true:=by rfl):
  WE P ro (.block b0 (.loop (.seq (.region r1 #[⟨some c,.binOp .lss t1 (.tmp i) (.tmp m) t2,ty1,p1,a1,none⟩] false) (.seq (.cond (.tmp c) .skip (.exit b0)) (.seq body (.region r2 #[⟨some c2,.binOp .add t3 (.tmp i) (.const (.int .i64 1)) t4,ty2,p2,a2,none⟩,⟨some i,.move (.tmp c2),ty3,p3,a3,none⟩] false)))))) Q ⟨n,ds,e⟩ w:=by
 obtain ⟨fr0,Vl,O5,Yo⟩:=h0;have sym:∀{a b:Nat},Nat.beq a b=false→Nat.beq b a=false:=fun {a b} h=>q8 fun e=>by subst e;rw [Nat.beq_refl] at h;cases h
 have trivSt:∀w:World,St .bot w []:=fun w=>⟨fun _ _ h=>(by cases h),fun _ h=>(by cases h),.nil,fun _ h=>(by cases h),fun _ h=>(by cases h)⟩
 refine .block ?_;refine .loop (fun p:Nat×List (Nat×Value)=>⟨n,ds,(i,.int .i64 (p.1:Int))::(m,.int .i64 (N:Int))::p.2⟩) (fun p w=>p.1≤N∧(get p.2 c=none∧get p.2 c2=none)∧J p.1 p.2 w) (fun p=>N - p.1) (0,fr0) Vl ⟨Nat.zero_le _,O5,Yo⟩ ?_;rintro ⟨k,fr⟩ w ⟨hk,tX,hJ⟩;dsimp only at hk tX hJ ⊢;have gi:∀l,get ((i,Value.int .i64 (k:Int))::l) i=some (.int .i64 (k:Int)):=fun _=>eD
 have gm:∀l,get ((i,Value.int .i64 (k:Int))::(m,Value.int .i64 (N:Int))::l) m=some (.int .i64 (N:Int)):=fun _=>by rw [fB Xh,eD]
 refine .af (.q (trivSt w) (P8 (gi _) (gm _)) (.nil ?_) hc);by_cases fU:k<N
 ·refine .seq (.Rh (b:=decide ((k:Int)<(N:Int))) eD (by simpa using fU) (.skip ?_));have hb:=yP k fr w fU hJ;have e1:decide ((k:Int)<(N:Int))=true:=by simpa using fU
  rw [e1];refine .seq (hb.mono ?_);rintro x s' w' hx
  cases x with
  |normal=>
   obtain ⟨fr',HO,ER,Yp⟩:=hx;refine WE.sub ?_ HO;refine .region (.q (trivSt w') (JE (gi _) rfl (by omega)) (.q (trivSt w') (Jy eD) (.nil ?_) hi) QM);refine ⟨(k+1,fr'),⟨rfl,rfl,fun t v ht=>?_⟩,⟨by omega,ER,Yp⟩,by dsimp only;omega⟩;dsimp only at ht;by_cases h1:i=t
   ·subst h1;rw [eD] at ht ⊢;rw [←ht];norm_cast
   ·rw [fB (q8 h1)] at ht ⊢;by_cases h2:c2=t
    ·subst h2;rw [fB (sym QV)] at ht;rw [ER.2] at ht;cases ht
    ·rw [fB (q8 h2),fB (q8 h1)];exact ht
  |_=>exact hx
 ·have Nc:k=N:=by omega
  subst Nc;refine .seq (.Ri (b:=decide ((k:Int)<(k:Int))) eD (by simp) (.exit ?_));show inB b0 Q (.exit b0) _ _;have e1:decide ((k:Int)<(k:Int))=false:=by simp
  rw [e1];simp only [inB,Nat.beq_refl,cond_true];exact yN fr w hJ
def RI(H:bp)(v:Value)(xs:List Int):Prop:=RS H 1 v (xs.map fun x=>[I x])
theorem RI.mono{H H':bp}(h:RI H v xs)(hl:HLe H H'):RI H' v xs:=RS.mono h hl
theorem RI.shape(h:RI H v xs):∃a cap,v= .slice a xs.length cap:=by
 obtain ⟨a,cap,e⟩:=RS.shape h;exact ⟨a,cap,by simpa using e⟩
theorem RI.len{a:Option Addr}{len:Nat}(h:RI H (.slice a len cap) xs):len=xs.length∧len≤cap∧len≤9223372036854775807:=by
 have:=RS.len h;simpa using this
theorem pD(xs:List Int):(xs.map fun x=>[I x]).flatten=Is xs:=by
 induction xs with
 |nil=>rfl
 |cons x xs ih=>simp only [List.map_cons,List.flatten_cons,ih];rfl
theorem Src.ints(h:RI H v xs):Src P H σ 1 v xs.length (Is xs):=by
 have:=Src.rs (P:=P) (σ:=σ) h;rw [pD] at this;simpa using this
theorem Row.RI{H:bp}{b:Nat}{spare:List Value}(h:Row H b (Is xs++spare))(cap:Nat)(hl:xs.length≤cap)(hb:xs.length≤9223372036854775807):RI H (.slice (some ⟨b,0,none⟩) xs.length cap) xs:=by
 refine ⟨some ⟨b,0,none⟩,cap,by simp,by simpa using hl,by simpa using hb,fun i c hi=>?_⟩;simp only [List.getElem?_map,Option.map_eq_some_iff] at hi;obtain ⟨x,hx,rfl⟩:=hi;refine ⟨rfl,b,0,rfl,fun j u hj=>?_⟩;have fU:=(List.getElem?_eq_some_iff.1 hx).1
 cases j with
 |zero=>
  simp only [List.getElem?_cons_zero,Option.some.injEq] at hj;subst hj;rw [h.cell];rw [List.getElem?_append_left (by simp;omega)];simp [hx]
 |succ j=>simp at hj
theorem bE.bG{v:Value}{cs:List (List Value)}{en:Ent}{r:List Ent}(ho:bE m v cs.flatten en)(hm:∀c∈cs,c.length=m)(HR:0<m)(hl:cs.length≤9223372036854775807)(hs:St H w σ)(hp:Co σ en r):
  ∃H',HLe H H'∧RS H' m v cs∧St H' w r:=by
 have hlen:∀l:List (List Value),(∀c∈l,c.length=m)→l.flatten.length=l.length*m:=by
  intro l
  induction l with
  |nil=>intro _;simp
  |cons c l ih=>intro hl;simp only [List.flatten_cons,List.length_append,List.length_cons,hl c (.head _),ih fun c hc=>hl c (.tail _ hc),Nat.add_mul,Nat.one_mul];omega
 rcases ho with ⟨a,rfl,h2,rfl⟩|⟨b,len,cap,spare,rfl,rfl,h3,h4,h5⟩
 ·have:cs=[]:=by
   cases cs with
   |nil=>rfl
   |cons c cs=>have:=hlen _ hm;rw [h2] at this;simp [Nat.add_mul] at this;omega
  subst this;exact ⟨H,HLe.refl H,RS.nil H m a 0,(hs.pick hp).tail⟩
 ·obtain ⟨H',h6,h7,h8⟩:=hs.bG hp;have OT:len=cs.length:=by
   have:=hlen cs hm;rw [h3] at this;exact Nat.eq_of_mul_eq_mul_right HR this
  refine ⟨H',h6,⟨some ⟨b,0,none⟩,cap,by rw [OT],by omega,by omega,fun i c hi=>⟨hm c (List.mem_of_getElem? hi),b,0,rfl,fun j u hj=>?_⟩⟩,h8⟩;rw [h7.cell,Nat.zero_add];have Kl:=(List.getElem?_eq_some_iff.1 hj).1;have key:∀(l:List (List Value)) (i:Nat) (c:List Value),(∀c∈l,c.length=m)→l[i]? =some c→∀j u,c[j]? =some u→l.flatten[i*m+j]? =some u:=by
   intro l
   induction l with
   |nil=>intro i c _ h;simp at h
   |cons d l ih=>
    intro i c h1 h2 j u h3;rw [List.flatten_cons]
    cases i with
    |zero=>
     simp only [List.getElem?_cons_zero,Option.some.injEq] at h2;subst h2;rw [Nat.zero_mul,Nat.zero_add,List.getElem?_append_left (List.getElem?_eq_some_iff.1 h3).1];exact h3
    |succ i=>
     simp only [List.getElem?_cons_succ] at h2;rw [List.getElem?_append_right (by rw [h1 d (.head _),Nat.add_mul];omega),h1 d (.head _)];have:=ih i c (fun c hc=>h1 c (.tail _ hc)) h2 j u h3
     rwa [show (i+1)*m+j - m=i*m+j from by rw [Nat.add_mul];omega]
  have h9:=key cs i c hm hi j u hj;rw [List.getElem?_append_left (List.getElem?_eq_some_iff.1 h9).1];exact h9
theorem bE.bX{v:Value}{en:Ent}{r:List Ent}(ho:bE 1 v (Is xs) en)(hl:xs.length≤9223372036854775807)(hs:St H w σ)(hp:Co σ en r):∃H',HLe H H'∧RI H' v xs∧St H' w r:=by
 rw [←pD] at ho;exact ho.bG (fun c hc=>by simp only [List.mem_map] at hc;obtain ⟨x,_,rfl⟩:=hc;rfl) (by omega) (by simpa using hl) hs hp
theorem nth{α:Type}{l:List α}(h:k<l.length):∃x,l[k]? =some x:=⟨l[k],List.getElem?_eq_getElem h⟩
theorem WO.ixX{α:Type}{enc:α→List Value}{xs:List α}{x':α}{elem:TypeId}{q:IntKind}{rest:List Oper}(hs:St H w σ)(hr:RS H m v (xs.map enc))(hx:FS.ev ⟨n,ds,e⟩ x=some v)(hy:FS.ev ⟨n,ds,e⟩ y=some (.int q i))
  (hu:∀w,(underlying t).run P w= .ok (.slice elem) w) (hz:∀w,(sizeOf elem).run P w= .ok m w) (hk:xs[k]? =some x') (hi:i=(k:Int))
  (kk:∀b off,bI H b off (enc x')→WO P ro ops rest K ⟨n,ds,(d,.pointer (some ⟨b,off,none⟩))::e⟩ w) (hd:Nat.blt d n=true:=by rfl):
  WO P ro ops (⟨some d,.indexAddr t x y,ty,pos,eZ,none⟩::rest) K ⟨n,ds,e⟩ w:=by
 subst hi;obtain ⟨fU,he⟩:=List.getElem?_eq_some_iff.1 hk;exact .ix hs hr hx hy hu hz ⟨by omega,by simpa using fU⟩ (fun b off hc=>kk b off (by simpa [he] using hc)) hd
theorem WO.ixY{x':Int}{elem:TypeId}{q:IntKind}{rest:List Oper}(hs:St H w σ)(hr:RI H v xs)(hx:FS.ev ⟨n,ds,e⟩ x=some v)(hy:FS.ev ⟨n,ds,e⟩ y=some (.int q i))
  (hu:∀w,(underlying t).run P w= .ok (.slice elem) w) (hz:∀w,(sizeOf elem).run P w= .ok 1 w) (hk:xs[k]? =some x') (hi:i=(k:Int))
  (kk:∀b off,cellAt H b off=some (I x')→WO P ro ops rest K ⟨n,ds,(d,.pointer (some ⟨b,off,none⟩))::e⟩ w) (hd:Nat.blt d n=true:=by rfl):
  WO P ro ops (⟨some d,.indexAddr t x y,ty,pos,eZ,none⟩::rest) K ⟨n,ds,e⟩ w:=
 .ixX (enc:=fun x=>[I x]) hs hr hx hy hu hz hk hi (fun b off hc=>kk b off hc.one) hd
theorem l6{b len:Nat}{elem:TypeId}{q:IntKind}(hx:FS.ev s x=some (.slice (some ⟨b,0,none⟩) len cap))(hy:FS.ev s y=some (.int q i))
  (hu:∀w,(underlying t).run P w= .ok (.slice elem) w) (hz:∀w,(sizeOf elem).run P w= .ok 1 w) (hi:i=(k:Int)) (hk:k<len):
  QJ P H σ s (.indexAddr t x y) (.pointer (some ⟨b,k,none⟩)):=by
 subst hi;have:=Bn (P:=P) (H:=H) (σ:=σ) hx hy hu hz (i:=(k:Int)) ⟨by omega,by omega⟩;simpa using this
theorem AJ{b len:Nat}{elem:TypeId}{q:IntKind}(hx:FS.ev s x=some (.slice (some ⟨b,0,none⟩) len cap))(hy:FS.ev s y=some (.int q i))
  (hu:∀w,(underlying t).run P w= .ok (.slice elem) w) (hz:∀w,(sizeOf elem).run P w= .ok m w) (hi:i=(k:Int)) (hk:k<len):
  QJ P H σ s (.indexAddr t x y) (.pointer (some ⟨b,k*m,none⟩)):=by
 subst hi;have:=Bn (P:=P) (H:=H) (σ:=σ) hx hy hu hz (i:=(k:Int)) ⟨by omega,by omega⟩;simpa using this
end Go.MW
namespace Go.MW
variable{H H':bp}{k:Nat}{a b e:Int}{σ:List Ent}{xs:List Int}
structure Lim where
 A:Int
 B:Int
 M:Int
 S:Int
 deriving DecidableEq
def Lim.c(l:Lim):List Value:=[I l.A,I l.B,I l.M,I l.S]
def RL(H:bp)(v:Value)(ls:List Lim):Prop:=RS H 4 v (ls.map Lim.c)
theorem RL.mono{v:Value}{ls:List Lim}(h:RL H v ls)(hl:HLe H H'):RL H' v ls:=RS.mono h hl
theorem RL.shape{v:Value}{ls:List Lim}(h:RL H v ls):∃a cap,v= .slice a ls.length cap:=by
 obtain ⟨a,cap,e⟩:=RS.shape h;exact ⟨a,cap,by simpa using e⟩
def Lim.ok(many:Int)(l:Lim):Bool:=decide ((0≤l.A∧l.A≤many)∧(0≤l.B∧l.B≤many)∧l.A≠l.B∧(-20000≤l.M∧l.M≤20000)∧(1≤l.S∧l.S≤99999))
structure dL where
 many:Int
 dU:List Lim
def RSy(H:bp)(v:Value)(s:dL):Prop:=∃u,v= .agg #[I s.many,u]∧RL H u s.dU
def dL.check(s:dL):Int:=
 if ¬(0≤s.many∧s.many≤64) then 21 else if 400<s.dU.length then 2 else if s.dU.any (fun l=> !l.ok s.many) then 20 else 0
structure dL.Ok(s:dL):Prop where
 m0:0≤s.many
 m1:s.many≤64
 len:s.dU.length≤400
 lim:∀l∈s.dU,(0≤l.A∧l.A≤s.many)∧(0≤l.B∧l.B≤s.many)∧l.A≠l.B∧(-20000≤l.M∧l.M≤20000)∧(1≤l.S∧l.S≤99999)
theorem dL.jz(s:dL):s.check=0↔s.Ok:=by
 unfold dL.check;constructor
 ·intro h;split at h
  ·omega
  ·split at h
   ·omega
   ·split at h
    ·omega
    ·rename_i h1 h2 h3;refine ⟨by omega,by omega,by omega,fun l hl=>?_⟩;simp only [List.any_eq_true,Bool.not_eq_true',not_exists,not_and,Bool.not_eq_false] at h3;have:=h3 l hl;simpa [Lim.ok] using this
 ·intro h;have h1:(s.dU.any fun l=> !l.ok s.many)=false:=by
   simp only [List.any_eq_false,Bool.not_eq_true',Bool.not_eq_false];intro l hl;simpa [Lim.ok] using h.lim l hl
  rw [if_neg (by have:=h.m0;have:=h.m1;omega),if_neg (by have:=h.len;omega),h1];rfl
def dL.n(s:dL):Nat:=s.many.toNat+1
def Lim.arc(i:Nat)(l:Lim):Arc:=⟨l.A.toNat,l.B.toNat,l.M,i⟩
def oF(ls:List Lim):List Arc:=ls.mapIdx Lim.arc
def dL.de(s:dL):List Arc:=oF s.dU
theorem lK{ls:List Lim}{l:Lim}(h:ls[k]? =some l):(oF ls)[k]? =some (l.arc k):=by
 simp [oF,List.getElem?_mapIdx,h]
theorem tJ{ls:List Lim}{x:Arc}(h:(oF ls)[k]? =some x):x.l=(k:Int):=by
 simp only [oF,List.getElem?_mapIdx,Option.map_eq_some_iff] at h;obtain ⟨l,_,h2⟩:=h;rw [←h2];rfl
theorem JQ{α:Type}{f:Arc→α}{l:List Arc}{x:Arc}(h:l[k]? =some x){hk:k<(l.map f).length}:(l.map f)[k]=f x:=by
 rw [List.getElem?_eq_some_iff] at h;obtain ⟨h1,h2⟩:=h;rw [List.getElem_map,h2]
theorem eK(ls:List Lim):(oF ls).length=ls.length:=by simp [oF]
theorem vD{ls:List Lim}{x:Arc}(h:x∈oF ls):∃(i:Nat) (l:Lim),ls[i]? =some l∧x=l.arc i:=by
 obtain ⟨i,hi⟩:=List.getElem?_of_mem h;simp only [oF,List.getElem?_mapIdx,Option.map_eq_some_iff] at hi;obtain ⟨l,h1,h2⟩:=hi;exact ⟨i,l,h1,h2.symm⟩
theorem dL.Ok.arc{s:dL}(h:s.Ok){l:Lim}(hl:l∈s.dU)(i:Nat):((l.arc i).f:Int)=l.A∧((l.arc i).t:Int)=l.B∧(l.arc i).f<s.n∧(l.arc i).t<s.n∧-20000≤(l.arc i).c∧(l.arc i).c≤20000∧0≤(l.arc i).l∧(l.arc i).f≠(l.arc i).t:=by
 have h1:=h.lim l hl;have h2:=h.m0;simp only [Lim.arc,dL.n];omega
theorem dL.Ok.de{s:dL}(h:s.Ok):tO s.de s.n:=by
 refine ⟨by have:=h.len;simp only [dL.de,eK];omega,fun x hx=>?_⟩;obtain ⟨i,l,h1,rfl⟩:=vD hx;have:=h.arc (List.mem_of_getElem? h1) i;omega
theorem rb{v:Value}{A B:Prop}(h:(v= .bool true∧A)∨(v= .bool false∧B)):∃bb,v= .bool bb∧(bb=true→A)∧(bb=false→B):=by
 rcases h with ⟨rfl,h⟩|⟨rfl,h⟩
 ·exact ⟨true,rfl,fun _=>h,fun e=>by cases e⟩
 ·exact ⟨false,rfl,fun e=>(by cases e),fun _=>h⟩
def ItA(P:Program)(gf:FuncId)(cap:List Value)(H:bp)(as:List Arc):Prop:=Iter P gf cap H (as.map fun x=>[.agg x.v.toArray])
def dL.Sound(s:dL):Prop:=∃p,jt s.de p
end Go.MW
