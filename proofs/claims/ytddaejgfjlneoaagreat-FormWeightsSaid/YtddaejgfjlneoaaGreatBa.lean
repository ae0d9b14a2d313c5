/-
  Texts of these claims, joined: Pla Plb Plc Pld Ple Plf Plg Plh Pli Pma Plj Plk Pll Plm Pln Plo Plp Plq Plr Pls Plu Mwa Mwb Mwj Mwc.
-/
import Derived.OrdersIn
import Derived.TacticsIn
import Derived.RangeFuncLeaves
import Derived.RangeFuncOwn
import Derived.RangeFuncNested
import Derived.CallsIn
import Derived.WalkKit
import Derived.WalkLawsBesides
namespace Go.MW
theorem findIdx_hit {α : Type} {p : α → Bool} : ∀ {ls : List α} {k : Nat} {l : α}, ls[k]? = some l → p l = true → (∀ j < k, ∀ l, ls[j]? = some l → p l = false) → ls.findIdx? p = some k := by
  intro ls
  induction ls with
  | nil => intro k l h; simp at h
  | cons x xs ih =>
    intro k l h1 h2 h3
    rw [List.findIdx?_cons]
    cases k with
    | zero => simp only [List.getElem?_cons_zero, Option.some.injEq] at h1; subst h1; simp [h2]
    | succ k =>
      have hx := h3 0 (by omega) x rfl
      simp only [List.getElem?_cons_succ] at h1
      rw [hx, ih h1 h2 (fun j hj l hl => h3 (j + 1) (by omega) l hl)]
      rfl
theorem findIdx_miss {α : Type} {p : α → Bool} {ls : List α} (h : ∀ j < ls.length, ∀ l, ls[j]? = some l → p l = false) : ls.findIdx? p = none := by
  rw [List.findIdx?_eq_none_iff]
  intro x hx
  obtain ⟨i, hi⟩ := List.getElem?_of_mem hx
  exact h i (List.getElem?_eq_some_iff.1 hi).1 x hi
theorem any_findIdx {α : Type} {p : α → Bool} (ls : List α) : ls.any p = (ls.findIdx? p).isSome := by
  induction ls with
  | nil => rfl
  | cons x xs ih => rw [List.findIdx?_cons, List.any_cons, ih]; cases p x <;> simp
theorem upto_succ {α : Type} {ls : List α} {k : Nat} {Q : α → Prop} (h : ∀ j < k, ∀ l, ls[j]? = some l → Q l) {x : α} (hx : ls[k]? = some x) (hq : Q x) : ∀ j < k + 1, ∀ l, ls[j]? = some l → Q l := by
  intro j hj l hl
  by_cases e : j = k
  · subst e; rw [hx] at hl; cases hl; exact hq
  · exact h j (by omega) l hl
end Go.MW

namespace Go.MW
theorem cnt_ex : ∃ f : (Nat → Prop) → Nat → Nat, (∀ p, f p 0 = 0) ∧ ∀ p n, (p n → f p (n + 1) = f p n + 1) ∧ (¬ p n → f p (n + 1) = f p n) := by
  classical
  refine ⟨fun p n => Nat.rec (motive := fun _ => Nat) 0 (fun k r => r + if p k then 1 else 0) n, fun _ => rfl, fun p n => ⟨fun h => ?_, fun h => ?_⟩⟩
  · show _ + (if p n then 1 else 0) = _; rw [if_pos h]
  · show _ + (if p n then 1 else 0) = _; rw [if_neg h]; rfl
theorem cnt_zero (p : Nat → Prop) : (Classical.choose cnt_ex) p 0 = 0 := (Classical.choose_spec cnt_ex).1 p
open Classical in
theorem cnt_succ (p : Nat → Prop) (n : Nat) : (Classical.choose cnt_ex) p (n + 1) = (Classical.choose cnt_ex) p n + if p n then 1 else 0 := by
  by_cases h : p n
  · rw [((Classical.choose_spec cnt_ex).2 p n).1 h, if_pos h]
  · rw [((Classical.choose_spec cnt_ex).2 p n).2 h, if_neg h]; rfl
theorem cnt_le (p : Nat → Prop) (n : Nat) : (Classical.choose cnt_ex) p n ≤ n := by
  induction n with
  | zero => rw [cnt_zero]; exact Nat.le_refl _
  | succ n ih => simp only [cnt_succ]; split <;> omega
theorem cnt_mono {p q : Nat → Prop} {n : Nat} (h : ∀ v < n, p v → q v) : (Classical.choose cnt_ex) p n ≤ (Classical.choose cnt_ex) q n := by
  induction n with
  | zero => rw [cnt_zero, cnt_zero]; exact Nat.le_refl _
  | succ n ih =>
    have := ih fun v hv => h v (by omega)
    have h2 := h n (by omega)
    simp only [cnt_succ]
    by_cases hp : p n
    · simp [hp, h2 hp]; omega
    · simp only [hp, if_false]; omega
theorem cnt_lt {p q : Nat → Prop} {n : Nat} (h : ∀ v < n, p v → q v) {u : Nat} (hu : u < n) (hq : q u) (hp : ¬ p u) : (Classical.choose cnt_ex) p n < (Classical.choose cnt_ex) q n := by
  induction n with
  | zero => omega
  | succ n ih =>
    simp only [cnt_succ]
    by_cases e : u = n
    · subst e
      have := cnt_mono (p := p) (q := q) (n := u) fun v hv => h v (by omega)
      simp [hp, hq]; omega
    · have := ih (fun v hv => h v (by omega)) (by omega)
      have h2 := h n (by omega)
      by_cases hp : p n
      · simp [hp, h2 hp]; omega
      · simp only [hp, if_false]; omega
theorem cnt_all {p : Nat → Prop} {n : Nat} (h : n ≤ (Classical.choose cnt_ex) p n) : ∀ v < n, p v := by
  intro v hv
  refine Classical.byContradiction fun hp => ?_
  have := cnt_lt (p := p) (q := fun _ => True) (n := n) (fun _ _ _ => trivial) hv trivial hp
  have := cnt_le (fun _ => True) n
  omega
theorem cnt_pos {p : Nat → Prop} {n u : Nat} (hu : u < n) (hp : p u) : 0 < (Classical.choose cnt_ex) p n := by
  have := cnt_lt (p := fun _ => False) (q := p) (n := n) (fun _ _ h => h.elim) hu hp (fun h => h)
  omega
theorem cnt_chain {L : Nat → Nat → Prop} {n : Nat} (hm : ∀ k v, L k v → L (k + 1) v) (hg : ∀ k, (∀ v < n, L k v) ∨ ∃ v, v < n ∧ L (k + 1) v ∧ ¬ L k v) (h0 : ∃ v, v < n ∧ L 0 v) :
    ∀ v < n, L (n - 1) v := by
  have key : ∀ k, k + 1 ≤ n → k + 1 ≤ (Classical.choose cnt_ex) (L k) n := by
    intro k
    induction k with
    | zero => intro _; obtain ⟨v, h1, h2⟩ := h0; exact cnt_pos h1 h2
    | succ k ih =>
      intro hk
      have h1 := ih (by omega)
      rcases hg k with h | ⟨v, h2, h3, h4⟩
      · have : (Classical.choose cnt_ex) (fun _ => True) n ≤ (Classical.choose cnt_ex) (L (k + 1)) n := cnt_mono fun v hv _ => hm k v (h v hv)
        have h5 : n ≤ (Classical.choose cnt_ex) (fun _ => True) n := by
          clear this h h1 hk ih h0 hg
          induction n with
          | zero => omega
          | succ n ih => simp only [cnt_succ, if_true]; omega
        omega
      · have := cnt_lt (p := L k) (q := L (k + 1)) (n := n) (fun v _ h => hm k v h) h2 h3 h4
        omega
  obtain ⟨v, hv, _⟩ := h0
  refine cnt_all ?_
  have := key (n - 1) (by omega)
  omega
def sumTo (f : Nat → Int) : Nat → Int
  | 0 => 0
  | n + 1 => sumTo f n + f n
theorem sumTo_congr {f g : Nat → Int} {n : Nat} (h : ∀ v < n, f v = g v) : sumTo f n = sumTo g n := by
  induction n with
  | zero => rfl
  | succ n ih => simp only [sumTo, ih fun v hv => h v (by omega), h n (by omega)]
theorem sumTo_le {f g : Nat → Int} {n : Nat} (h : ∀ v < n, f v ≤ g v) : sumTo f n ≤ sumTo g n := by
  induction n with
  | zero => exact Int.le_refl _
  | succ n ih =>
    have h1 := ih fun v hv => h v (by omega)
    have h2 := h n (by omega)
    simp only [sumTo]; omega
theorem sumTo_lt {f g : Nat → Int} {n : Nat} (h : ∀ v < n, f v ≤ g v) {u : Nat} (hu : u < n) (hl : f u < g u) : sumTo f n < sumTo g n := by
  induction n with
  | zero => omega
  | succ n ih =>
    simp only [sumTo]
    by_cases e : u = n
    · subst e
      have := sumTo_le (f := f) (g := g) (n := u) fun v hv => h v (by omega)
      omega
    · have h1 := ih (fun v hv => h v (by omega)) (by omega)
      have h2 := h n (by omega)
      omega
theorem sumTo_add (f g : Nat → Int) (n : Nat) : sumTo (fun v => f v + g v) n = sumTo f n + sumTo g n := by
  induction n with
  | zero => rfl
  | succ n ih => simp only [sumTo, ih]; omega
theorem sumTo_sub (f g : Nat → Int) (n : Nat) : sumTo (fun v => f v - g v) n = sumTo f n - sumTo g n := by
  induction n with
  | zero => rfl
  | succ n ih => simp only [sumTo, ih]; omega
theorem sumTo_neg (f : Nat → Int) (n : Nat) : sumTo (fun v => - f v) n = - sumTo f n := by
  induction n with
  | zero => rfl
  | succ n ih => simp only [sumTo, ih]; omega
theorem sumTo_mul (f : Nat → Int) (c : Int) (n : Nat) : sumTo (fun v => c * f v) n = c * sumTo f n := by
  induction n with
  | zero => simp [sumTo]
  | succ n ih => simp only [sumTo, ih, Int.mul_add]
theorem sumTo_zero (n : Nat) : sumTo (fun _ => 0) n = 0 := by
  induction n with
  | zero => rfl
  | succ n ih => simp only [sumTo, ih]; rfl
theorem sumTo_const (c : Int) (n : Nat) : sumTo (fun _ => c) n = n * c := by
  induction n with
  | zero => simp [sumTo]
  | succ n ih => simp only [sumTo, ih]; rw [Int.natCast_succ, Int.add_mul, Int.one_mul]
theorem sumTo_nonneg {f : Nat → Int} {n : Nat} (h : ∀ v < n, 0 ≤ f v) : 0 ≤ sumTo f n := by
  have := sumTo_le (f := fun _ => 0) (g := f) h
  rwa [sumTo_zero] at this
theorem sumTo_one {f : Nat → Int} {n u : Nat} (hu : u < n) (h : ∀ v < n, v ≠ u → f v = 0) : sumTo f n = f u := by
  induction n with
  | zero => omega
  | succ n ih =>
    simp only [sumTo]
    by_cases e : u = n
    · subst e
      rw [sumTo_congr (g := fun _ => 0) (fun v hv => h v (by omega) (by omega)), sumTo_zero]; omega
    · rw [ih (by omega) fun v hv => h v (by omega), h n (by omega) (by omega)]; omega
structure Arc where
  f : Nat
  t : Nat
  c : Int
  l : Int
def Feas (as : List Arc) (p : Nat → Int) : Prop := ∀ x ∈ as, p x.t ≤ p x.f + x.c
def ArcsIn (as : List Arc) (n : Nat) (C : Int) : Prop := ∀ x ∈ as, x.f < n ∧ x.t < n ∧ -C ≤ x.c
theorem least_nat (p : Nat → Prop) (n : Nat) (h : p n) : ∃ n, p n ∧ ∀ m, p m → n ≤ m := by
  induction n using Nat.strongRecOn with
  | _ n ih =>
    by_cases hm : ∃ m, m < n ∧ p m
    · obtain ⟨m, h1, h2⟩ := hm; exact ih m h1 h2
    · exact ⟨n, h, fun m hp => Nat.le_of_not_lt fun hl => hm ⟨m, hl, hp⟩⟩
def Lev (as : List Arc) (D : Nat → Int) : Nat → Nat → Prop
  | 0, v => D v = 0
  | k + 1, v => Lev as D k v ∨ ∃ x ∈ as, x.t = v ∧ Lev as D k x.f ∧ D v = D x.f + x.c
theorem Lev.low {as : List Arc} {D : Nat → Int} {C : Int} (hC : 0 ≤ C) (hc : ∀ x ∈ as, -C ≤ x.c) : ∀ (k : Nat) (v : Nat), Lev as D k v → -(k * C) ≤ D v := by
  intro k
  induction k with
  | zero => intro v h; simp only [Lev] at h; omega
  | succ k ih =>
    intro v h
    have e : ((k + 1 : Nat) : Int) * C = k * C + C := by rw [Int.natCast_succ, Int.add_mul, Int.one_mul]
    rw [e]
    rcases h with h | ⟨x, hx, _, h, hd⟩
    · have := ih v h; omega
    · have := ih _ h; have := hc x hx; omega
theorem Feas.greatest {as : List Arc} {n : Nat} {p : Nat → Int} (hn : 0 < n) (hin : ∀ x ∈ as, x.f < n ∧ x.t < n) (h : Feas as p) :
    ∃ D, Feas as D ∧ (∀ v, D v ≤ 0) ∧ ∀ v < n, Lev as D (n - 1) v := by
  let S : Nat → Prop := fun m => ∃ D : Nat → Int, Feas as D ∧ (∀ v, D v ≤ 0) ∧ sumTo (fun v => - D v) n = (m : Int)
  have hS : ∃ m, S m := by
    obtain ⟨M, hM⟩ : ∃ M : Int, ∀ v < n, p v ≤ M := by
      clear hn hin
      induction n with
      | zero => exact ⟨0, fun v hv => by omega⟩
      | succ n ih =>
        obtain ⟨M, hM⟩ := ih
        refine ⟨max M (p n), fun v hv => ?_⟩
        by_cases e : v = n
        · subst e; omega
        · have := hM v (by omega); omega
    let D : Nat → Int := fun v => if v < n then p v - M else 0
    have hD : ∀ v, D v ≤ 0 := fun v => by
      simp only [D]; split
      · rename_i hv; have := hM v hv; omega
      · omega
    have h1 : 0 ≤ sumTo (fun v => - D v) n := sumTo_nonneg fun v _ => by have := hD v; omega
    refine ⟨(sumTo (fun v => - D v) n).toNat, D, fun x hx => ?_, hD, by omega⟩
    have := h x hx
    simp only [D, (hin x hx).1, (hin x hx).2, if_true]; omega
  obtain ⟨m, hm⟩ := hS
  obtain ⟨m, ⟨D, hf, h0, hs⟩, hmin⟩ := least_nat S m hm
  refine ⟨D, hf, h0, ?_⟩
  have raise : ∀ L : Nat → Prop, (∀ v < n, D v = 0 → L v) → (∀ x ∈ as, L x.f → D x.t = D x.f + x.c → L x.t) → ∀ v < n, L v := by
    intro L hL hT v hv
    refine Classical.byContradiction fun hlv => ?_
    open Classical in
    let E : Nat → Int := fun v => if v < n ∧ ¬ L v then D v + 1 else D v
    have hE : Feas as E := fun x hx => by
      have h1 := hf x hx
      obtain ⟨h2, h3⟩ := hin x hx
      simp only [E, h2, h3, true_and]
      by_cases hf' : L x.f
      · by_cases ht' : L x.t
        · simp only [hf', ht', not_true, if_false]; exact h1
        · have : D x.t ≠ D x.f + x.c := fun e => ht' (hT x hx hf' e)
          simp only [hf', ht', not_true, not_false_iff, if_false, if_true]; omega
      · by_cases ht' : L x.t
        · simp only [hf', ht', not_true, not_false_iff, if_false, if_true]; omega
        · simp only [hf', ht', not_false_iff, if_true]; omega
    have hE0 : ∀ v, E v ≤ 0 := fun v => by
      have := h0 v
      simp only [E]; split
      · rename_i hc
        have : D v ≠ 0 := fun e => hc.2 (hL v hc.1 e)
        omega
      · exact this
    have hlt : sumTo (fun v => - E v) n < sumTo (fun v => - D v) n := by
      refine sumTo_lt (u := v) (fun u _ => ?_) hv ?_
      · simp only [E]; split <;> omega
      · simp only [E, hv, hlv, not_false_iff, and_self, if_true]; omega
    have hnn : 0 ≤ sumTo (fun v => - E v) n := sumTo_nonneg fun v _ => by have := hE0 v; omega
    have := hmin (sumTo (fun v => - E v) n).toNat ⟨E, hE, hE0, by omega⟩
    omega
  refine cnt_chain (L := Lev as D) (fun k v h => .inl h) (fun k => ?_) ?_
  · refine Classical.or_iff_not_imp_right.2 fun hno => ?_
    refine raise (Lev as D k) (fun v _ e => ?_) (fun x hx hl e => ?_)
    · clear hno
      induction k with
      | zero => exact e
      | succ k ih => exact .inl ih
    · refine Classical.byContradiction fun hnot => hno ⟨x.t, (hin x hx).2, .inr ⟨x, hx, rfl, hl, e⟩, hnot⟩
  · refine Classical.byContradiction fun hno => ?_
    have := raise (fun _ => False) (fun v hv e => hno ⟨v, hv, e⟩) (fun _ _ h => h.elim) 0 hn
    exact this
theorem Feas.bounded {as : List Arc} {n : Nat} {C : Int} {p : Nat → Int} (hn : 0 < n) (hC : 0 ≤ C) (hin : ArcsIn as n C) (h : Feas as p) :
    ∃ D, Feas as D ∧ (∀ v, D v ≤ 0) ∧ ∀ v < n, -(((n - 1 : Nat) : Int) * C) ≤ D v := by
  obtain ⟨D, h1, h2, h3⟩ := h.greatest hn fun x hx => ⟨(hin x hx).1, (hin x hx).2.1⟩
  exact ⟨D, h1, h2, fun v hv => Lev.low hC (fun x hx => (hin x hx).2.2) _ _ (h3 v hv)⟩
end Go.MW

namespace Go.MW
def gi (l : List Int) (i : Nat) : Int := l.getD i 0
theorem gi_get {l : List Int} {i : Nat} (h : i < l.length) : l[i]? = some (gi l i) := by
  simp [gi, h]
theorem gi_set {l : List Int} {i : Nat} (h : i < l.length) (x : Int) (j : Nat) : gi (l.set i x) j = if j = i then x else gi l j := by
  unfold gi
  by_cases e : j = i
  · subst e; simp [h]
  · simp [e, List.getElem?_set_ne (Ne.symm e)]
theorem gi_replicate (n : Nat) (x : Int) {i : Nat} (h : i < n) : gi (List.replicate n x) i = x := by simp [gi, h]
def ga (l : List Arc) (i : Nat) : Arc := l.getD i ⟨0, 0, 0, 0⟩
theorem ga_get {l : List Arc} {i : Nat} (h : i < l.length) : l[i]? = some (ga l i) := by
  simp [ga, h]
theorem ga_set {l : List Arc} {i : Nat} (h : i < l.length) (x : Arc) (j : Nat) : ga (l.set i x) j = if j = i then x else ga l j := by
  unfold ga
  by_cases e : j = i
  · subst e; simp [h]
  · simp [e, List.getElem?_set_ne (Ne.symm e)]
theorem ga_replicate (n : Nat) (x : Arc) {i : Nat} (h : i < n) : ga (List.replicate n x) i = x := by simp [ga, h]
structure BS where
  cost : List Int
  by_ : List Arc
def BS.can (s : BS) (x : Arc) : Prop := gi s.cost x.f + x.c < gi s.cost x.t
def BS.rlx (s : BS) (x : Arc) : BS := ⟨s.cost.set x.t (gi s.cost x.f + x.c), s.by_.set x.t x⟩
theorem Lev.up {as : List Arc} {D : Nat → Int} {k m : Nat} (h : k ≤ m) {v : Nat} (hv : Lev as D k v) : Lev as D m v := by
  induction h with
  | refl => exact hv
  | step _ ih => exact .inl ih
inductive Back (b : List Arc) : Nat → Nat → Int → Nat → Prop
  | nil {v : Nat} : Back b v 0 0 v
  | cons {v u : Nat} {k : Nat} {c : Int} (h : 0 ≤ (ga b v).l) (t : Back b (ga b v).f k c u) : Back b v (k + 1) ((ga b v).c + c) u
theorem Back.trans {b : List Arc} {v u w : Nat} {k m : Nat} {c d : Int} (h : Back b v k c u) (g : Back b u m d w) : Back b v (k + m) (c + d) w := by
  induction h with
  | nil => simpa using g
  | cons h t ih =>
    have := Back.cons h (ih g)
    rw [Int.add_assoc, Nat.add_right_comm]; exact this
theorem Back.turn {b b' : List Arc} {v : Nat} (hb : ∀ u, u ≠ v → ga b' u = ga b u) {u w : Nat} {k : Nat} {c : Int} (h : Back b' u k c w) :
    Back b u k c w ∨ ∃ i d j e, Back b u i d v ∧ Back b' v j e w ∧ i + j = k ∧ d + e = c := by
  induction h with
  | nil => exact .inl .nil
  | @cons x w k c h t ih =>
    by_cases e : x = v
    · subst e; exact .inr ⟨0, 0, _, _, .nil, .cons h t, by omega, by omega⟩
    · rw [hb x e] at h ih ⊢
      rcases ih with g | ⟨i, d, j, e', g1, g2, g3, g4⟩
      · exact .inl (.cons h g)
      · exact .inr ⟨i + 1, _, j, e', .cons h g1, g2, by omega, by omega⟩
structure NInv (n : Nat) (as : List Arc) (r j : Nat) (ov : Option Arc) (s : BS) : Prop where
  lc : s.cost.length = n
  lb : s.by_.length = n
  hi : ∀ v < n, gi s.cost v ≤ 0
  lo : ∀ v < n, -(((r : Int) * 801 + j) * 20000) ≤ gi s.cost v
  rg : ∀ v < n, (ga s.by_ v).f < n ∧ (ga s.by_ v).t < n ∧ -20000 ≤ (ga s.by_ v).c ∧ (ga s.by_ v).c ≤ 20000
  ovm : ∀ x, ov = some x → x ∈ as
  nov : ov = none → ∀ i < j, ∀ x, as[i]? = some x → ¬ s.can x
  fe : ∀ D, Feas as D → (∀ v, D v ≤ 0) → (∀ v < n, D v ≤ gi s.cost v) ∧ (∀ v < n, Lev as D r v → gi s.cost v = D v) ∧
    (∀ i < j, ∀ x, as[i]? = some x → Lev as D r x.f → D x.t = D x.f + x.c → gi s.cost x.t = D x.t) ∧ (ov ≠ none → ∃ v, v < n ∧ ¬ Lev as D r v)
  rd : ∃ R : Nat → Nat, (∀ v < n, (R v = 0 ∧ ga s.by_ v = ⟨0, 0, 0, -1⟩) ∨ (1 ≤ R v ∧ R v ≤ r + 1 ∧ ga s.by_ v ∈ as ∧ (ga s.by_ v).t = v ∧ gi s.cost (ga s.by_ v).f + (ga s.by_ v).c ≤ gi s.cost v ∧ R v ≤ R (ga s.by_ v).f + 1)) ∧
    (∀ i < j, ∀ x, as[i]? = some x → ¬ s.can x ∨ R x.f = r + 1) ∧ (∀ x ∈ as, ¬ s.can x ∨ r ≤ R x.f) ∧ (∀ x, ov = some x → R x.t = r + 1)
  cyc : ∀ v < n, ∀ k c, Back s.by_ v (k + 1) c v → c < 0
def ArcsOk (as : List Arc) (n : Nat) : Prop := as.length ≤ 801 ∧ ∀ x ∈ as, x.f < n ∧ x.t < n ∧ -20000 ≤ x.c ∧ x.c ≤ 20000 ∧ 0 ≤ x.l ∧ x.f ≠ x.t
variable {n : Nat} {as : List Arc} {r j : Nat} {ov : Option Arc} {s : BS} {x : Arc}
theorem NInv.init (hn : 0 < n) : NInv n as 0 0 none ⟨List.replicate n 0, List.replicate n ⟨0, 0, 0, -1⟩⟩ where
  lc := by simp
  lb := by simp
  hi := fun v hv => by rw [gi_replicate n 0 hv]; omega
  lo := fun v hv => by rw [gi_replicate n 0 hv]; omega
  rg := fun v hv => by rw [ga_replicate n _ hv]; exact ⟨hn, hn, by simp, by simp⟩
  ovm := fun x h => by cases h
  nov := fun _ i hi => by omega
  fe := fun D hD h0 => ⟨fun v hv => by rw [gi_replicate n 0 hv]; exact h0 v, fun v hv h => by rw [gi_replicate n 0 hv]; exact h.symm, fun i hi => by omega, fun h => (h rfl).elim⟩
  rd := ⟨fun _ => 0, fun v hv => .inl ⟨rfl, ga_replicate n _ hv⟩, fun i hi => by omega, fun x _ => .inr (Nat.zero_le _), fun x h => by cases h⟩
  cyc := fun v hv k c h => by
    cases h with
    | cons h _ => rw [ga_replicate n _ hv] at h; simp at h
theorem NInv.skip (h : NInv n as r j ov s) (ho : ArcsOk as n) (hx : as[j]? = some x) (hc : ¬ s.can x) : NInv n as r (j + 1) ov s where
  lc := h.lc
  lb := h.lb
  hi := h.hi
  lo := fun v hv => by have := h.lo v hv; omega
  rg := h.rg
  ovm := h.ovm
  nov := fun e i hi y hy => by
    by_cases he : i = j
    · subst he; rw [hx] at hy; cases hy; exact hc
    · exact h.nov e i (by omega) y hy
  fe := fun D hD h0 => by
    obtain ⟨h1, h2, h3, h4⟩ := h.fe D hD h0
    refine ⟨h1, h2, fun i hi y hy hl ht => ?_, h4⟩
    by_cases he : i = j
    · subst he; rw [hx] at hy; cases hy
      obtain ⟨b1, b2, _⟩ := ho.2 x (List.mem_of_getElem? hx)
      have h5 := h2 _ b1 hl
      have h6 := h1 _ b2
      unfold BS.can at hc
      omega
    · exact h3 i (by omega) y hy hl ht
  rd := by
    obtain ⟨R, h1, h2, h3, h4⟩ := h.rd
    refine ⟨R, h1, fun i hi y hy => ?_, h3, h4⟩
    by_cases he : i = j
    · subst he; rw [hx] at hy; cases hy; exact .inl hc
    · exact h2 i (by omega) y hy
  cyc := h.cyc
theorem Back.cost {b : List Arc} {C : List Int} {n : Nat} (h : ∀ v < n, 0 ≤ (ga b v).l → (ga b v).f < n ∧ gi C (ga b v).f + (ga b v).c ≤ gi C v) {v u : Nat} {k : Nat} {c : Int} (hb : Back b v k c u) (hv : v < n) : gi C u + c ≤ gi C v := by
  induction hb with
  | nil => omega
  | cons hl t ih =>
    obtain ⟨h1, h2⟩ := h _ hv hl
    have := ih h1
    omega
theorem NInv.relax (h : NInv n as r j ov s) (ho : ArcsOk as n) (hx : as[j]? = some x) (hc : s.can x) : NInv n as r (j + 1) (some x) (s.rlx x) := by
  have hm := List.mem_of_getElem? hx
  obtain ⟨b1, b2, b3, b4, b5, b6⟩ := ho.2 x hm
  have hg : ∀ v, gi (s.rlx x).cost v = if v = x.t then gi s.cost x.f + x.c else gi s.cost v := fun v => gi_set (by rw [h.lc]; exact b2) _ v
  have hb : ∀ v, ga (s.rlx x).by_ v = if v = x.t then x else ga s.by_ v := fun v => ga_set (by rw [h.lb]; exact b2) _ v
  have hle : ∀ v, gi (s.rlx x).cost v ≤ gi s.cost v := fun v => by
    rw [hg]; unfold BS.can at hc; split
    · rename_i e; subst e; omega
    · omega
  have hmon : ∀ v < n, 0 ≤ (ga s.by_ v).l → (ga s.by_ v).f < n ∧ gi s.cost (ga s.by_ v).f + (ga s.by_ v).c ≤ gi s.cost v := fun v hv hl => by
    obtain ⟨R, h1, _⟩ := h.rd
    refine ⟨(h.rg v hv).1, ?_⟩
    rcases h1 v hv with ⟨_, e⟩ | ⟨_, _, _, _, h2, _⟩
    · rw [e] at hl; simp at hl
    · exact h2
  refine ⟨by simp [BS.rlx, h.lc], by simp [BS.rlx, h.lb], fun v hv => Int.le_trans (hle v) (h.hi v hv), fun v hv => ?_, fun v hv => ?_, fun y hy => (by cases hy; exact hm), fun e => (by cases e), fun D hD h0 => ?_, ?_, ?_⟩
  · have h1 := h.lo v hv
    have h2 := h.lo x.f b1
    rw [hg]; split <;> omega
  · rw [hb]; split
    · exact ⟨b1, b2, b3, b4⟩
    · exact h.rg v hv
  · obtain ⟨h1, h2, h3, h4⟩ := h.fe D hD h0
    have hlow : D x.t ≤ gi s.cost x.f + x.c := by have := hD x hm; have := h1 _ b1; omega
    have hnl : ¬ Lev as D r x.t := fun hl => by
      have := h2 _ b2 hl
      unfold BS.can at hc; omega
    refine ⟨fun v hv => ?_, fun v hv hl => ?_, fun i hi y hy hl ht => ?_, fun _ => ⟨_, b2, hnl⟩⟩
    · rw [hg]; split
      · rename_i e; subst e; exact hlow
      · exact h1 v hv
    · rw [hg, if_neg (fun e : v = x.t => hnl (e ▸ hl))]; exact h2 v hv hl
    · obtain ⟨c1, c2, _⟩ := ho.2 y (List.mem_of_getElem? hy)
      by_cases he : i = j
      · subst he; rw [hx] at hy; cases hy
        rw [hg, if_pos rfl, h2 _ b1 hl, ht]
      · have h5 := h3 i (by omega) y hy hl ht
        rw [hg]; split
        · rename_i e
          rw [e] at h5
          unfold BS.can at hc; rw [e]; omega
        · exact h5
  · obtain ⟨R, h1, h2, h3, h4⟩ := h.rd
    have hxr : r ≤ R x.f := by
      rcases h3 x hm with e | e
      · exact (e hc).elim
      · exact e
    have hR : ∀ v < n, R v ≤ r + 1 := fun v hv => by
      rcases h1 v hv with ⟨e, _⟩ | ⟨_, e, _⟩ <;> omega
    refine ⟨fun v => if v = x.t then r + 1 else R v, fun v hv => ?_, fun i hi y hy => ?_, fun y hy => ?_, fun y hy => ?_⟩
    · by_cases e : v = x.t
      · subst e
        refine .inr ⟨?_, ?_, ?_, ?_, ?_, ?_⟩
        · simp
        · simp
        · rw [hb, if_pos rfl]; exact hm
        · rw [hb, if_pos rfl]
        · rw [hb, if_pos rfl, hg, hg, if_neg b6, if_pos rfl]; exact Int.le_refl _
        · simp only [hb, if_true, if_neg b6]; omega
      · simp only [hb, if_neg e]
        rcases h1 v hv with e1 | ⟨e1, e2, e3, e4, e5, e6⟩
        · exact .inl e1
        · refine .inr ⟨e1, e2, e3, e4, ?_, ?_⟩
          · have := hle (ga s.by_ v).f
            rw [hg v, if_neg e]; omega
          · split
            · omega
            · exact e6
    · by_cases he : i = j
      · subst he; rw [hx] at hy; cases hy
        refine .inl fun hc' => ?_
        unfold BS.can at hc'
        rw [hg, hg, if_neg b6, if_pos rfl] at hc'; omega
      · dsimp only
        by_cases e : y.f = x.t
        · exact .inr (by rw [if_pos e])
        · rw [if_neg e]
          rcases h2 i (by omega) y hy with e1 | e1
          · refine .inl fun hc' => e1 ?_
            unfold BS.can at hc' ⊢
            have := hle y.t
            rw [hg y.f, if_neg e] at hc'; omega
          · exact .inr e1
    · dsimp only
      by_cases e : y.f = x.t
      · exact .inr (by rw [if_pos e]; omega)
      · rw [if_neg e]
        rcases h3 y hy with e1 | e1
        · refine .inl fun hc' => e1 ?_
          unfold BS.can at hc' ⊢
          have := hle y.t
          rw [hg y.f, if_neg e] at hc'; omega
        · exact .inr e1
    · cases hy; simp
  · have hbk : ∀ {u w : Nat} {k : Nat} {c : Int}, Back (s.rlx x).by_ u k c w → Back s.by_ u k c w ∨ ∃ i d j e, Back s.by_ u i d x.t ∧ Back (s.rlx x).by_ x.t j e w ∧ i + j = k ∧ d + e = c :=
      Back.turn (fun u hu => by rw [hb, if_neg hu])
    have hroad : ∀ {k : Nat} {c : Int}, Back s.by_ x.f k c x.t → x.c + c < 0 := fun h => by
      have := Back.cost hmon h b1
      unfold BS.can at hc; omega
    have key : ∀ (m j : Nat) (e : Int) (v i : Nat) (d : Int), j ≤ m → Back s.by_ v i d x.t → Back (s.rlx x).by_ x.t j e v → v < n → 1 ≤ i + j → d + e < 0 := by
      intro m
      induction m with
      | zero =>
        intro j e v i d hj h1 h2 hv h3
        obtain rfl : j = 0 := by omega
        cases h2
        obtain ⟨i', rfl⟩ : ∃ i', i = i' + 1 := ⟨i - 1, by omega⟩
        have := h.cyc _ hv _ _ h1
        omega
      | succ m ih =>
        intro j e v i d hj h1 h2 hv h3
        cases h2 with
        | nil =>
          obtain ⟨i', rfl⟩ : ∃ i', i = i' + 1 := ⟨i - 1, by omega⟩
          have := h.cyc _ hv _ _ h1
          omega
        | @cons _ _ k c hl t =>
          have hxt : ga (s.rlx x).by_ x.t = x := by rw [hb, if_pos rfl]
          rw [hxt] at t ⊢
          rcases hbk t with g | ⟨i2, d2, j2, e2, g1, g2, g3, g4⟩
          · have := hroad (g.trans h1)
            omega
          · have h5 := hroad g1
            by_cases h6 : 1 ≤ i + j2
            · have := ih j2 e2 v i d (by omega) h1 g2 hv h6
              omega
            · obtain rfl : i = 0 := by omega
              obtain rfl : j2 = 0 := by omega
              cases h1
              cases g2
              omega
    intro v hv k c hcy
    rcases hbk hcy with g | ⟨i, d, j2, e, g1, g2, g3, g4⟩
    · exact h.cyc v hv k c g
    · have := key j2 j2 e v i d (Nat.le_refl _) g1 g2 hv (by omega)
      omega
theorem NInv.next (h : NInv n as r as.length ov s) (ho : ArcsOk as n) : NInv n as (r + 1) 0 none s where
  lc := h.lc
  lb := h.lb
  hi := h.hi
  lo := fun v hv => by have := h.lo v hv; have := ho.1; push_cast; omega
  rg := h.rg
  ovm := fun x e => by cases e
  nov := fun _ i hi => by omega
  fe := fun D hD h0 => by
    obtain ⟨h1, h2, h3, _⟩ := h.fe D hD h0
    refine ⟨h1, fun v hv hl => ?_, fun i hi => by omega, fun e => (e rfl).elim⟩
    rcases hl with hl | ⟨x, hx, rfl, hl, ht⟩
    · exact h2 v hv hl
    · obtain ⟨i, hi⟩ := List.getElem?_of_mem hx
      exact h3 i (List.getElem?_eq_some_iff.1 hi).1 x hi hl ht
  rd := by
    obtain ⟨R, h1, h2, h3, _⟩ := h.rd
    refine ⟨R, fun v hv => ?_, fun i hi => by omega, fun x hx => ?_, fun x e => by cases e⟩
    · rcases h1 v hv with e | ⟨e1, e2, e3⟩
      · exact .inl e
      · exact .inr ⟨e1, by omega, e3⟩
    · obtain ⟨i, hi⟩ := List.getElem?_of_mem hx
      rcases h2 i (List.getElem?_eq_some_iff.1 hi).1 x hi with e | e
      · exact .inl e
      · exact .inr (by omega)
  cyc := h.cyc
theorem NInv.sol (h : NInv n as r as.length none s) (ho : ArcsOk as n) (hn : 0 < n) : Feas as (gi s.cost) ∧ ∀ v < n, -(((n - 1 : Nat) : Int) * 20000) ≤ gi s.cost v ∧ gi s.cost v ≤ 0 := by
  have hf : Feas as (gi s.cost) := fun x hx => by
    obtain ⟨i, hi⟩ := List.getElem?_of_mem hx
    have := h.nov rfl i (List.getElem?_eq_some_iff.1 hi).1 x hi
    unfold BS.can at this; omega
  refine ⟨hf, fun v hv => ⟨?_, h.hi v hv⟩⟩
  obtain ⟨D, h1, h2, h3⟩ := hf.bounded (C := 20000) hn (by omega) fun x hx => by
    obtain ⟨b1, b2, b3, _⟩ := ho.2 x hx; exact ⟨b1, b2, b3⟩
  have h4 := (h.fe D h1 h2).1 v hv
  have h5 := h3 v hv
  omega
theorem NInv.none (h : NInv n as r j (some x) s) (ho : ArcsOk as n) (hn : 0 < n) (hr : n ≤ r + 1) : ¬ ∃ p, Feas as p := by
  rintro ⟨p, hp⟩
  obtain ⟨D, h1, h2, h3⟩ := hp.greatest hn fun x hx => by obtain ⟨b1, b2, _⟩ := ho.2 x hx; exact ⟨b1, b2⟩
  obtain ⟨v, hv, hl⟩ := (h.fe D h1 h2).2.2.2 (by simp)
  exact hl ((h3 v hv).up (by omega))
end Go.MW

namespace Go.MW
theorem Back.turn2 {b b' : List Arc} {v : Nat} (hb : ∀ u, u ≠ v → ga b' u = ga b u) {u w : Nat} {k : Nat} {c : Int} (h : Back b u k c w) :
    Back b' u k c w ∨ ∃ i d j e, Back b u i d v ∧ Back b' u i d v ∧ Back b v j e w ∧ i + j = k ∧ d + e = c := by
  induction h with
  | nil => exact .inl .nil
  | @cons x w k c h t ih =>
    by_cases e : x = v
    · subst e; exact .inr ⟨0, 0, _, _, .nil, .nil, .cons h t, by omega, by omega⟩
    · have e2 := hb x e
      rcases ih with g | ⟨i, d, j, e', g1, g2, g3, g4, g5⟩
      · refine .inl ?_
        have := Back.cons (b := b') (v := x) (k := k) (c := c) (u := w) (by rw [e2]; exact h) (by rw [e2]; exact g)
        rwa [e2] at this
      · refine .inr ⟨i + 1, _, j, e', .cons h g1, ?_, g3, by omega, (?_ : (ga b x).c + d + e' = (ga b x).c + c)⟩
        · have := Back.cons (b := b') (v := x) (k := i) (c := d) (u := v) (by rw [e2]; exact h) (by rw [e2]; exact g2)
          rwa [e2] at this
        · omega
theorem Back.uniq {b : List Arc} {v u : Nat} {k m : Nat} {c d : Int} (hu : (ga b u).l < 0) (h : Back b v k c u) (g : Back b v m d u) : k = m := by
  induction h generalizing m d with
  | nil =>
    cases g with
    | nil => rfl
    | cons h _ => omega
  | cons h t ih =>
    cases g with
    | nil => omega
    | cons _ g => rw [ih hu g]
theorem Back.split {b : List Arc} {v u : Nat} {k : Nat} {c : Int} (h : Back b v k c u) {i : Nat} (hi : i ≤ k) : ∃ w d e, Back b v (k - i) d w ∧ Back b w i e u := by
  induction h with
  | nil => obtain rfl : i = 0 := by omega
           exact ⟨_, 0, 0, .nil, .nil⟩
  | @cons x w k c h t ih =>
    by_cases e : i = k + 1
    · subst e; exact ⟨x, 0, _, by simpa using .nil, .cons h t⟩
    · obtain ⟨w', d, e', g1, g2⟩ := ih (by omega)
      refine ⟨w', (ga b x).c + d, e', ?_, g2⟩
      have := Back.cons h g1
      rwa [show k - i + 1 = k + 1 - i from by omega] at this
theorem Back.short {b : List Arc} {n : Nat} {v u : Nat} {k : Nat} {c : Int} {A : Nat → Prop} (hA : ∀ v, A v → v < n) (hn : ∀ v, A v → 0 ≤ (ga b v).l → A (ga b v).f) (hu : (ga b u).l < 0) (h : Back b v k c u) (hv : A v) : k < n := by
  have hin : ∀ {v w : Nat} {k : Nat} {c : Int}, Back b v k c w → A v → A w := fun h => by
    induction h with
    | nil => exact id
    | cons h t ih => exact fun hv => ih (hn _ hv h)
  have key : ∀ m, m ≤ k → m + 1 ≤ (Classical.choose cnt_ex) (fun x => ∃ i c, i ≤ m ∧ Back b x i c u) n := by
    intro m
    induction m with
    | zero => intro _; exact cnt_pos (hA _ (hin h hv)) ⟨0, 0, Nat.le_refl _, .nil⟩
    | succ m ih =>
      intro hm
      have h1 := ih (by omega)
      obtain ⟨w, d, e, g1, g2⟩ := h.split (i := m + 1) hm
      have := cnt_lt (p := fun x => ∃ i c, i ≤ m ∧ Back b x i c u) (q := fun x => ∃ i c, i ≤ m + 1 ∧ Back b x i c u) (n := n) (fun v _ ⟨i, c, hi, hb⟩ => ⟨i, c, by omega, hb⟩) (hA _ (hin g1 hv)) ⟨m + 1, e, Nat.le_refl _, g2⟩
        (fun ⟨i, c, hi, hb⟩ => by have := hb.uniq hu g2; omega)
      omega
  have h1 := key k (Nat.le_refl _)
  have h2 := cnt_le (fun x => ∃ i c, i ≤ k ∧ Back b x i c u) n
  omega
abbrev far : Int := 1152921504606846976
structure WInv (n : Nat) (as : List Arc) (S : Nat → Prop) (D : Nat → Int) (j : Nat) (again : Bool) (s : BS) : Prop where
  lc : s.cost.length = n
  lb : s.by_.length = n
  lo : ∀ v < n, D v ≤ gi s.cost v
  top : ∀ v < n, gi s.cost v ≤ far
  up : ∀ v < n, gi s.cost v < far → gi s.cost v ≤ 20000 * (Classical.choose cnt_ex) (fun v => gi s.cost v < far) n
  src : ∀ v < n, S v → gi s.cost v ≤ 0
  by1 : ∀ v < n, gi s.cost v < far → ((ga s.by_ v).l = -1 ∧ S v ∧ gi s.cost v = 0) ∨
    (0 ≤ (ga s.by_ v).l ∧ ga s.by_ v ∈ as ∧ (ga s.by_ v).t = v ∧ gi s.cost (ga s.by_ v).f < far ∧ gi s.cost (ga s.by_ v).f + (ga s.by_ v).c ≤ gi s.cost v)
  dep : ∀ v < n, gi s.cost v < far → ∃ k c u, Back s.by_ v k c u ∧ (ga s.by_ u).l < 0
  nov : again = false → ∀ i < j, ∀ x, as[i]? = some x → ¬ (gi s.cost x.f < far ∧ s.can x)
structure WG (n : Nat) (as : List Arc) (D : Nat → Int) : Prop where
  n0 : 0 < n
  n1 : n ≤ 65
  ok : ∀ x ∈ as, x.f < n ∧ x.t < n ∧ -20000 ≤ x.c ∧ x.c ≤ 20000 ∧ 0 ≤ x.l ∧ x.f ≠ x.t
  fe : Feas as D
  d0 : ∀ v, D v ≤ 0
  d1 : ∀ v < n, -1280000 ≤ D v
variable {n : Nat} {as : List Arc} {S : Nat → Prop} {D : Nat → Int} {j : Nat} {again : Bool} {s : BS} {x : Arc}
theorem WInv.low (h : WInv n as S D j again s) (hg : WG n as D) {v : Nat} (hv : v < n) (hr : gi s.cost v < far) : gi s.cost v ≤ 1300000 := by
  have h1 := h.up v hv hr
  have h2 := cnt_le (fun v => gi s.cost v < far) n
  have := hg.n1
  omega
theorem WInv.next (h : WInv n as S D j again s) : WInv n as S D 0 false s := ⟨h.lc, h.lb, h.lo, h.top, h.up, h.src, h.by1, h.dep, fun _ i hi => by omega⟩
theorem WInv.skip (h : WInv n as S D j again s) (hx : as[j]? = some x) (hc : ¬ (gi s.cost x.f < far ∧ s.can x)) : WInv n as S D (j + 1) again s :=
  ⟨h.lc, h.lb, h.lo, h.top, h.up, h.src, h.by1, h.dep, fun e i hi y hy => by
    by_cases he : i = j
    · subst he; rw [hx] at hy; cases hy; exact hc
    · exact h.nov e i (by omega) y hy⟩
theorem WInv.relax (h : WInv n as S D j again s) (hg : WG n as D) (hx : as[j]? = some x) (hf : gi s.cost x.f < far) (hc : s.can x) : WInv n as S D (j + 1) true (s.rlx x) := by
  have hm := List.mem_of_getElem? hx
  obtain ⟨b1, b2, b3, b4, b5, b6⟩ := hg.ok x hm
  have hgi : ∀ v, gi (s.rlx x).cost v = if v = x.t then gi s.cost x.f + x.c else gi s.cost v := fun v => gi_set (by rw [h.lc]; exact b2) _ v
  have hb : ∀ v, ga (s.rlx x).by_ v = if v = x.t then x else ga s.by_ v := fun v => ga_set (by rw [h.lb]; exact b2) _ v
  have hle : ∀ v, gi (s.rlx x).cost v ≤ gi s.cost v := fun v => by
    rw [hgi]; unfold BS.can at hc; split
    · rename_i e; subst e; omega
    · omega
  have hlow := h.low hg b1 hf
  have hxt : gi (s.rlx x).cost x.t < far := by rw [hgi, if_pos rfl]; simp only [far]; omega
  have hstep : ∀ v, (v < n ∧ gi s.cost v < far) → 0 ≤ (ga s.by_ v).l → ga s.by_ v ∈ as ∧ (ga s.by_ v).t = v ∧ gi s.cost (ga s.by_ v).f + (ga s.by_ v).c ≤ gi s.cost v ∧ ((ga s.by_ v).f < n ∧ gi s.cost (ga s.by_ v).f < far) := fun v ⟨hv, hr⟩ hl => by
    rcases h.by1 v hv hr with ⟨e, _⟩ | ⟨_, e1, e2, e3, e4⟩
    · omega
    · exact ⟨e1, e2, e4, (hg.ok _ e1).1, e3⟩
  have hcost : ∀ {v u : Nat} {k : Nat} {c : Int}, Back s.by_ v k c u → (v < n ∧ gi s.cost v < far) → gi s.cost u + c ≤ gi s.cost v ∧ D v ≤ D u + c := fun hb => by
    induction hb with
    | nil => intro _; omega
    | @cons v u k c hl t ih =>
      intro hv
      obtain ⟨h1, h2, h3, h4⟩ := hstep _ hv hl
      obtain ⟨h5, h6⟩ := ih h4
      have h7 := hg.fe _ h1
      rw [h2] at h7
      omega
  have hroad : ∀ {k : Nat} {c : Int}, ¬ Back s.by_ x.f k c x.t := fun hbk => by
    have h1 := hcost hbk ⟨b1, hf⟩
    have h2 := hg.fe x hm
    unfold BS.can at hc; omega
  have hcnt : (Classical.choose cnt_ex) (fun v => gi s.cost v < far) n ≤ (Classical.choose cnt_ex) (fun v => gi (s.rlx x).cost v < far) n := cnt_mono fun v _ hv => by have := hle v; omega
  have hturn : ∀ u, u ≠ x.t → ga (s.rlx x).by_ u = ga s.by_ u := fun u hu => by rw [hb, if_neg hu]
  refine ⟨by simp [BS.rlx, h.lc], by simp [BS.rlx, h.lb], fun v hv => ?_, fun v hv => Int.le_trans (hle v) (h.top v hv), fun v hv hr => ?_, fun v hv hs => Int.le_trans (hle v) (h.src v hv hs), fun v hv hr => ?_, ?_, fun e => (by cases e)⟩
  · rw [hgi]; split
    · rename_i e; subst e
      have := hg.fe x hm; have := h.lo _ b1; omega
    · exact h.lo v hv
  · by_cases e : v = x.t
    · subst e
      rw [hgi, if_pos rfl]
      have h1 := h.up _ b1 hf
      by_cases hr0 : gi s.cost x.t < far
      · have := h.up _ b2 hr0
        unfold BS.can at hc
        omega
      · have := cnt_lt (p := fun v => gi s.cost v < far) (q := fun v => gi (s.rlx x).cost v < far) (n := n) (fun v _ hv => by have := hle v; omega) b2 hxt hr0
        omega
    · rw [hgi, if_neg e] at hr ⊢
      have := h.up v hv hr
      omega
  · by_cases e : v = x.t
    · subst e
      refine .inr ?_
      simp only [hb, if_true]
      refine ⟨b5, hm, trivial, ?_, ?_⟩
      · rw [hgi, if_neg b6]; exact hf
      · rw [hgi, hgi, if_neg b6, if_pos rfl]; exact Int.le_refl _
    · rw [hgi, if_neg e] at hr ⊢
      rw [hb, if_neg e]
      rcases h.by1 v hv hr with e1 | ⟨e1, e2, e3, e4, e5⟩
      · exact .inl e1
      · have := hle (ga s.by_ v).f
        exact .inr ⟨e1, e2, e3, by omega, by omega⟩
  ·
    obtain ⟨k0, c0, u0, g1, g2⟩ := h.dep _ b1 hf
    have hnot : ∀ {k : Nat} {c : Int} {u : Nat}, Back s.by_ x.f k c u → Back (s.rlx x).by_ x.f k c u ∧ u ≠ x.t := fun g => by
      refine ⟨?_, fun e => by subst e; exact hroad g⟩
      rcases Back.turn2 hturn g with g | ⟨i, d, j, e, g, _⟩
      · exact g
      · exact (hroad g).elim
    obtain ⟨g3, g4⟩ := hnot g1
    have hroot : (ga (s.rlx x).by_ u0).l < 0 := by rw [hb, if_neg g4]; exact g2
    have hfrom : Back (s.rlx x).by_ x.t (k0 + 1) (x.c + c0) u0 := by
      have := Back.cons (b := (s.rlx x).by_) (v := x.t) (k := k0) (c := c0) (u := u0) (by rw [hb, if_pos rfl]; exact b5) (by rw [hb, if_pos rfl]; exact g3)
      rwa [hb, if_pos rfl] at this
    intro v hv hr
    by_cases e : v = x.t
    · subst e; exact ⟨_, _, _, hfrom, hroot⟩
    · rw [hgi, if_neg e] at hr
      obtain ⟨k, c, u, f1, f2⟩ := h.dep v hv hr
      rcases Back.turn2 hturn f1 with f | ⟨i, d, j, e', _, f, _⟩
      · by_cases e2 : u = x.t
        · subst e2; exact ⟨_, _, _, f.trans hfrom, hroot⟩
        · exact ⟨_, _, _, f, by rw [hb, if_neg e2]; exact f2⟩
      · exact ⟨_, _, _, f.trans hfrom, hroot⟩
def WM (n : Nat) (D : Nat → Int) (s : BS) : Nat := (sumTo (fun v => gi s.cost v - D v) n).toNat
theorem WInv.less (h : WInv n as S D j again s) (hg : WG n as D) (hx : as[j]? = some x) (hf : gi s.cost x.f < far) (hc : s.can x) : WM n D (s.rlx x) < WM n D s := by
  have hm := List.mem_of_getElem? hx
  obtain ⟨b1, b2, _⟩ := hg.ok x hm
  have h2 := h.relax hg hx hf hc
  have hgi : ∀ v, gi (s.rlx x).cost v = if v = x.t then gi s.cost x.f + x.c else gi s.cost v := fun v => gi_set (by rw [h.lc]; exact b2) _ v
  unfold BS.can at hc
  have h3 : sumTo (fun v => gi (s.rlx x).cost v - D v) n < sumTo (fun v => gi s.cost v - D v) n := sumTo_lt (u := x.t) (fun v _ => by
    rw [hgi]; split
    · rename_i e; subst e; omega
    · omega) b2 (by rw [hgi, if_pos rfl]; omega)
  have h4 : 0 ≤ sumTo (fun v => gi (s.rlx x).cost v - D v) n := sumTo_nonneg fun v hv => by have := h2.lo v hv; omega
  unfold WM; omega
def after (D : Nat → Int) (s : BS) (v : Nat) : Int := if gi s.cost v < far then gi s.cost v else D v + far
theorem WInv.after (h : WInv n as S D as.length false s) (hg : WG n as D) : Feas as (after D s) := fun x hx => by
  obtain ⟨b1, b2, b3, b4, b5, b6⟩ := hg.ok x hx
  obtain ⟨i, hi⟩ := List.getElem?_of_mem hx
  have h1 := h.nov rfl i (List.getElem?_eq_some_iff.1 hi).1 x hi
  unfold MW.after
  by_cases hf : gi s.cost x.f < far
  · have h2 := h.low hg b1 hf
    have h3 : gi s.cost x.t ≤ gi s.cost x.f + x.c := by
      have : ¬ s.can x := fun e => h1 ⟨hf, e⟩
      unfold BS.can at this; omega
    have h4 : gi s.cost x.t < far := by simp only [far]; omega
    rw [if_pos hf, if_pos h4]; exact h3
  · rw [if_neg hf]
    have h5 := hg.fe x hx
    have h6 := hg.d1 _ b1
    split
    · rename_i ht
      have := h.low hg b2 ht
      simp only [far]; omega
    · omega
theorem WInv.closed (h : WInv n as S D as.length false s) (hg : WG n as D) : ∀ x ∈ as, gi s.cost x.f < far → gi s.cost x.t < far := fun x hx hf => by
  obtain ⟨b1, b2, b3, b4, b5, b6⟩ := hg.ok x hx
  obtain ⟨i, hi⟩ := List.getElem?_of_mem hx
  have h1 := h.nov rfl i (List.getElem?_eq_some_iff.1 hi).1 x hi
  have h2 := h.low hg b1 hf
  have : ¬ s.can x := fun e => h1 ⟨hf, e⟩
  unfold BS.can at this
  simp only [far] at *; omega
def trail (b : List Arc) : Nat → Nat → List Arc
  | _, 0 => []
  | v, k + 1 => ga b v :: trail b (ga b v).f k
end Go.MW

namespace Go.MW
def dot : List Arc → List Int → (Arc → Int) → Int
  | x :: es, z :: ts, g => z * g x + dot es ts g
  | _, _, _ => 0
theorem dot_congr {g h : Arc → Int} : ∀ {es : List Arc} {ts : List Int}, (∀ x ∈ es, g x = h x) → dot es ts g = dot es ts h := by
  intro es
  induction es with
  | nil => intro ts _; simp [dot]
  | cons x es ih =>
    intro ts h
    cases ts with
    | nil => simp [dot]
    | cons z ts => simp only [dot, h x (.head _), ih fun y hy => h y (.tail _ hy)]
theorem dot_set {g : Arc → Int} : ∀ {es : List Arc} {ts : List Int} {i : Nat} {x : Arc}, es[i]? = some x → i < ts.length → ∀ z, dot es (ts.set i z) g = dot es ts g + (z - gi ts i) * g x := by
  intro es
  induction es with
  | nil => intro ts i x h; simp at h
  | cons y es ih =>
    intro ts i x h hi z
    cases ts with
    | nil => simp at hi
    | cons t ts =>
      cases i with
      | zero =>
        simp only [List.getElem?_cons_zero, Option.some.injEq] at h
        subst h
        simp only [List.set_cons_zero, dot, gi, List.getD_cons_zero]
        rw [Int.sub_mul]; omega
      | succ i =>
        simp only [List.getElem?_cons_succ] at h
        have h2 := ih h (by simpa using hi) z
        simp only [List.set_cons_succ, dot, h2]
        have : gi (t :: ts) (i + 1) = gi ts i := rfl
        rw [this]; omega
theorem dot_zero {g : Arc → Int} : ∀ (es : List Arc) (m : Nat), dot es (List.replicate m 0) g = 0 := by
  intro es
  induction es with
  | nil => intro m; simp [dot]
  | cons x es ih =>
    intro m
    cases m with
    | zero => simp [dot]
    | succ m => simp only [List.replicate_succ, dot, ih]; omega
def ind (a v : Nat) : Int := if a = v then 1 else 0
def net (es : List Arc) (ts : List Int) (v : Nat) : Int := dot es ts fun x => ind x.t v - ind x.f v
theorem ind_sum {a n : Nat} (h : a < n) (p : Nat → Int) : sumTo (fun v => ind a v * p v) n = p a := by
  rw [sumTo_one h fun v _ hv => by simp [ind, Ne.symm hv]]
  simp [ind]
theorem sumTo_mulr (f p : Nat → Int) (c : Int) (n : Nat) : sumTo (fun v => c * f v * p v) n = c * sumTo (fun v => f v * p v) n := by
  rw [← sumTo_mul]
  exact sumTo_congr fun v _ => by rw [Int.mul_assoc]
theorem dot_dual {n : Nat} (p : Nat → Int) : ∀ {es : List Arc} {ts : List Int}, (∀ x ∈ es, x.f < n ∧ x.t < n) → dot es ts (fun x => p x.t - p x.f) = sumTo (fun v => net es ts v * p v) n := by
  intro es
  induction es with
  | nil => intro ts _; simp only [dot, net]; rw [sumTo_congr (g := fun _ => 0) (fun v _ => by simp), sumTo_zero]
  | cons x es ih =>
    intro ts h
    cases ts with
    | nil => simp only [dot, net]; rw [sumTo_congr (g := fun _ => 0) (fun v _ => by simp), sumTo_zero]
    | cons z ts =>
      have h1 := ih (ts := ts) fun y hy => h y (.tail _ hy)
      obtain ⟨h2, h3⟩ := h x (.head _)
      simp only [dot]
      rw [h1]
      have : sumTo (fun v => net (x :: es) (z :: ts) v * p v) n = sumTo (fun v => z * (ind x.t v - ind x.f v) * p v + net es ts v * p v) n :=
        sumTo_congr fun v _ => by simp only [net, dot]; rw [Int.add_mul]
      have e : sumTo (fun v => (ind x.t v - ind x.f v) * p v) n = p x.t - p x.f := by
        rw [sumTo_congr (g := fun v => ind x.t v * p v - ind x.f v * p v) (fun v _ => by rw [Int.sub_mul]), sumTo_sub, ind_sum h3, ind_sum h2]
      rw [this, sumTo_add, sumTo_mulr, e]
theorem net_sum {n : Nat} {es : List Arc} {ts : List Int} (h : ∀ x ∈ es, x.f < n ∧ x.t < n) : sumTo (net es ts) n = 0 := by
  have := dot_dual (n := n) (fun _ => 1) (ts := ts) h
  rw [dot_congr (h := fun _ => 0) (fun _ _ => by omega)] at this
  have h0 : ∀ (es : List Arc) (ts : List Int), dot es ts (fun _ => 0) = 0 := by
    intro es
    induction es with
    | nil => intro ts; simp [dot]
    | cons x es ih => intro ts; cases ts <;> simp [dot, ih]
  rw [h0] at this
  rw [this]
  exact sumTo_congr fun v _ => by simp
theorem net_set {es : List Arc} {ts : List Int} {i : Nat} {x : Arc} (h : es[i]? = some x) (hi : i < ts.length) (z : Int) (v : Nat) : net es (ts.set i z) v = net es ts v + (z - gi ts i) * (ind x.t v - ind x.f v) := dot_set h hi z
theorem dot_le {g h : Arc → Int} : ∀ {es : List Arc} {ts : List Int}, (∀ i x, es[i]? = some x → i < ts.length → gi ts i * g x ≤ gi ts i * h x) → dot es ts g ≤ dot es ts h := by
  intro es
  induction es with
  | nil => intro ts _; simp [dot]
  | cons x es ih =>
    intro ts hh
    cases ts with
    | nil => simp [dot]
    | cons z ts =>
      have h1 := ih (ts := ts) fun i y hy hi => by have := hh (i + 1) y hy (by simpa using hi); simpa [gi] using this
      have h2 := hh 0 x rfl (by simp)
      simp only [dot]
      simp only [gi, List.getD_cons_zero] at h2
      omega
theorem dot_eq {g h : Arc → Int} {es : List Arc} {ts : List Int} (hh : ∀ i x, es[i]? = some x → i < ts.length → gi ts i * g x = gi ts i * h x) : dot es ts g = dot es ts h :=
  Int.le_antisymm (dot_le fun i x a b => by rw [hh i x a b]; exact Int.le_refl _) (dot_le fun i x a b => by rw [hh i x a b]; exact Int.le_refl _)
def Arc.back (x : Arc) : Arc := ⟨x.t, x.f, -x.c, x.l⟩
def item (x : Arc) (z : Int) : List Arc := x :: if 0 < z then [x.back] else []
def resid : List Arc → List Int → List Arc
  | x :: es, z :: ts => item x z ++ resid es ts
  | _, _ => []
theorem mem_resid {y : Arc} : ∀ {es : List Arc} {ts : List Int}, es.length = ts.length → (y ∈ resid es ts ↔ ∃ (i : Nat) (x : Arc), es[i]? = some x ∧ (y = x ∨ (0 < gi ts i ∧ y = x.back))) := by
  intro es
  induction es with
  | nil => intro ts _; cases ts <;> simp [resid]
  | cons x es ih =>
    intro ts h
    cases ts with
    | nil => simp at h
    | cons z ts =>
      simp only [resid, List.mem_append, ih (by simpa using h)]
      constructor
      · rintro (h1 | ⟨i, x', h1, h2⟩)
        · simp only [item, List.mem_cons] at h1
          rcases h1 with h1 | h1
          · exact ⟨0, x, rfl, .inl h1⟩
          · split at h1
            · rename_i hz; exact ⟨0, x, rfl, .inr ⟨hz, by simpa using h1⟩⟩
            · simp at h1
        · exact ⟨i + 1, x', h1, h2⟩
      · rintro ⟨i, x', h1, h2⟩
        cases i with
        | zero =>
          simp only [List.getElem?_cons_zero, Option.some.injEq] at h1
          subst h1
          rcases h2 with h2 | ⟨h2, h3⟩
          · exact .inl (by simp [item, h2])
          · have h2 : 0 < z := h2
            exact .inl (by simp [item, h2, h3])
        | succ i => exact .inr ⟨i, x', h1, h2⟩
def preN (es : List Arc) (ts : List Int) (k : Nat) : Nat := (resid (es.take k) (ts.take k)).length
theorem resid_at : ∀ {es : List Arc} {ts : List Int} {k : Nat} {x : Arc}, es[k]? = some x → k < ts.length → resid es ts = resid (es.take k) (ts.take k) ++ (item x (gi ts k) ++ resid (es.drop (k + 1)) (ts.drop (k + 1))) ∧ resid (es.take (k + 1)) (ts.take (k + 1)) = resid (es.take k) (ts.take k) ++ item x (gi ts k) := by
  intro es
  induction es with
  | nil => intro ts k x h; simp at h
  | cons y es ih =>
    intro ts k x h hk
    cases ts with
    | nil => simp at hk
    | cons z ts =>
      cases k with
      | zero =>
        simp only [List.getElem?_cons_zero, Option.some.injEq] at h
        subst h
        simp [resid, gi]
      | succ k =>
        simp only [List.getElem?_cons_succ] at h
        obtain ⟨h1, h2⟩ := ih h (by simpa using hk)
        have e : gi (z :: ts) (k + 1) = gi ts k := rfl
        constructor
        · simp only [resid, List.take_succ_cons, List.drop_succ_cons, e]
          rw [h1, List.append_assoc]
        · simp only [resid, List.take_succ_cons, e] at h2 ⊢
          rw [h2, List.append_assoc]
theorem resid_get {es : List Arc} {ts : List Int} {k : Nat} {x : Arc} (h : es[k]? = some x) (hk : k < ts.length) : (resid es ts)[preN es ts k]? = some x ∧ (0 < gi ts k → (resid es ts)[preN es ts k + 1]? = some x.back ∧ preN es ts (k + 1) = preN es ts k + 2) ∧ (¬ 0 < gi ts k → preN es ts (k + 1) = preN es ts k + 1) := by
  obtain ⟨h1, h2⟩ := resid_at h hk
  unfold preN
  rw [h1, h2]
  refine ⟨?_, fun hz => ⟨?_, ?_⟩, fun hz => ?_⟩
  · rw [List.getElem?_append_right (Nat.le_refl _)]; simp [item]
  · rw [List.getElem?_append_right (by omega)]; simp [item, hz]
  · simp [item, hz]
  · simp [item, hz]
theorem preN_end {es : List Arc} {ts : List Int} (h : es.length = ts.length) : preN es ts es.length = (resid es ts).length := by
  unfold preN
  rw [List.take_length, h, List.take_length]
theorem preN_zero (es : List Arc) (ts : List Int) : preN es ts 0 = 0 := by simp [preN, resid]
theorem slack {es : List Arc} {ts : List Int} {p : Nat → Int} (hl : es.length = ts.length) (hn : ∀ i, i < ts.length → 0 ≤ gi ts i) (h : Feas (resid es ts) p) : dot es ts (·.c) = dot es ts (fun x => p x.t - p x.f) := by
  refine dot_eq fun i x hx hi => ?_
  have h1 := h x ((mem_resid hl).2 ⟨i, x, hx, .inl rfl⟩)
  by_cases h0 : gi ts i = 0
  · rw [h0]; simp
  · have h2 := h x.back ((mem_resid hl).2 ⟨i, x, hx, .inr ⟨by have := hn i hi; omega, rfl⟩⟩)
    simp only [Arc.back] at h2
    congr 1
    omega
theorem weak {es : List Arc} {ts : List Int} {p : Nat → Int} {n : Nat} (hin : ∀ x ∈ es, x.f < n ∧ x.t < n) (hn : ∀ i, i < ts.length → 0 ≤ gi ts i) (h : Feas es p) : sumTo (fun v => net es ts v * p v) n ≤ dot es ts (·.c) := by
  rw [← dot_dual p hin]
  refine dot_le fun i x hx hi => ?_
  have := h x (List.mem_of_getElem? hx)
  exact Int.mul_le_mul_of_nonneg_left (by omega) (hn i hi)
theorem cut_le {es : List Arc} {ts : List Int} {n : Nat} {R : Nat → Prop} (hin : ∀ x ∈ es, x.f < n ∧ x.t < n) (hn : ∀ i, i < ts.length → 0 ≤ gi ts i) (hR : ∀ x ∈ es, R x.f → R x.t) (q : Nat → Int) (hq : ∀ v, (R v → q v = 0) ∧ (¬ R v → q v = 1)) :
    sumTo (fun v => net es ts v * q v) n ≤ 0 := by
  rw [← dot_dual q hin]
  have : dot es ts (fun x => q x.t - q x.f) ≤ dot es ts (fun _ => 0) := by
    refine dot_le fun i x hx hi => ?_
    have h1 := hR x (List.mem_of_getElem? hx)
    refine Int.mul_le_mul_of_nonneg_left ?_ (hn i hi)
    by_cases hf : R x.f
    · rw [(hq x.f).1 hf, (hq x.t).1 (h1 hf)]; omega
    · rw [(hq x.f).2 hf]
      by_cases ht : R x.t
      · rw [(hq x.t).1 ht]; omega
      · rw [(hq x.t).2 ht]; omega
  refine Int.le_trans this ?_
  have h0 : ∀ (es : List Arc) (ts : List Int), dot es ts (fun _ => 0) = 0 := by
    intro es
    induction es with
    | nil => intro ts; simp [dot]
    | cons x es ih => intro ts; cases ts <;> simp [dot, ih]
  rw [h0]; exact Int.le_refl _
inductive Chain : List Arc → Nat → Nat → Prop
  | nil {v : Nat} : Chain [] v v
  | cons {x : Arc} {p : List Arc} {v : Nat} (h : Chain p x.t v) : Chain (x :: p) x.f v
theorem Chain.append {p q : List Arc} {u v w : Nat} (h : Chain p u v) (g : Chain q v w) : Chain (p ++ q) u w := by
  induction h with
  | nil => exact g
  | cons _ ih => exact .cons (ih g)
theorem Chain.snoc {p : List Arc} {x : Arc} {u : Nat} (h : Chain p u x.f) : Chain (p ++ [x]) u x.t := h.append (.cons .nil)
theorem trail_succ {b : List Arc} : ∀ {k : Nat} {v w : Nat} {c : Int}, Back b v k c w → trail b v (k + 1) = trail b v k ++ [ga b w] := by
  intro k
  induction k with
  | zero => intro v w c h; cases h; rfl
  | succ k ih =>
    intro v w c h
    cases h with
    | cons _ t => rw [trail, ih t]; rfl
theorem trail_length (b : List Arc) (v k : Nat) : (trail b v k).length = k := by
  induction k generalizing v with
  | zero => rfl
  | succ k ih => simp [trail, ih]
theorem trail_chain {b : List Arc} {v u : Nat} {k : Nat} {c : Int} {A : Nat → Prop} (hA : ∀ v, A v → 0 ≤ (ga b v).l → (ga b v).t = v ∧ A (ga b v).f) (h : Back b v k c u) (hv : A v) : Chain (trail b v k).reverse u v := by
  induction h with
  | nil => exact .nil
  | @cons v u k c hl t ih =>
    obtain ⟨h1, h2⟩ := hA v hv hl
    simp only [trail, List.reverse_cons]
    have := (ih h2).snoc
    rwa [h1] at this
theorem trail_mem {b : List Arc} {v u : Nat} {k : Nat} {c : Int} {A : Nat → Prop} {B : Arc → Prop} (hA : ∀ v, A v → 0 ≤ (ga b v).l → B (ga b v) ∧ A (ga b v).f) (h : Back b v k c u) (hv : A v) : ∀ x ∈ trail b v k, B x := by
  induction h with
  | nil => intro x hx; cases hx
  | @cons v u k c hl t ih =>
    obtain ⟨h1, h2⟩ := hA v hv hl
    intro x hx
    simp only [trail, List.mem_cons] at hx
    rcases hx with rfl | hx
    · exact h1
    · exact ih h2 x hx
theorem trail_nodup {b : List Arc} {v u : Nat} {k : Nat} {c : Int} {A : Nat → Prop} (hA : ∀ v, A v → 0 ≤ (ga b v).l → (ga b v).t = v ∧ A (ga b v).f) (hu : (ga b u).l < 0) (h : Back b v k c u) (hv : A v) : ((trail b v k).map (·.t)).Nodup := by
  have key : ∀ {v u : Nat} {k : Nat} {c : Int}, Back b v k c u → A v → ∀ x ∈ (trail b v k).map (·.t), ∃ j d, j ≤ k ∧ 0 < j ∧ Back b x j d u := by
    intro v u k c h
    induction h with
    | nil => intro _ x hx; cases hx
    | @cons v u k c hl t ih =>
      intro hv x hx
      obtain ⟨h1, h2⟩ := hA v hv hl
      simp only [trail, List.map_cons, List.mem_cons] at hx
      rcases hx with rfl | hx
      · rw [h1]; exact ⟨k + 1, _, Nat.le_refl _, by omega, .cons hl t⟩
      · obtain ⟨j, d, h3, h4, h5⟩ := ih h2 x hx
        exact ⟨j, d, by omega, h4, h5⟩
  induction h with
  | nil => simp [trail]
  | @cons v u k c hl t ih =>
    obtain ⟨h1, h2⟩ := hA v hv hl
    simp only [trail, List.map_cons, List.nodup_cons]
    refine ⟨fun hx => ?_, ih hu h2⟩
    obtain ⟨j, d, h3, h4, h5⟩ := key t h2 _ hx
    rw [h1] at h5
    have := h5.uniq hu (.cons hl t)
    omega
end Go.MW

namespace Go.MW
def fwd (es : List Arc) (x : Arc) : Prop := (ga es x.l.toNat).f = x.f
instance (es : List Arc) (x : Arc) : Decidable (fwd es x) := by unfold fwd; infer_instance
def push (es : List Arc) (m : Int) (ts : List Int) (x : Arc) : List Int :=
  if fwd es x then ts.set x.l.toNat (gi ts x.l.toNat + m) else ts.set x.l.toNat (gi ts x.l.toNat - m)
def pushes (es : List Arc) (m : Int) (ts : List Int) (p : List Arc) : List Int := p.foldl (push es m) ts
def least (es : List Arc) (ts : List Int) (n : Int) (p : List Arc) : Int := p.foldl (fun n x => if fwd es x then n else min n (gi ts x.l.toNat)) n
def Numb (es : List Arc) : Prop := ∀ (i : Nat) (x : Arc), es[i]? = some x → x.l = i ∧ x.f ≠ x.t
theorem Numb.ga {es : List Arc} (h : Numb es) {i : Nat} {x : Arc} (hx : es[i]? = some x) : x.l.toNat = i ∧ ga es i = x := by
  refine ⟨by rw [(h i x hx).1]; rfl, ?_⟩
  simp [MW.ga, hx]
theorem push_length (es : List Arc) (m : Int) (ts : List Int) (x : Arc) : (push es m ts x).length = ts.length := by unfold push; split <;> simp
theorem pushes_length (es : List Arc) (m : Int) (p : List Arc) : ∀ ts : List Int, (pushes es m ts p).length = ts.length := by
  induction p with
  | nil => intro ts; rfl
  | cons x p ih => intro ts; simp only [pushes, List.foldl_cons] at ih ⊢; rw [ih, push_length]
def OfEs (es : List Arc) (x : Arc) : Prop := ∃ (i : Nat) (y : Arc), es[i]? = some y ∧ (x = y ∨ x = y.back)
theorem OfEs.fwd {es : List Arc} (h : Numb es) {x : Arc} {i : Nat} {y : Arc} (hy : es[i]? = some y) (hx : x = y ∨ x = y.back) : x.l.toNat = i ∧ (fwd es x ↔ x = y) := by
  obtain ⟨h1, h2⟩ := h.ga hy
  have h3 := (h i y hy).2
  rcases hx with rfl | rfl
  · exact ⟨h1, by simp [MW.fwd, h1, h2]⟩
  · refine ⟨h1, ?_⟩
    simp only [MW.fwd, Arc.back, h1, h2]
    constructor
    · intro e; exact (h3 e).elim
    · intro e; have := congrArg Arc.f e; simp only at this; exact this.symm
theorem push_net {es : List Arc} (h : Numb es) {ts : List Int} (hl : ts.length = es.length) {x : Arc} (hx : OfEs es x) (m : Int) (v : Nat) : net es (push es m ts x) v = net es ts v + m * (ind x.t v - ind x.f v) := by
  obtain ⟨i, y, hy, hxy⟩ := hx
  obtain ⟨h1, h2⟩ := OfEs.fwd h hy hxy
  have hi : i < ts.length := by rw [hl]; exact (List.getElem?_eq_some_iff.1 hy).1
  unfold push
  rw [h1]
  split
  · rename_i hf
    obtain rfl := h2.1 hf
    rw [net_set hy hi]
    congr 2; omega
  · rename_i hf
    have hb : x = y.back := hxy.resolve_left fun e => hf (h2.2 e)
    subst hb
    rw [net_set hy hi]
    congr 1
    simp only [Arc.back]
    have e1 : gi ts i - m - gi ts i = -m := by omega
    rw [e1, Int.neg_mul, ← Int.mul_neg, Int.neg_sub]
theorem pushes_net {es : List Arc} (h : Numb es) {p : List Arc} {u v : Nat} (hp : Chain p u v) : ∀ {ts : List Int}, ts.length = es.length → (∀ x ∈ p, OfEs es x) → ∀ (m : Int) (w : Nat), net es (pushes es m ts p) w = net es ts w + m * (ind v w - ind u w) := by
  induction hp with
  | nil => intro ts _ _ m w; simp [pushes]
  | @cons x p v hc ih =>
    intro ts hl hx m w
    have h1 := ih (ts := push es m ts x) (by rw [push_length, hl]) (fun y hy => hx y (.tail _ hy)) m w
    simp only [pushes, List.foldl_cons] at h1 ⊢
    rw [h1, push_net h hl (hx x (.head _))]
    rw [Int.add_assoc, ← Int.mul_add]
    congr 2; omega
def cntF (es : List Arc) (i : Nat) (p : List Arc) : Nat := p.countP fun x => decide (x.l.toNat = i ∧ fwd es x)
def cntB (es : List Arc) (i : Nat) (p : List Arc) : Nat := p.countP fun x => decide (x.l.toNat = i ∧ ¬ fwd es x)
theorem push_get {es : List Arc} {ts : List Int} {x : Arc} (hx : x.l.toNat < ts.length) (m : Int) (i : Nat) : gi (push es m ts x) i = gi ts i + (if x.l.toNat = i ∧ fwd es x then m else 0) - (if x.l.toNat = i ∧ ¬ fwd es x then m else 0) := by
  unfold push
  by_cases hf : fwd es x
  · rw [if_pos hf, gi_set hx]
    by_cases e : i = x.l.toNat
    · subst e; simp [hf]
    · simp [e, Ne.symm e]
  · rw [if_neg hf, gi_set hx]
    by_cases e : i = x.l.toNat
    · subst e; simp [hf]
    · simp [e, Ne.symm e]
theorem pushes_get {es : List Arc} {p : List Arc} : ∀ {ts : List Int}, (∀ x ∈ p, x.l.toNat < ts.length) → ∀ (m : Int) (i : Nat), gi (pushes es m ts p) i = gi ts i + m * cntF es i p - m * cntB es i p := by
  induction p with
  | nil => intro ts _ m i; simp [pushes, cntF, MW.cntB]
  | cons x p ih =>
    intro ts hx m i
    have h1 := ih (ts := push es m ts x) (fun y hy => by rw [push_length]; exact hx y (.tail _ hy)) m i
    simp only [pushes, List.foldl_cons] at h1 ⊢
    rw [h1, push_get (hx x (.head _))]
    simp only [cntF, MW.cntB, List.countP_cons, decide_eq_true_eq]
    by_cases e : x.l.toNat = i
    · by_cases hf : fwd es x
      · simp only [e, hf, and_self, if_true, not_true, and_false, if_false, Int.natCast_add, Int.mul_add, Nat.add_zero]; simp; omega
      · simp only [e, hf, and_false, if_false, not_false_iff, and_self, if_true, Int.natCast_add, Int.mul_add, Nat.add_zero]; simp; omega
    · simp only [e, false_and, if_false, Nat.add_zero]; omega
theorem countP_le_one {α : Type} {P : α → Bool} {g : α → Nat} {c : Nat} : ∀ {p : List α}, (p.map g).Nodup → (∀ x ∈ p, P x = true → g x = c) → p.countP P ≤ 1 := by
  intro p
  induction p with
  | nil => intro _ _; simp
  | cons x p ih =>
    intro h1 h2
    simp only [List.map_cons, List.nodup_cons] at h1
    rw [List.countP_cons]
    by_cases hx : P x = true
    · have h0 : p.countP P = 0 := by
        rw [List.countP_eq_zero]
        intro y hy hpy
        refine h1.1 ?_
        rw [h2 x (.head _) hx, ← h2 y (.tail _ hy) hpy]
        exact List.mem_map_of_mem hy
      rw [if_pos hx, h0]; omega
    · rw [if_neg hx]
      have := ih h1.2 fun y hy => h2 y (.tail _ hy)
      omega
theorem least_le {es : List Arc} {ts : List Int} {p : List Arc} : ∀ {n : Int}, least es ts n p ≤ n ∧ (∀ x ∈ p, ¬ fwd es x → least es ts n p ≤ gi ts x.l.toNat) := by
  induction p with
  | nil => intro n; exact ⟨Int.le_refl _, fun x hx => by cases hx⟩
  | cons x p ih =>
    intro n
    obtain ⟨h1, h2⟩ := ih (n := if fwd es x then n else min n (gi ts x.l.toNat))
    simp only [least, List.foldl_cons] at h1 h2 ⊢
    refine ⟨?_, fun y hy hf => ?_⟩
    · by_cases hf : fwd es x
      · rw [if_pos hf] at h1 ⊢; exact h1
      · rw [if_neg hf] at h1 ⊢; omega
    · cases hy with
      | head => rw [if_neg hf] at h1 ⊢; omega
      | tail _ hy => exact h2 y hy hf
theorem least_pos {es : List Arc} {ts : List Int} {p : List Arc} : ∀ {n : Int}, 0 < n → (∀ x ∈ p, ¬ fwd es x → 0 < gi ts x.l.toNat) → 0 < least es ts n p := by
  induction p with
  | nil => intro n h _; exact h
  | cons x p ih =>
    intro n hn h
    simp only [least, List.foldl_cons]
    refine ih ?_ fun y hy => h y (.tail _ hy)
    split
    · exact hn
    · rename_i hf
      have := h x (.head _) hf
      omega
def rem (n : Nat) (lf : List Int) : Int := sumTo (fun v => max (gi lf v) 0) n
abbrev FF : Int := 3600000000000
structure FInv (n : Nat) (es : List Arc) (wt : Nat → Int) (ts lf : List Int) : Prop where
  lt : ts.length = es.length
  ll : lf.length = n
  nn : ∀ i < es.length, 0 ≤ gi ts i
  cons : ∀ v < n, net es ts v = wt v - gi lf v
  fe : ∃ p, Feas (resid es ts) p
  tb : ∀ i < es.length, gi ts i + rem n lf ≤ FF
  sg : ∀ v < n, gi lf v ≤ FF ∧ -FF ≤ gi lf v
  tot : dot es ts (fun _ => 1) + 64 * rem n lf ≤ 64 * FF
structure WayP (es : List Arc) (ts lf : List Int) (n : Nat) (p : List Arc) (u v : Nat) : Prop where
  ch : Chain p u v
  mem : ∀ x ∈ p, x ∈ resid es ts
  nd : (p.map (·.t)).Nodup
  un : u < n
  vn : v < n
  lu : gi lf u < 0
  lv : 0 < gi lf v
  tight : ∃ q, Feas (resid es ts) q ∧ ∀ x ∈ p, q x.t = q x.f + x.c
def much (es : List Arc) (ts lf : List Int) (p : List Arc) (u v : Nat) : Int := least es ts (min (-gi lf u) (gi lf v)) p
def lfTo (lf : List Int) (m : Int) (u v : Nat) : List Int := (lf.set u (gi lf u + m)).set v (gi (lf.set u (gi lf u + m)) v - m)
variable {n : Nat} {es : List Arc} {wt : Nat → Int} {ts lf : List Int} {p : List Arc} {u v : Nat}
theorem of_resid (hl : es.length = ts.length) (hN : Numb es) {x : Arc} (hx : x ∈ resid es ts) : OfEs es x ∧ x.l.toNat < ts.length ∧ (¬ fwd es x → 0 < gi ts x.l.toNat) := by
  obtain ⟨i, y, h1, h2⟩ := (mem_resid hl).1 hx
  obtain ⟨h3, h4⟩ := OfEs.fwd hN h1 (h2.imp id (·.2))
  refine ⟨⟨i, y, h1, h2.imp id (·.2)⟩, by rw [h3, ← hl]; exact (List.getElem?_eq_some_iff.1 h1).1, fun hf => ?_⟩
  rw [h3]
  exact (h2.resolve_left fun e => hf (h4.2 e)).1
theorem much_pos (hl : es.length = ts.length) (hN : Numb es) (hw : WayP es ts lf n p u v) : 0 < much es ts lf p u v ∧ much es ts lf p u v ≤ -gi lf u ∧ much es ts lf p u v ≤ gi lf v ∧ ∀ x ∈ p, ¬ fwd es x → much es ts lf p u v ≤ gi ts x.l.toNat := by
  have h1 := hw.lu
  have h2 := hw.lv
  have h3 := least_pos (es := es) (ts := ts) (p := p) (n := min (-gi lf u) (gi lf v)) (by omega) fun x hx => (of_resid hl hN (hw.mem x hx)).2.2
  obtain ⟨h4, h5⟩ := least_le (es := es) (ts := ts) (p := p) (n := min (-gi lf u) (gi lf v))
  unfold much
  exact ⟨h3, by omega, by omega, h5⟩
theorem once (hl : es.length = ts.length) (hN : Numb es) (hw : WayP es ts lf n p u v) (i : Nat) : cntF es i p ≤ 1 ∧ cntB es i p ≤ 1 ∧ (0 < cntB es i p → much es ts lf p u v ≤ gi ts i) ∧ (0 < cntF es i p → ∃ x ∈ p, x.l.toNat = i ∧ fwd es x) := by
  have hof : ∀ x ∈ p, x.l.toNat = i → ∃ y, es[i]? = some y ∧ (x = y ∨ x = y.back) ∧ (fwd es x ↔ x = y) := fun x hx hi => by
    obtain ⟨j, y, h1, h2⟩ := (of_resid hl hN (hw.mem x hx)).1
    obtain ⟨h3, h4⟩ := OfEs.fwd hN h1 h2
    obtain rfl : j = i := h3.symm.trans hi
    exact ⟨y, h1, h2, h4⟩
  refine ⟨?_, ?_, fun h => ?_, fun h => ?_⟩
  · refine countP_le_one (c := (ga es i).t) hw.nd fun x hx hp => ?_
    simp only [decide_eq_true_eq] at hp
    obtain ⟨y, h1, h2, h3⟩ := hof x hx hp.1
    rw [(hN.ga h1).2, h3.1 hp.2]
  · refine countP_le_one (c := (ga es i).f) hw.nd fun x hx hp => ?_
    simp only [decide_eq_true_eq] at hp
    obtain ⟨y, h1, h2, h3⟩ := hof x hx hp.1
    rw [(hN.ga h1).2, h2.resolve_left fun e => hp.2 (h3.2 e)]
    rfl
  · obtain ⟨x, hx, hp⟩ := List.countP_pos_iff.1 h
    simp only [decide_eq_true_eq] at hp
    have := (much_pos hl hN hw).2.2.2 x hx hp.2
    rwa [hp.1] at this
  · obtain ⟨x, hx, hp⟩ := List.countP_pos_iff.1 h
    simp only [decide_eq_true_eq] at hp
    exact ⟨x, hx, hp⟩
theorem lfTo_get (hu : u < lf.length) (hv : v < lf.length) (huv : u ≠ v) (m : Int) (x : Nat) : gi (lfTo lf m u v) x = gi lf x + m * (ind u x - ind v x) := by
  unfold lfTo
  rw [gi_set (by simpa using hv), gi_set hu, gi_set hu]
  unfold ind
  by_cases e1 : x = v
  · subst e1
    rw [if_pos rfl, if_neg (Ne.symm huv), if_neg huv, if_pos rfl]
    omega
  · rw [if_neg e1, if_neg (Ne.symm e1)]
    by_cases e2 : x = u
    · subst e2; simp
    · rw [if_neg e2, if_neg (Ne.symm e2)]; simp
theorem pushes_tot {es : List Arc} (h : Numb es) {m : Int} (hm : 0 ≤ m) : ∀ {p : List Arc} {ts : List Int}, ts.length = es.length → (∀ x ∈ p, OfEs es x) → dot es (pushes es m ts p) (fun _ => 1) ≤ dot es ts (fun _ => 1) + m * p.length := by
  intro p
  induction p with
  | nil => intro ts _ _; simp [pushes]
  | cons x p ih =>
    intro ts hl hx
    have h1 := ih (ts := push es m ts x) (by rw [push_length, hl]) (fun y hy => hx y (.tail _ hy))
    simp only [pushes, List.foldl_cons] at h1 ⊢
    have h2 : dot es (push es m ts x) (fun _ => 1) ≤ dot es ts (fun _ => 1) + m := by
      obtain ⟨i, y, hy, hxy⟩ := hx x (.head _)
      obtain ⟨h3, _⟩ := OfEs.fwd h hy hxy
      have hi : i < ts.length := by rw [hl]; exact (List.getElem?_eq_some_iff.1 hy).1
      unfold push
      rw [h3]
      split <;> rw [dot_set hy hi] <;> omega
    rw [List.length_cons, Int.natCast_succ, Int.mul_add, Int.mul_one]
    omega
theorem FInv.send (h : FInv n es wt ts lf) (hN : Numb es) (hw : WayP es ts lf n p u v) (hpl : p.length ≤ 64) : FInv n es wt (pushes es (much es ts lf p u v) ts p) (lfTo lf (much es ts lf p u v) u v) ∧ rem n (lfTo lf (much es ts lf p u v) u v) < rem n lf := by
  have hl := h.lt.symm
  obtain ⟨m0, m1, m2, m3⟩ := much_pos hl hN hw
  have huv : u ≠ v := fun e => by have := hw.lu; have := hw.lv; rw [e] at *; omega
  have hon := fun i => once hl hN hw i
  generalize much es ts lf p u v = m at *
  have hget := lfTo_get (lf := lf) (by rw [h.ll]; exact hw.un) (by rw [h.ll]; exact hw.vn) huv m
  have iu : ∀ x, ind u x = if x = u then 1 else 0 := fun x => by unfold ind; by_cases e : u = x <;> simp [e, Ne.symm]
  have iv : ∀ x, ind v x = if x = v then 1 else 0 := fun x => by unfold ind; by_cases e : v = x <;> simp [e, Ne.symm]
  have hgu : gi (lfTo lf m u v) u = gi lf u + m := by rw [hget, iu, iv, if_pos rfl, if_neg huv]; omega
  have hgv : gi (lfTo lf m u v) v = gi lf v - m := by rw [hget, iu, iv, if_pos rfl, if_neg (Ne.symm huv)]; omega
  have hgo : ∀ x, x ≠ u → x ≠ v → gi (lfTo lf m u v) x = gi lf x := fun x h1 h2 => by rw [hget, iu, iv, if_neg h1, if_neg h2]; omega
  have hrem : rem n (lfTo lf m u v) = rem n lf - m := by
    unfold rem
    have h1 : sumTo (fun x => max (gi (lfTo lf m u v) x) 0 - max (gi lf x) 0) n = -m := by
      rw [sumTo_one hw.vn]
      · have := hw.lv
        rw [hgv]; omega
      · intro x hx hxv
        by_cases e : x = u
        · subst e
          have := hw.lu
          rw [hgu]; omega
        · rw [hgo x e hxv]; omega
    rw [sumTo_sub] at h1
    omega
  have hpg := fun i => pushes_get (es := es) (p := p) (ts := ts) (fun x hx => (of_resid hl hN (hw.mem x hx)).2.1) m i
  have hmul : ∀ {c : Nat}, c ≤ 1 → (c = 0 ∧ m * (c : Int) = 0) ∨ (c = 1 ∧ m * (c : Int) = m) := fun {c} hc => by
    have : c = 0 ∨ c = 1 := by omega
    rcases this with e | e <;> subst e <;> simp
  refine ⟨⟨by rw [pushes_length, h.lt], by simp [lfTo, h.ll], fun i hi => ?_, fun x hx => ?_, ?_, fun i hi => ?_, fun x hx => ?_, ?_⟩, by omega⟩
  · obtain ⟨o1, o2, o3, _⟩ := hon i
    rw [hpg]
    have := h.nn i hi
    rcases hmul o1 with ⟨_, e1⟩ | ⟨_, e1⟩ <;> rcases hmul o2 with ⟨_, e2⟩ | ⟨c2, e2⟩ <;> rw [e1, e2]
    · omega
    · have := o3 (by omega); omega
    · omega
    · omega
  · rw [pushes_net hN hw.ch h.lt (fun y hy => (of_resid hl hN (hw.mem y hy)).1), h.cons x hx, hget]
    rw [Int.mul_sub, Int.mul_sub]; omega
  · obtain ⟨q, q1, q2⟩ := hw.tight
    refine ⟨q, fun y hy => ?_⟩
    obtain ⟨i, x, h1, h2⟩ := (mem_resid (by rw [pushes_length]; exact hl)).1 hy
    have hin : x ∈ resid es ts := (mem_resid hl).2 ⟨i, x, h1, .inl rfl⟩
    rcases h2 with rfl | ⟨h2, rfl⟩
    · exact q1 y hin
    · by_cases h0 : 0 < gi ts i
      · exact q1 _ ((mem_resid hl).2 ⟨i, x, h1, .inr ⟨h0, rfl⟩⟩)
      · obtain ⟨o1, o2, o3, o4⟩ := hon i
        have hi : i < es.length := (List.getElem?_eq_some_iff.1 h1).1
        have hnn := h.nn i hi
        rw [hpg] at h2
        have hF : 0 < cntF es i p := by
          rcases hmul o1 with ⟨_, e1⟩ | ⟨c1, e1⟩
          · rcases hmul o2 with ⟨_, e2⟩ | ⟨_, e2⟩ <;> rw [e1, e2] at h2 <;> omega
          · omega
        obtain ⟨z, z1, z2, z3⟩ := o4 hF
        obtain ⟨j, y, y1, y2⟩ := (of_resid hl hN (hw.mem z z1)).1
        obtain ⟨y3, y4⟩ := OfEs.fwd hN y1 y2
        obtain rfl : j = i := y3.symm.trans z2
        rw [h1] at y1
        cases y1
        obtain rfl := y4.1 z3
        have := q2 z z1
        simp only [Arc.back]; omega
  · obtain ⟨o1, o2, _⟩ := hon i
    rw [hpg, hrem]
    have := h.tb i hi
    rcases hmul o1 with ⟨_, e1⟩ | ⟨_, e1⟩ <;> rcases hmul o2 with ⟨_, e2⟩ | ⟨_, e2⟩ <;> rw [e1, e2] <;> omega
  · have h1 := h.sg x hx
    have := hw.lu
    have := hw.lv
    by_cases e : x = u
    · subst e; rw [hgu]; simp only [FF] at *; omega
    · by_cases e2 : x = v
      · subst e2; rw [hgv]; simp only [FF] at *; omega
      · rw [hgo x e e2]; exact h1
  · have h1 := pushes_tot hN (m := m) (by omega) (p := p) h.lt (fun y hy => (of_resid hl hN (hw.mem y hy)).1)
    have h2 := h.tot
    have h3 : m * (p.length : Int) ≤ m * 64 := Int.mul_le_mul_of_nonneg_left (by omega) (by omega)
    rw [hrem]
    omega
end Go.MW

namespace Go.MW
def OptS (es : List Arc) (wt : Nat → Int) (n : Nat) (m : Int) : Prop :=
  (∃ p, Feas es p ∧ sumTo (fun v => wt v * p v) n = m) ∧ ∀ p, Feas es p → sumTo (fun v => wt v * p v) n ≤ m
def OpenS (es : List Arc) (wt : Nat → Int) (n : Nat) : Prop :=
  ∃ q : Nat → Int, (∀ v, q v = 0 ∨ q v = 1) ∧ (∀ x ∈ es, q x.f = 0 → q x.t = 0) ∧ 0 < sumTo (fun v => wt v * q v) n
theorem OptS.uniq {es : List Arc} {wt : Nat → Int} {n : Nat} {a b : Int} (h : OptS es wt n a) (g : OptS es wt n b) : a = b := by
  obtain ⟨⟨p, p1, p2⟩, h2⟩ := h
  obtain ⟨⟨q, q1, q2⟩, g2⟩ := g
  have := h2 q q1
  have := g2 p p1
  omega
variable {n : Nat} {es : List Arc} {wt : Nat → Int} {ts lf : List Int}
theorem resid_feas (hl : es.length = ts.length) {p : Nat → Int} (h : Feas (resid es ts) p) : Feas es p := fun x hx => by
  obtain ⟨i, hi⟩ := List.getElem?_of_mem hx
  exact h x ((mem_resid hl).2 ⟨i, x, hi, .inl rfl⟩)
def FullS (n : Nat) (es : List Arc) (wt : Nat → Int) (ts : List Int) : Prop := ∀ v < n, net es ts v = wt v
theorem full_opt (hin : ∀ x ∈ es, x.f < n ∧ x.t < n) (hl : ts.length = es.length) (hn : ∀ i < es.length, 0 ≤ gi ts i) (hf : FullS n es wt ts) {p : Nat → Int} (hp : Feas (resid es ts) p) :
    OptS es wt n (dot es ts (·.c)) ∧ sumTo (fun v => wt v * p v) n = dot es ts (·.c) ∧ ¬ OpenS es wt n := by
  have hn' : ∀ i, i < ts.length → 0 ≤ gi ts i := fun i hi => hn i (by omega)
  have h1 : ∀ p : Nat → Int, sumTo (fun v => wt v * p v) n = sumTo (fun v => net es ts v * p v) n := fun p => sumTo_congr fun v hv => by rw [hf v hv]
  have h2 : sumTo (fun v => wt v * p v) n = dot es ts (·.c) := by rw [h1, slack hl.symm hn' hp, dot_dual p hin]
  refine ⟨⟨⟨p, resid_feas hl.symm hp, h2⟩, fun q hq => by rw [h1]; exact weak hin hn' hq⟩, h2, fun ⟨q, q1, q2, q3⟩ => ?_⟩
  rw [h1] at q3
  have := cut_le (R := fun v => q v = 0) hin hn' q2 q fun v => ⟨id, fun h => (q1 v).resolve_left h⟩
  omega
theorem net_total (hin : ∀ x ∈ es, x.f < n ∧ x.t < n) (h : FInv n es wt ts lf) (h0 : sumTo wt n = 0) : sumTo (gi lf) n = 0 := by
  have h1 := net_sum (ts := ts) hin
  rw [sumTo_congr (g := fun v => wt v - gi lf v) h.cons, sumTo_sub, h0] at h1
  omega
theorem FInv.full (h : FInv n es wt ts lf) (hin : ∀ x ∈ es, x.f < n ∧ x.t < n) (h0 : sumTo wt n = 0) (hle : ∀ v < n, gi lf v ≤ 0) : FullS n es wt ts := fun v hv => by
  have h1 := net_total hin h h0
  have h2 : gi lf v = 0 := by
    refine Classical.byContradiction fun hne => ?_
    have h3 := hle v hv
    have := sumTo_lt (f := gi lf) (g := fun _ => 0) (n := n) hle hv (by omega)
    rw [sumTo_zero] at this
    omega
  rw [h.cons v hv, h2]; omega
theorem FInv.open (h : FInv n es wt ts lf) (hin : ∀ x ∈ es, x.f < n ∧ x.t < n) {R : Nat → Prop} (hS : ∀ v < n, gi lf v < 0 → R v) (hR : ∀ x ∈ resid es ts, R x.f → R x.t) {to : Nat} (ht : to < n) (hto : ¬ R to) (hlt : 0 < gi lf to) : OpenS es wt n := by
  open Classical in
  refine ⟨fun v => if R v then 0 else 1, fun v => ?_, fun x hx hq => ?_, ?_⟩
  · by_cases e : R v <;> simp [e]
  · obtain ⟨i, hi⟩ := List.getElem?_of_mem hx
    have := hR x ((mem_resid h.lt.symm).2 ⟨i, x, hi, .inl rfl⟩)
    by_cases e : R x.f
    · simp [this e]
    · simp [e] at hq
  · have hq : ∀ v, (fun v => if R v then (0 : Int) else 1) v = if R v then 0 else 1 := fun _ => rfl
    generalize (fun v => if R v then (0 : Int) else 1) = q at *
    have h1 : sumTo (fun v => wt v * q v) n = sumTo (fun v => net es ts v * q v) n + sumTo (fun v => gi lf v * q v) n := by
      rw [← sumTo_add]
      refine sumTo_congr fun v hv => ?_
      rw [h.cons v hv, Int.sub_mul]; omega
    have h2 : 0 = sumTo (fun v => net es ts v * q v) n := by
      rw [← dot_dual q hin]
      have h0 : ∀ (es : List Arc) (ts : List Int), dot es ts (fun _ => 0) = 0 := by
        intro es
        induction es with
        | nil => intro ts; simp [dot]
        | cons x es ih => intro ts; cases ts <;> simp [dot, ih]
      rw [← h0 es ts]
      refine dot_eq fun i x hx hi => ?_
      by_cases hz : gi ts i = 0
      · rw [hz]; simp
      · have hp : 0 < gi ts i := by have := h.nn i (by rw [← h.lt]; exact hi); omega
        have r1 := hR x ((mem_resid h.lt.symm).2 ⟨i, x, hx, .inl rfl⟩)
        have r2 := hR x.back ((mem_resid h.lt.symm).2 ⟨i, x, hx, .inr ⟨hp, rfl⟩⟩)
        have : q x.t = q x.f := by
          rw [hq, hq]
          by_cases e : R x.f
          · simp [e, r1 e]
          · have : ¬ R x.t := fun h => e (r2 h)
            simp [e, this]
        rw [this, Int.sub_self]
    have h3 : 0 < sumTo (fun v => gi lf v * q v) n := by
      have := sumTo_lt (f := fun _ => 0) (g := fun v => gi lf v * q v) (n := n) (fun v hv => by
        rw [hq]
        by_cases e : R v
        · simp [e]
        · have := hS v hv
          have : ¬ gi lf v < 0 := fun h => e (this h)
          simp [e]; omega) ht (by rw [hq]; simp [hto]; exact hlt)
      rw [sumTo_zero] at this
      exact this
    omega
def wtOf (w : List Int) (n : Nat) (v : Nat) : Int := if v = 0 then gi w 0 - sumTo (gi w) n else gi w v
theorem wt_split {n : Nat} (hn : 0 < n) (f : Nat → Int) : sumTo f n = f 0 + sumTo (fun v => if v = 0 then 0 else f v) n := by
  have : sumTo (fun v => f v - if v = 0 then 0 else f v) n = f 0 := by
    rw [sumTo_one hn]
    · simp
    · intro v _ hv; simp [hv]
  rw [sumTo_sub] at this
  omega
theorem wt_sum (w : List Int) {n : Nat} (hn : 0 < n) : sumTo (wtOf w n) n = 0 := by
  rw [wt_split hn (wtOf w n), sumTo_congr (g := fun v => if v = 0 then 0 else gi w v) (fun v _ => by unfold wtOf; split <;> rfl)]
  have := wt_split hn (gi w)
  simp only [wtOf, if_true]; omega
theorem wt_val (w : List Int) {n : Nat} (hn : 0 < n) (p : Nat → Int) : sumTo (fun v => wtOf w n v * p v) n = sumTo (fun v => gi w v * (p v - p 0)) n := by
  have h1 := wt_split hn (fun v => wtOf w n v * p v)
  have h2 := wt_split hn (fun v => gi w v * (p v - p 0))
  simp only [wtOf, if_true, Int.sub_self, Int.mul_zero, Int.zero_add] at h1 h2
  have e1 : sumTo (fun v => if v = 0 then 0 else (if v = 0 then gi w 0 - sumTo (gi w) n else gi w v) * p v) n = sumTo (fun v => if v = 0 then 0 else gi w v * p v) n :=
    sumTo_congr fun v _ => by by_cases e : v = 0 <;> simp [e]
  have e2 : sumTo (fun v => if v = 0 then 0 else gi w v * (p v - p 0)) n = sumTo (fun v => (if v = 0 then 0 else gi w v * p v) - p 0 * (if v = 0 then 0 else gi w v)) n :=
    sumTo_congr fun v _ => by
      by_cases e : v = 0
      · simp [e]
      · simp only [e, if_false]; rw [Int.mul_sub, Int.mul_comm (p 0)]
  rw [sumTo_sub, sumTo_mul] at e2
  have h3 := wt_split hn (gi w)
  rw [e1] at h1
  rw [e2] at h2
  have : wtOf w n = fun v => if v = 0 then gi w 0 - sumTo (gi w) n else gi w v := by funext v; rfl
  rw [h2]
  simp only [wtOf]
  rw [h1]
  have e3 : gi w 0 - sumTo (gi w) n = - sumTo (fun v => if v = 0 then 0 else gi w v) n := by omega
  rw [e3, Int.neg_mul, Int.mul_comm]
  omega
end Go.MW

namespace Go.MW
structure WInit (n : Nat) (lf : List Int) (k : Nat) (s : BS) : Prop where
  lc : s.cost.length = n
  lb : s.by_.length = n
  c : ∀ v < n, gi s.cost v = if v < k ∧ gi lf v < 0 then 0 else far
  b : ∀ v < n, ga s.by_ v = if v < k ∧ gi lf v < 0 then ⟨0, 0, 0, -1⟩ else ⟨0, 0, 0, 0⟩
variable {n : Nat} {es as : List Arc} {wt D : Nat → Int} {ts lf : List Int} {s : BS} {k : Nat}
theorem WInit.start (n : Nat) (lf : List Int) : WInit n lf 0 ⟨List.replicate n far, List.replicate n ⟨0, 0, 0, 0⟩⟩ :=
  ⟨by simp, by simp, fun v hv => by rw [gi_replicate n far hv, if_neg (by omega)], fun v hv => by rw [ga_replicate n _ hv, if_neg (by omega)]⟩
theorem WInit.skip (h : WInit n lf k s) (hk : ¬ gi lf k < 0) : WInit n lf (k + 1) s :=
  ⟨h.lc, h.lb, fun v hv => by
    rw [h.c v hv]
    by_cases e : v = k
    · subst e; rw [if_neg (by omega), if_neg (by omega)]
    · congr 1; apply propext; omega, fun v hv => by
    rw [h.b v hv]
    by_cases e : v = k
    · subst e; rw [if_neg (by omega), if_neg (by omega)]
    · congr 1; apply propext; omega⟩
theorem WInit.take (h : WInit n lf k s) (hkn : k < n) (hk : gi lf k < 0) : WInit n lf (k + 1) ⟨s.cost.set k 0, s.by_.set k ⟨(ga s.by_ k).f, (ga s.by_ k).t, (ga s.by_ k).c, -1⟩⟩ :=
  ⟨by simp [h.lc], by simp [h.lb], fun v hv => by
    rw [gi_set (by rw [h.lc]; exact hkn)]
    by_cases e : v = k
    · subst e; rw [if_pos rfl, if_pos (by omega)]
    · rw [if_neg e, h.c v hv]; congr 1; apply propext; omega, fun v hv => by
    rw [ga_set (by rw [h.lb]; exact hkn)]
    by_cases e : v = k
    · subst e; rw [if_pos rfl, if_pos (by omega), h.b v hv, if_neg (by omega)]
    · rw [if_neg e, h.b v hv]; congr 1; apply propext; omega⟩
theorem WInit.inv (h : WInit n lf n s) (hg : WG n as D) : WInv n as (fun v => gi lf v < 0) D 0 true s where
  lc := h.lc
  lb := h.lb
  lo := fun v hv => by
    have := hg.d0 v
    have : far = 1152921504606846976 := rfl
    rw [h.c v hv]; split <;> omega
  top := fun v hv => by
    have : far = 1152921504606846976 := rfl
    rw [h.c v hv]; split <;> omega
  up := fun v hv hr => by
    rw [h.c v hv] at hr ⊢
    split
    · omega
    · rename_i e; rw [if_neg e] at hr; omega
  src := fun v hv hs => by rw [h.c v hv, if_pos ⟨hv, hs⟩]; omega
  by1 := fun v hv hr => by
    rw [h.c v hv] at hr
    by_cases e : v < n ∧ gi lf v < 0
    · refine .inl ⟨by rw [h.b v hv, if_pos e], e.2, by rw [h.c v hv, if_pos e]⟩
    · rw [if_neg e] at hr; omega
  dep := fun v hv hr => by
    rw [h.c v hv] at hr
    by_cases e : v < n ∧ gi lf v < 0
    · exact ⟨0, 0, v, .nil, by rw [h.b v hv, if_pos e]; simp⟩
    · rw [if_neg e] at hr; omega
  nov := fun e => by cases e
def WayR (n : Nat) (es : List Arc) (ts lf : List Int) (p : List Arc) (to : Nat) : Prop :=
  (p = [] ∧ ∃ R : Nat → Prop, (∀ v < n, gi lf v < 0 → R v) ∧ (∀ x ∈ resid es ts, R x.f → R x.t) ∧ ¬ R to) ∨
  (p ≠ [] ∧ p.length < n ∧ ∃ u, WayP es ts lf n p u to)
theorem resid_WG (hn : 0 < n) (hn1 : n ≤ 65) (ho : ArcsOk es n) (hl : es.length = ts.length) (hf : ∃ p, Feas (resid es ts) p) : ∃ D, WG n (resid es ts) D := by
  obtain ⟨p, hp⟩ := hf
  have hok : ∀ x ∈ resid es ts, x.f < n ∧ x.t < n ∧ -20000 ≤ x.c ∧ x.c ≤ 20000 ∧ 0 ≤ x.l ∧ x.f ≠ x.t := fun x hx => by
    obtain ⟨i, y, h1, h2⟩ := (mem_resid hl).1 hx
    have h3 := ho.2 y (List.mem_of_getElem? h1)
    rcases h2 with rfl | ⟨_, rfl⟩
    · exact h3
    · simp only [Arc.back]; omega
  obtain ⟨D, h1, h2, h3⟩ := hp.bounded (n := n) (C := 20000) hn (by omega) fun x hx => by have := hok x hx; exact ⟨this.1, this.2.1, this.2.2.1⟩
  refine ⟨D, hn, hn1, hok, h1, h2, fun v hv => ?_⟩
  have := h3 v hv
  have h4 : (((n - 1 : Nat) : Int)) ≤ 64 := by omega
  omega
theorem WInv.none (h : WInv n (resid es ts) (fun v => gi lf v < 0) D (resid es ts).length false s) (hg : WG n (resid es ts) D) {to : Nat} (ht : gi s.cost to = far) : WayR n es ts lf [] to :=
  .inl ⟨rfl, fun v => gi s.cost v < far, fun v hv hs => by have := h.src v hv hs; simp only [far]; omega, h.closed hg, by dsimp only; rw [ht]; omega⟩
theorem WInv.back (h : WInv n (resid es ts) (fun v => gi lf v < 0) D (resid es ts).length false s) (hg : WG n (resid es ts) D) {to : Nat} (hto : to < n) (ht : gi s.cost to < far) (hp : 0 < gi lf to) :
    ∃ k c u, Back s.by_ to k c u ∧ (ga s.by_ u).l < 0 ∧ k < n ∧ 0 < k ∧ (∀ v, v < n → gi s.cost v < far → 0 ≤ (ga s.by_ v).l → (ga s.by_ v).f < n ∧ gi s.cost (ga s.by_ v).f < far) ∧ ∀ p, p = (trail s.by_ to k).reverse → WayR n es ts lf p to := by
  have hstep : ∀ v, (v < n ∧ gi s.cost v < far) → 0 ≤ (ga s.by_ v).l → ga s.by_ v ∈ resid es ts ∧ (ga s.by_ v).t = v ∧ gi s.cost (ga s.by_ v).f + (ga s.by_ v).c ≤ gi s.cost v ∧ ((ga s.by_ v).f < n ∧ gi s.cost (ga s.by_ v).f < far) := fun v ⟨hv, hr⟩ hl => by
    rcases h.by1 v hv hr with ⟨e, _⟩ | ⟨_, e1, e2, e3, e4⟩
    · omega
    · exact ⟨e1, e2, e4, (hg.ok _ e1).1, e3⟩
  obtain ⟨k, c, u, h1, h2⟩ := h.dep to hto ht
  have hin : ∀ {v w : Nat} {k : Nat} {c : Int}, Back s.by_ v k c w → (v < n ∧ gi s.cost v < far) → (w < n ∧ gi s.cost w < far) := fun h => by
    induction h with
    | nil => exact id
    | cons hl t ih => exact fun hv => ih (hstep _ hv hl).2.2.2
  have hu := hin h1 ⟨hto, ht⟩
  have hSu : gi lf u < 0 := by
    rcases h.by1 u hu.1 hu.2 with ⟨_, e, _⟩ | ⟨e, _⟩
    · exact e
    · omega
  have hk : k < n := h1.short (A := fun v => v < n ∧ gi s.cost v < far) (fun v hv => hv.1) (fun v hv hl => (hstep v hv hl).2.2.2) h2 ⟨hto, ht⟩
  have hk0 : 0 < k := by
    cases h1 with
    | nil => omega
    | cons _ _ => omega
  refine ⟨k, c, u, h1, h2, hk, hk0, fun v hv hr hl => (hstep v ⟨hv, hr⟩ hl).2.2.2, fun p hp' => ?_⟩
  subst hp'
  refine .inr ⟨?_, by simpa [trail_length] using hk, u, ?_, ?_, ?_, hu.1, hto, hSu, hp, MW.after D s, h.after hg, ?_⟩
  · intro e
    have := congrArg List.length e
    simp [trail_length] at this
    omega
  · exact trail_chain (A := fun v => v < n ∧ gi s.cost v < far) (fun v hv hl => ⟨(hstep v hv hl).2.1, (hstep v hv hl).2.2.2⟩) h1 ⟨hto, ht⟩
  · intro x hx
    rw [List.mem_reverse] at hx
    exact trail_mem (A := fun v => v < n ∧ gi s.cost v < far) (B := fun x => x ∈ resid es ts) (fun v hv hl => ⟨(hstep v hv hl).1, (hstep v hv hl).2.2.2⟩) h1 ⟨hto, ht⟩ x hx
  · rw [List.map_reverse]
    have := trail_nodup (A := fun v => v < n ∧ gi s.cost v < far) (fun v hv hl => ⟨(hstep v hv hl).2.1, (hstep v hv hl).2.2.2⟩) h2 h1 ⟨hto, ht⟩
    exact (List.reverse_perm _).nodup_iff.2 this
  · intro x hx
    rw [List.mem_reverse] at hx
    have := trail_mem (A := fun v => v < n ∧ gi s.cost v < far) (B := fun x => x ∈ resid es ts ∧ gi s.cost x.f < far ∧ gi s.cost x.t < far ∧ gi s.cost x.f + x.c ≤ gi s.cost x.t) (fun v hv hl => by
      obtain ⟨g1, g2, g3, g4⟩ := hstep v hv hl
      exact ⟨⟨g1, g4.2, by rw [g2]; exact hv.2, by rw [g2]; exact g3⟩, g4⟩) h1 ⟨hto, ht⟩ x hx
    obtain ⟨g1, g2, g3, g4⟩ := this
    have g5 := h.after hg x g1
    unfold MW.after at g5 ⊢
    rw [if_pos g2, if_pos g3] at g5 ⊢
    omega
theorem Chain.head {p : List Arc} {u v : Nat} (h : Chain p u v) {x : Arc} (hx : p[0]? = some x) : x.f = u := by
  cases h with
  | nil => simp at hx
  | cons _ => simp at hx; rw [hx]
theorem Chain.last {p : List Arc} {u v : Nat} (h : Chain p u v) {x : Arc} (hx : p[p.length - 1]? = some x) : x.t = v := by
  induction h with
  | nil => simp at hx
  | @cons y p v hc ih =>
    cases p with
    | nil =>
      cases hc
      simp at hx; rw [hx]
    | cons z p =>
      refine ih ?_
      simpa using hx
theorem take_snoc {α : Type} {p : List α} {k : Nat} {x : α} (hx : p[k]? = some x) : p.take (k + 1) = p.take k ++ [x] := by
  rw [List.take_add_one, hx]; rfl
theorem least_snoc (es : List Arc) (ts : List Int) (m : Int) (p : List Arc) (x : Arc) : least es ts m (p ++ [x]) = if fwd es x then least es ts m p else min (least es ts m p) (gi ts x.l.toNat) := by
  simp [least, List.foldl_append]
theorem pushes_snoc (es : List Arc) (m : Int) (ts : List Int) (p : List Arc) (x : Arc) : pushes es m ts (p ++ [x]) = push es m (pushes es m ts p) x := by
  simp [pushes, List.foldl_append]
theorem pushes_bd {es : List Arc} {m : Int} {ts : List Int} {p : List Arc} (h0 : 0 ≤ m) (h1 : m ≤ FF) (hl : p.length ≤ 65) (hx : ∀ x ∈ p, x.l.toNat < ts.length) (i : Nat) :
    gi (pushes es m ts p) i ≤ gi ts i + 234000000000000 ∧ gi ts i - 234000000000000 ≤ gi (pushes es m ts p) i := by
  rw [pushes_get hx]
  have hF : cntF es i p ≤ 65 := Nat.le_trans List.countP_le_length hl
  have hB : cntB es i p ≤ 65 := Nat.le_trans List.countP_le_length hl
  have key : ∀ c : Nat, c ≤ 65 → 0 ≤ m * (c : Int) ∧ m * (c : Int) ≤ 234000000000000 := fun c hc => by
    refine ⟨Int.mul_nonneg h0 (by omega), ?_⟩
    have : m * (c : Int) ≤ FF * 65 := Int.mul_le_mul h1 (by omega) (by omega) (by simp [FF])
    simp only [FF] at this
    omega
  have k1 := key _ hF
  have k2 := key _ hB
  omega
end Go.MW

namespace Go.MW
def sizesTo (w : List Int) (k : Nat) : Int := sumTo (fun v => max (gi w v) (-gi w v)) k
def SizedW (w : List Int) : Prop := sizesTo w w.length ≤ FF
instance (w : List Int) : Decidable (SizedW w) := by unfold SizedW; infer_instance
theorem sumTo_mono {f : Nat → Int} (h : ∀ v, 0 ≤ f v) {k n : Nat} (hk : k ≤ n) : sumTo f k ≤ sumTo f n := by
  induction hk with
  | refl => exact Int.le_refl _
  | @step m _ ih => simp only [sumTo]; have := h m; omega
theorem sumTo_ge {f : Nat → Int} (h : ∀ v, 0 ≤ f v) {v n : Nat} (hv : v < n) : f v ≤ sumTo f n := by
  have h1 := sumTo_mono h (k := v + 1) (n := n) hv
  have h2 : 0 ≤ sumTo f v := sumTo_nonneg fun u _ => h u
  simp only [sumTo] at h1; omega
theorem sizes_at (w : List Int) {v n : Nat} (hv : v < n) : gi w v ≤ sizesTo w n ∧ -gi w v ≤ sizesTo w n := by
  have := sumTo_ge (f := fun v => max (gi w v) (-gi w v)) (fun v => by omega) hv
  unfold sizesTo
  omega
def tailTo (w : List Int) (k : Nat) : Int := sumTo (fun v => gi w (v + 1)) k
theorem sumTo_shift (f : Nat → Int) (k : Nat) : sumTo f (k + 1) = f 0 + sumTo (fun v => f (v + 1)) k := by
  induction k with
  | zero => simp [sumTo]
  | succ k ih => rw [sumTo, ih]; simp only [sumTo]; omega
theorem tail_bound (w : List Int) (k : Nat) : tailTo w k ≤ sizesTo w (k + 1) ∧ -tailTo w k ≤ sizesTo w (k + 1) := by
  unfold sizesTo tailTo
  rw [sumTo_shift]
  have h1 := sumTo_le (f := fun v => gi w (v + 1)) (g := fun v => max (gi w (v + 1)) (-gi w (v + 1))) (n := k) (fun v _ => by omega)
  have h2 := sumTo_le (f := fun v => -gi w (v + 1)) (g := fun v => max (gi w (v + 1)) (-gi w (v + 1))) (n := k) (fun v _ => by omega)
  rw [sumTo_neg] at h2
  omega
theorem wt_zero (w : List Int) (k : Nat) : wtOf w (k + 1) 0 = -tailTo w k := by
  simp only [wtOf, if_true, sumTo_shift (gi w), tailTo]; omega
theorem wt_succ (w : List Int) (n v : Nat) : wtOf w n (v + 1) = gi w (v + 1) := by simp [wtOf]
theorem FInv.start {es : List Arc} {w lf : List Int} {k : Nat} (hw : sizesTo w (k + 1) ≤ FF) (hl : lf.length = k + 1) (hlf : ∀ v < k + 1, gi lf v = wtOf w (k + 1) v) (hf : ∃ p, Feas es p) :
    FInv (k + 1) es (wtOf w (k + 1)) (List.replicate es.length 0) lf := by
  have h0 : ∀ i < es.length, gi (List.replicate es.length (0 : Int)) i = 0 := fun i hi => gi_replicate _ _ hi
  have ht := tail_bound w k
  have hrem : rem (k + 1) lf ≤ FF := by
    unfold rem
    rw [sumTo_congr (g := fun v => max (wtOf w (k + 1) v) 0) (fun v hv => by rw [hlf v hv]), sumTo_shift, wt_zero]
    unfold sizesTo at hw
    rw [sumTo_shift] at hw
    rw [sumTo_congr (g := fun v => max (gi w (v + 1)) 0) (fun v _ => by rw [wt_succ])]
    have e1 : sumTo (fun v => max (gi w (v + 1)) 0) k + sumTo (fun v => max (-gi w (v + 1)) 0) k = sumTo (fun v => max (gi w (v + 1)) (-gi w (v + 1))) k := by
      rw [← sumTo_add]; exact sumTo_congr fun v _ => by omega
    have e2 : sumTo (fun v => max (gi w (v + 1)) 0) k - sumTo (fun v => max (-gi w (v + 1)) 0) k = tailTo w k := by
      rw [← sumTo_sub]; exact sumTo_congr fun v _ => by omega
    have e3 : 0 ≤ sumTo (fun v => max (-gi w (v + 1)) 0) k := sumTo_nonneg fun v _ => by omega
    have e4 : 0 ≤ sumTo (fun v => max (gi w (v + 1)) 0) k := sumTo_nonneg fun v _ => by omega
    omega
  refine ⟨by simp, hl, fun i hi => by rw [h0 i hi]; omega, fun v hv => ?_, ?_, fun i hi => by rw [h0 i hi]; omega, fun v hv => ?_, by rw [dot_zero]; omega⟩
  · unfold net
    rw [dot_zero, hlf v hv]; omega
  · obtain ⟨p, hp⟩ := hf
    refine ⟨p, fun x hx => ?_⟩
    obtain ⟨i, y, h1, h2⟩ := (mem_resid (by simp)).1 hx
    rcases h2 with rfl | ⟨h2, _⟩
    · exact hp x (List.mem_of_getElem? h1)
    · rw [h0 i (List.getElem?_eq_some_iff.1 h1).1] at h2; omega
  · rw [hlf v hv]
    cases v with
    | zero => rw [wt_zero]; omega
    | succ v =>
      rw [wt_succ]
      have := sizes_at w hv
      omega
structure FlowOk (n : Nat) (es : List Arc) (wt : Nat → Int) (ts : List Int) : Prop where
  lt : ts.length = es.length
  nn : ∀ i < es.length, 0 ≤ gi ts i ∧ gi ts i ≤ FF
  full : FullS n es wt ts
  fe : ∃ p, Feas (resid es ts) p
  tot : dot es ts (fun _ => 1) ≤ 64 * FF
theorem FInv.ok {n : Nat} {es : List Arc} {wt : Nat → Int} {ts lf : List Int} (h : FInv n es wt ts lf) (hin : ∀ x ∈ es, x.f < n ∧ x.t < n) (h0 : sumTo wt n = 0) (hle : ∀ v < n, gi lf v ≤ 0) : FlowOk n es wt ts := by
  have h3 : 0 ≤ rem n lf := sumTo_nonneg fun v _ => by omega
  refine ⟨h.lt, fun i hi => ⟨h.nn i hi, ?_⟩, h.full hin h0 hle, h.fe, ?_⟩
  · have h1 := h.tb i hi
    omega
  · have h1 := h.tot
    omega
end Go.MW

namespace Go.MW
structure PlcOk (many : Nat) (most : Int) (l : List Int) : Prop where
  two : 2 ≤ l.length
  many : l.length ≤ many
  low : 0 ≤ gi l 0
  high : gi l (l.length - 1) ≤ most
  rise : ∀ i, i + 1 < l.length → gi l i < gi l (i + 1)
theorem PlcOk.le {many : Nat} {most : Int} {l : List Int} (h : PlcOk many most l) : ∀ {j i : Nat}, i ≤ j → j < l.length → gi l i ≤ gi l j
  | 0, i, h1, _ => by obtain rfl : i = 0 := by omega
                      exact Int.le_refl _
  | j + 1, i, h1, h2 => by
    by_cases e : i = j + 1
    · subst e; exact Int.le_refl _
    · have := h.le (j := j) (i := i) (by omega) (by omega)
      have := h.rise j h2
      omega
theorem PlcOk.bd {many : Nat} {most : Int} {l : List Int} (h : PlcOk many most l) {i : Nat} (hi : i < l.length) : 0 ≤ gi l i ∧ gi l i ≤ most := by
  have h1 := h.le (i := 0) (j := i) (by omega) hi
  have h2 := h.le (i := i) (j := l.length - 1) (by omega) (by have := h.two; omega)
  have := h.low; have := h.high
  omega
def tms (a b : Int) : Int := if a = b then 1 else if a * 2 = b ∨ b * 2 = a then 2 else if a * 3 = b ∨ b * 3 = a then 3 else 0
def rat (a b : Int) : Int := if b.tmod a = 0 ∧ b.tdiv a ≤ 3 then b.tdiv a else 0
theorem tms_bd (a b : Int) : 0 ≤ tms a b ∧ tms a b ≤ 3 := by
  unfold tms; split <;> (try split) <;> (try split) <;> omega
theorem rat_eq {a b : Int} (ha : 0 < a) (hb : 0 < b) : rat a b = if a = b then 1 else if a * 2 = b then 2 else if a * 3 = b then 3 else 0 := by
  unfold rat
  rw [Int.tmod_eq_emod_of_nonneg (by omega), Int.tdiv_eq_ediv_of_nonneg (by omega)]
  have hd := Int.emod_add_mul_ediv b a
  have hq : 0 ≤ b / a := Int.ediv_nonneg (by omega) (by omega)
  by_cases h : b % a = 0 ∧ b / a ≤ 3
  · rw [if_pos h]
    rw [h.1, Int.zero_add] at hd
    have h3 : b / a = 0 ∨ b / a = 1 ∨ b / a = 2 ∨ b / a = 3 := by omega
    rcases h3 with e | e | e | e
    · rw [e, Int.mul_zero] at hd; omega
    · rw [e, Int.mul_one] at hd; rw [e, if_pos hd]
    · rw [e] at hd; rw [e, if_neg (by omega), if_pos hd]
    · rw [e] at hd; rw [e, if_neg (by omega), if_neg (by omega), if_pos hd]
  · rw [if_neg h]
    have key : ∀ k : Int, 1 ≤ k → k ≤ 3 → a * k ≠ b := fun k h1 h2 e => h (by
      subst e
      rw [Int.mul_emod_right, Int.mul_ediv_cancel_left _ (by omega)]
      exact ⟨rfl, h2⟩)
    have k1 := key 1 (by omega) (by omega)
    have k2 := key 2 (by omega) (by omega)
    have k3 := key 3 (by omega) (by omega)
    rw [Int.mul_one] at k1
    rw [if_neg k1, if_neg k2, if_neg k3]
theorem tms_rat {a b : Int} (ha : 0 < a) (hb : 0 < b) : tms a b = max (rat a b) (rat b a) := by
  rw [rat_eq ha hb, rat_eq hb ha]
  unfold tms
  by_cases h1 : a = b
  · rw [if_pos h1, if_pos h1, if_pos h1.symm]; rfl
  · rw [if_neg h1, if_neg h1, if_neg (Ne.symm h1)]
    by_cases h2 : a * 2 = b
    · rw [if_pos (.inl h2), if_pos h2, if_neg (by omega), if_neg (by omega)]; rfl
    · by_cases h3 : b * 2 = a
      · rw [if_pos (.inr h3), if_neg h2, if_pos h3, if_neg (by omega)]; rfl
      · rw [if_neg (by omega), if_neg h2, if_neg h3]
        by_cases h4 : a * 3 = b
        · rw [if_pos (.inl h4), if_pos h4, if_neg (by omega)]; rfl
        · by_cases h5 : b * 3 = a
          · rw [if_pos (.inr h5), if_neg h4, if_pos h5]; rfl
          · rw [if_neg (by omega), if_neg h4, if_neg h5]; rfl
structure Grp where
  at_ : Nat
  two : Bool
def twoAt (l : List Int) (i : Nat) : Bool := decide (i + 2 < l.length) && decide (0 < tms (gi l (i + 1) - gi l i) (gi l (i + 2) - gi l (i + 1)))
def Grp.n (g : Grp) : Nat := if g.two then 2 else 1
def grpsF (l : List Int) : Nat → Nat → List Grp
  | 0, _ => []
  | f + 1, i => if i + 1 < l.length then ⟨i, twoAt l i⟩ :: grpsF l f (i + (if twoAt l i then 2 else 1)) else []
def grps (l : List Int) : List Grp := grpsF l l.length 0
theorem grpsF_more (l : List Int) : ∀ (f i : Nat), l.length ≤ f + i → grpsF l (f + 1) i = grpsF l f i
  | 0, i, h => by simp only [grpsF]; rw [if_neg (by omega)]
  | f + 1, i, h => by
    have e1 : grpsF l (f + 1 + 1) i = if i + 1 < l.length then ⟨i, twoAt l i⟩ :: grpsF l (f + 1) (i + (if twoAt l i then 2 else 1)) else [] := rfl
    have e2 : grpsF l (f + 1) i = if i + 1 < l.length then ⟨i, twoAt l i⟩ :: grpsF l f (i + (if twoAt l i then 2 else 1)) else [] := rfl
    rw [e1, e2]
    by_cases hi : i + 1 < l.length
    · rw [if_pos hi, if_pos hi]
      rw [grpsF_more l f _ (by split <;> omega)]
    · rw [if_neg hi, if_neg hi]
def grpsAt (l : List Int) (i : Nat) : List Grp := grpsF l l.length i
theorem grpsAt_go {l : List Int} {i : Nat} (h : i + 1 < l.length) : grpsAt l i = ⟨i, twoAt l i⟩ :: grpsAt l (i + (if twoAt l i then 2 else 1)) := by
  unfold grpsAt
  cases hl : l.length with
  | zero => omega
  | succ f =>
    rw [grpsF, if_pos h]
    congr 1
    exact (grpsF_more l f _ (by split <;> omega)).symm
theorem grpsAt_end {l : List Int} {i : Nat} (h : ¬ i + 1 < l.length) : grpsAt l i = [] := by
  unfold grpsAt
  cases hl : l.length with
  | zero => rfl
  | succ f => rw [grpsF, if_neg h]
def addAt (W : List Int) : Nat → List Int → List Int
  | _, [] => W
  | i, x :: xs => addAt (W.set i (gi W i + x)) (i + 1) xs
theorem addAt_length (xs : List Int) : ∀ (W : List Int) (i : Nat), (addAt W i xs).length = W.length := by
  induction xs with
  | nil => intro W i; rfl
  | cons x xs ih => intro W i; simp only [addAt]; rw [ih, List.length_set]
def grpW (l : List Int) (g : Grp) : List Int :=
  let a := gi l (g.at_ + 1) - gi l g.at_
  if g.two then
    let b := gi l (g.at_ + 2) - gi l (g.at_ + 1)
    let k := tms a b
    let c := (6 : Int).tdiv k * (1 + k) * min a b
    if b < a then [c * (2 * k - 1), c * (1 + k) * (1 + k), c * k * (2 - k)] else [c * k * (2 - k), c * (1 + k) * (1 + k), c * (2 * k - 1)]
  else [18 * a, 18 * a]
def wtsF (l : List Int) (gs : List Grp) (W : List Int) : List Int := gs.foldl (fun W g => addAt W g.at_ (grpW l g)) W
def wts (l : List Int) : List Int := wtsF l (grps l) (List.replicate l.length 0)
theorem wtsF_length (l : List Int) : ∀ (gs : List Grp) (W : List Int), (wtsF l gs W).length = W.length
  | [], W => rfl
  | g :: gs, W => by
    show (wtsF l gs (addAt W g.at_ (grpW l g))).length = _
    rw [wtsF_length l gs, addAt_length]
theorem wts_length (l : List Int) : (wts l).length = l.length := by unfold wts; rw [wtsF_length, List.length_replicate]
theorem sizes_set {W : List Int} {i : Nat} (hi : i < W.length) (x : Int) {n : Nat} (hn : n ≤ W.length) : sizesTo (W.set i x) n ≤ sizesTo W n + (max x (-x)) - (if i < n then max (gi W i) (-gi W i) else max x (-x)) := by
  induction n with
  | zero => simp [sizesTo, sumTo]
  | succ n ih =>
    have ih := ih (by omega)
    simp only [sizesTo, sumTo] at ih ⊢
    rw [gi_set hi]
    by_cases e : n = i
    · subst e
      rw [if_pos rfl, if_pos (by omega)]
      rw [if_neg (by omega)] at ih
      omega
    · rw [if_neg e]
      by_cases h : i < n
      · rw [if_pos (by omega)]; rw [if_pos h] at ih; omega
      · rw [if_neg (by omega)]; rw [if_neg h] at ih; omega
def absL : List Int → Int
  | [] => 0
  | x :: xs => max x (-x) + absL xs
theorem addAt_sizes (xs : List Int) : ∀ (W : List Int) (i : Nat), i + xs.length ≤ W.length → sizesTo (addAt W i xs) W.length ≤ sizesTo W W.length + absL xs := by
  induction xs with
  | nil => intro W i _; simp [addAt, absL]
  | cons x xs ih =>
    intro W i h
    simp only [List.length_cons] at h
    simp only [addAt, absL]
    have h1 := ih (W.set i (gi W i + x)) (i + 1) (by rw [List.length_set]; omega)
    rw [List.length_set] at h1
    have h2 := sizes_set (W := W) (i := i) (by omega) (gi W i + x) (n := W.length) (Nat.le_refl _)
    rw [if_pos (by omega)] at h2
    omega
theorem addAt_snoc (x : Int) : ∀ (xs W : List Int) (i : Nat), addAt W i (xs ++ [x]) = (addAt W i xs).set (i + xs.length) (gi (addAt W i xs) (i + xs.length) + x)
  | [], W, i => rfl
  | y :: ys, W, i => by
    simp only [List.cons_append, addAt, List.length_cons]
    rw [addAt_snoc x ys, show i + 1 + ys.length = i + (ys.length + 1) by omega]
theorem addAt_take {xs : List Int} {k : Nat} (hk : k < xs.length) (W : List Int) (i : Nat) : addAt W i (xs.take (k + 1)) = (addAt W i (xs.take k)).set (i + k) (gi (addAt W i (xs.take k)) (i + k) + gi xs k) := by
  rw [take_snoc (gi_get hk), addAt_snoc, List.length_take, Nat.min_eq_left (by omega)]
theorem absL_nonneg : ∀ xs : List Int, 0 ≤ absL xs
  | [] => Int.le_refl _
  | x :: xs => by have := absL_nonneg xs; simp only [absL]; omega
theorem absL_take : ∀ (xs : List Int) (k : Nat), absL (xs.take k) ≤ absL xs
  | [], k => by simp
  | x :: xs, 0 => by have := absL_nonneg (x :: xs); simpa [absL] using this
  | x :: xs, k + 1 => by have := absL_take xs k; simp only [List.take_succ_cons, absL]; omega
theorem absL_at : ∀ (xs : List Int) (k : Nat), -absL xs ≤ gi xs k ∧ gi xs k ≤ absL xs
  | [], k => by simp [gi, absL]
  | x :: xs, 0 => by have := absL_nonneg xs; show _ ≤ x ∧ x ≤ _; simp only [absL]; omega
  | x :: xs, k + 1 => by
    have := absL_at xs k
    have e : gi (x :: xs) (k + 1) = gi xs k := rfl
    rw [e]; simp only [absL]; omega
theorem grpW_abs {l : List Int} {g : Grp} (ha : 0 < gi l (g.at_ + 1) - gi l g.at_) (h : g.two = true → g.at_ + 2 < l.length ∧ 0 < gi l (g.at_ + 2) - gi l (g.at_ + 1) ∧ 0 < tms (gi l (g.at_ + 1) - gi l g.at_) (gi l (g.at_ + 2) - gi l (g.at_ + 1))) :
    absL (grpW l g) ≤ 48 * (gi l (g.at_ + g.n) - gi l g.at_) := by
  unfold grpW Grp.n
  cases ht : g.two with
  | false => simp only [Bool.false_eq_true, if_false, absL]; omega
  | true =>
    obtain ⟨_, hb, hk⟩ := h ht
    have e : gi l (g.at_ + 2) - gi l g.at_ = (gi l (g.at_ + 1) - gi l g.at_) + (gi l (g.at_ + 2) - gi l (g.at_ + 1)) := by omega
    simp only [if_true]
    rw [e]
    generalize gi l (g.at_ + 1) - gi l g.at_ = a at *
    generalize gi l (g.at_ + 2) - gi l (g.at_ + 1) = b at *
    have h3 := tms_bd a b
    have h4 : (tms a b = 1 ∧ a = b) ∨ (tms a b = 2 ∧ (a * 2 = b ∨ b * 2 = a)) ∨ (tms a b = 3 ∧ (a * 3 = b ∨ b * 3 = a)) := by
      unfold tms at hk ⊢
      by_cases e1 : a = b
      · rw [if_pos e1]; exact .inl ⟨rfl, e1⟩
      · rw [if_neg e1] at hk ⊢
        by_cases e2 : a * 2 = b ∨ b * 2 = a
        · rw [if_pos e2]; exact .inr (.inl ⟨rfl, e2⟩)
        · rw [if_neg e2] at hk ⊢
          by_cases e3 : a * 3 = b ∨ b * 3 = a
          · rw [if_pos e3]; exact .inr (.inr ⟨rfl, e3⟩)
          · rw [if_neg e3] at hk; omega
    have d1 : (6 : Int).tdiv 1 = 6 := by decide
    have d2 : (6 : Int).tdiv 2 = 3 := by decide
    have d3 : (6 : Int).tdiv 3 = 2 := by decide
    rcases h4 with ⟨k, e1⟩ | ⟨k, e1⟩ | ⟨k, e1⟩ <;> rw [k] <;> (first | rw [d1] | rw [d2] | rw [d3]) <;> split <;> simp only [absL] <;> omega
theorem wtsF_sizes {many : Nat} {most : Int} {l : List Int} (hl : PlcOk many most l) : ∀ (m i : Nat) (W : List Int), l.length ≤ m + i → i < l.length → W.length = l.length → sizesTo (wtsF l (grpsAt l i) W) l.length ≤ sizesTo W l.length + 48 * (gi l (l.length - 1) - gi l i) := by
  intro m
  induction m with
  | zero => intro i W h1 h2; omega
  | succ m ih =>
    intro i W h1 h2 hW
    by_cases hi : i + 1 < l.length
    · rw [grpsAt_go hi]
      show sizesTo (wtsF l (grpsAt l _) (addAt W i (grpW l ⟨i, twoAt l i⟩))) l.length ≤ _
      have hr := hl.rise i hi
      have htwo : twoAt l i = true → i + 2 < l.length ∧ 0 < tms (gi l (i + 1) - gi l i) (gi l (i + 2) - gi l (i + 1)) := fun h => by
        simpa [twoAt] using h
      have h3 := grpW_abs (l := l) (g := ⟨i, twoAt l i⟩) (by show 0 < gi l (i + 1) - gi l i; omega) (fun h => by
        obtain ⟨a, b⟩ := htwo h
        have : gi l (i + 1) < gi l (i + 2) := hl.rise (i + 1) (by omega)
        exact ⟨a, by show 0 < gi l (i + 2) - gi l (i + 1); omega, b⟩)
      have hg : (grpW l ⟨i, twoAt l i⟩).length = (if twoAt l i then 2 else 1) + 1 := by
        unfold grpW
        cases twoAt l i with
        | false => rfl
        | true => simp only [if_true]; split <;> rfl
      have hn : i + (if twoAt l i then 2 else 1) < l.length := by
        cases e : twoAt l i with
        | false => simpa using hi
        | true => simpa [e] using (htwo e).1
      have h4 := addAt_sizes (grpW l ⟨i, twoAt l i⟩) W i (by rw [hg, hW]; omega)
      have h5 := ih (i + (if twoAt l i then 2 else 1)) (addAt W i (grpW l ⟨i, twoAt l i⟩)) (by split <;> omega) hn (by rw [addAt_length]; exact hW)
      have e6 : (⟨i, twoAt l i⟩ : Grp).n = if twoAt l i then 2 else 1 := rfl
      rw [e6] at h3
      rw [hW] at h4
      dsimp only at h3
      omega
    · rw [grpsAt_end hi]
      show sizesTo W l.length ≤ _
      have := hl.le (i := i) (j := l.length - 1) (by omega) (by omega)
      omega
theorem wts_sizes {many : Nat} {most : Int} {l : List Int} (hl : PlcOk many most l) : sizesTo (wts l) l.length ≤ 48 * most := by
  have h0 := hl.two
  have h1 := wtsF_sizes hl l.length 0 (List.replicate l.length 0) (by omega) (by omega) (by simp)
  have h2 : sizesTo (List.replicate l.length 0) l.length = 0 := by
    unfold sizesTo
    rw [sumTo_congr (g := fun _ => 0) (fun v hv => by rw [gi_replicate _ _ hv]; rfl), sumTo_zero]
  have h3 := hl.low
  have h4 := hl.high
  show sizesTo (wtsF l (grpsAt l 0) _) l.length ≤ _
  omega
theorem mem_grpsF {l : List Int} {g : Grp} : ∀ {f i : Nat}, g ∈ grpsF l f i → g.at_ + 1 < l.length ∧ g.two = twoAt l g.at_
  | 0, _, h => by cases h
  | f + 1, i, h => by
    rw [grpsF] at h
    split at h
    · rcases List.mem_cons.1 h with rfl | h
      · exact ⟨by assumption, rfl⟩
      · exact mem_grpsF h
    · cases h
theorem grpsF_length (l : List Int) : ∀ (f i : Nat), (grpsF l f i).length ≤ f
  | 0, _ => Nat.le_refl _
  | f + 1, i => by
    rw [grpsF]
    split
    · have := grpsF_length l f (i + (if twoAt l i then 2 else 1)); simp only [List.length_cons]; omega
    · simp
theorem grp_facts {many : Nat} {most : Int} {l : List Int} (hl : PlcOk many most l) {g : Grp} (h : g ∈ grps l) : g.at_ + 1 < l.length ∧ 0 < gi l (g.at_ + 1) - gi l g.at_ ∧ gi l (g.at_ + 1) - gi l g.at_ ≤ most ∧
    (g.two = true → g.at_ + 2 < l.length ∧ 0 < gi l (g.at_ + 2) - gi l (g.at_ + 1) ∧ gi l (g.at_ + 2) - gi l (g.at_ + 1) ≤ most ∧ 0 < tms (gi l (g.at_ + 1) - gi l g.at_) (gi l (g.at_ + 2) - gi l (g.at_ + 1))) ∧ absL (grpW l g) ≤ 48 * most := by
  obtain ⟨h1, h2⟩ := mem_grpsF h
  have h3 := hl.rise _ h1
  have b0 := hl.bd (i := g.at_) (by omega)
  have b1 := hl.bd (i := g.at_ + 1) h1
  have ht : g.two = true → g.at_ + 2 < l.length ∧ 0 < gi l (g.at_ + 2) - gi l (g.at_ + 1) ∧ gi l (g.at_ + 2) - gi l (g.at_ + 1) ≤ most ∧ 0 < tms (gi l (g.at_ + 1) - gi l g.at_) (gi l (g.at_ + 2) - gi l (g.at_ + 1)) := fun h => by
    rw [h2] at h
    simp only [twoAt, Bool.and_eq_true, decide_eq_true_eq] at h
    have h4 : gi l (g.at_ + 1) < gi l (g.at_ + 2) := hl.rise (g.at_ + 1) h.1
    have b2 := hl.bd (i := g.at_ + 2) h.1
    exact ⟨h.1, by omega, by omega, h.2⟩
  refine ⟨h1, by omega, by omega, ht, ?_⟩
  have h5 := grpW_abs (g := g) (by omega) fun h => ⟨(ht h).1, (ht h).2.1, (ht h).2.2.2⟩
  have b3 := hl.bd (i := g.at_ + g.n) (by
    unfold Grp.n
    split
    · exact (ht (by assumption)).1
    · exact h1)
  omega
theorem grpW_len (l : List Int) (g : Grp) : (grpW l g).length = g.n + 1 := by
  unfold grpW Grp.n
  cases g.two with
  | false => rfl
  | true => simp only [if_true]; split <;> rfl
def wtsK (l : List Int) (k : Nat) : List Int := wtsF l ((grps l).take k) (List.replicate l.length 0)
theorem wtsK_length (l : List Int) (k : Nat) : (wtsK l k).length = l.length := by unfold wtsK; rw [wtsF_length, List.length_replicate]
theorem wtsK_succ {l : List Int} {k : Nat} {g : Grp} (h : (grps l)[k]? = some g) : wtsK l (k + 1) = addAt (wtsK l k) g.at_ (grpW l g) := by
  unfold wtsK wtsF
  rw [take_snoc h, List.foldl_append]
  rfl
theorem wtsK_end (l : List Int) : wtsK l (grps l).length = wts l := by unfold wtsK wts; rw [List.take_length]
theorem wtsK_sizes {many : Nat} {most : Int} {l : List Int} (hl : PlcOk many most l) : ∀ k, k ≤ (grps l).length → sizesTo (wtsK l k) l.length ≤ k * (48 * most)
  | 0, _ => by
    have : sizesTo (wtsK l 0) l.length = 0 := by
      unfold sizesTo wtsK wtsF
      rw [sumTo_congr (g := fun _ => 0) (fun v hv => by show max (gi (List.replicate l.length 0) v) (-gi (List.replicate l.length 0) v) = 0; rw [gi_replicate _ _ hv]; rfl), sumTo_zero]
    omega
  | k + 1, h => by
    obtain ⟨g, hg⟩ := List.getElem?_eq_some_iff.2 ⟨h, rfl⟩ |> fun h => (⟨_, h⟩ : ∃ g, (grps l)[k]? = some g)
    obtain ⟨h1, _, _, h3, h4⟩ := grp_facts hl (List.mem_of_getElem? hg)
    rw [wtsK_succ hg]
    have h5 := addAt_sizes (grpW l g) (wtsK l k) g.at_ (by
      rw [grpW_len, wtsK_length]
      unfold Grp.n
      split
      · have := (h3 (by assumption)).1; omega
      · omega)
    rw [wtsK_length] at h5
    have h6 := wtsK_sizes hl k (by omega)
    have e : ((k + 1 : Nat) : Int) * (48 * most) = k * (48 * most) + 48 * most := by rw [Int.natCast_add, Int.add_mul]; omega
    omega
theorem grpW_two {l : List Int} {g : Grp} {A B T M : Int} (h2 : g.two = true) (hA : gi l (g.at_ + 1) - gi l g.at_ = A) (hB : gi l (g.at_ + 2) - gi l (g.at_ + 1) = B) (hT : tms A B = T) (hM : min A B = M) :
    grpW l g = if B < A then [(6 : Int).tdiv T * (1 + T) * M * (2 * T - 1), (6 : Int).tdiv T * (1 + T) * M * (1 + T) * (1 + T), (6 : Int).tdiv T * (1 + T) * M * T * (2 - T)] else [(6 : Int).tdiv T * (1 + T) * M * T * (2 - T), (6 : Int).tdiv T * (1 + T) * M * (1 + T) * (1 + T), (6 : Int).tdiv T * (1 + T) * M * (2 * T - 1)] := by
  subst hT hM; unfold grpW; rw [h2, hA, hB]; rfl
theorem grpW_one {l : List Int} {g : Grp} {A : Int} (h2 : g.two = false) (hA : gi l (g.at_ + 1) - gi l g.at_ = A) : grpW l g = [18 * A, 18 * A] := by
  unfold grpW; rw [h2, hA]; rfl
theorem grp_nums {k m : Int} (hk : k = 1 ∨ k = 2 ∨ k = 3) (h0 : 0 ≤ m) (h1 : m ≤ 100000) :
    (2 ≤ (6 : Int).tdiv k ∧ (6 : Int).tdiv k ≤ 6) ∧ (8 ≤ (6 : Int).tdiv k * (1 + k) ∧ (6 : Int).tdiv k * (1 + k) ≤ 12) ∧ (0 ≤ (6 : Int).tdiv k * (1 + k) * m ∧ (6 : Int).tdiv k * (1 + k) * m ≤ 1200000) ∧
    (∀ c, 0 ≤ c → c ≤ 1200000 → (0 ≤ c * k ∧ c * k ≤ 3600000) ∧ (-3600000 ≤ c * k * (2 - k) ∧ c * k * (2 - k) ≤ 3600000) ∧ (0 ≤ c * (1 + k) ∧ c * (1 + k) ≤ 4800000) ∧ (0 ≤ c * (1 + k) * (1 + k) ∧ c * (1 + k) * (1 + k) ≤ 19200000) ∧ (0 ≤ c * (2 * k - 1) ∧ c * (2 * k - 1) ≤ 6000000)) := by
  have d1 : (6 : Int).tdiv 1 = 6 := by decide
  have d2 : (6 : Int).tdiv 2 = 3 := by decide
  have d3 : (6 : Int).tdiv 3 = 2 := by decide
  rcases hk with rfl | rfl | rfl
  · rw [d1]; refine ⟨by omega, by omega, by omega, fun c _ _ => by omega⟩
  · rw [d2]; refine ⟨by omega, by omega, by omega, fun c _ _ => by omega⟩
  · rw [d3]; refine ⟨by omega, by omega, by omega, fun c _ _ => by omega⟩
end Go.MW

namespace Go.MW
def dotTo (es : List Arc) (ts : List Int) (k : Nat) : Int := sumTo (fun i => gi ts i * (ga es i).c) k
theorem dot_dotTo : ∀ {es : List Arc} {ts : List Int}, ts.length = es.length → dot es ts (·.c) = dotTo es ts es.length := by
  intro es
  induction es with
  | nil => intro ts _; simp [dot, dotTo, sumTo]
  | cons x es ih =>
    intro ts h
    cases ts with
    | nil => simp at h
    | cons t ts =>
      have h1 := ih (ts := ts) (by simpa using h)
      simp only [dot, h1, dotTo, List.length_cons]
      rw [sumTo_shift]
      rfl
abbrev BB : Int := 4608000000000000000
theorem value_bound {w : List Int} {n : Nat} {p : Nat → Int} (hw : sizesTo w n ≤ FF) (hp : ∀ v < n, p v - p 0 ≤ 1280000 ∧ -1280000 ≤ p v - p 0) : sumTo (fun v => gi w v * (p v - p 0)) n ≤ BB ∧ -BB ≤ sumTo (fun v => gi w v * (p v - p 0)) n := by
  have key : ∀ a b : Int, b ≤ 1280000 → -1280000 ≤ b → a * b ≤ 1280000 * max a (-a) ∧ -(a * b) ≤ 1280000 * max a (-a) := by
    intro a b h1 h2
    rcases Int.le_total 0 a with h | h
    · have e : max a (-a) = a := by omega
      have g1 : a * b ≤ a * 1280000 := Int.mul_le_mul_of_nonneg_left h1 h
      have g2 : a * (-1280000) ≤ a * b := Int.mul_le_mul_of_nonneg_left h2 h
      rw [e]; omega
    · have e : max a (-a) = -a := by omega
      have g1 : (-a) * b ≤ (-a) * 1280000 := Int.mul_le_mul_of_nonneg_left h1 (by omega)
      have g2 : (-a) * (-1280000) ≤ (-a) * b := Int.mul_le_mul_of_nonneg_left h2 (by omega)
      rw [e]
      simp only [Int.neg_mul] at g1 g2
      omega
  have h1 : sumTo (fun v => gi w v * (p v - p 0)) n ≤ sumTo (fun v => 1280000 * max (gi w v) (-gi w v)) n := sumTo_le fun v hv => (key _ _ (hp v hv).1 (hp v hv).2).1
  have h2 : sumTo (fun v => -(gi w v * (p v - p 0))) n ≤ sumTo (fun v => 1280000 * max (gi w v) (-gi w v)) n := sumTo_le fun v hv => (key _ _ (hp v hv).1 (hp v hv).2).2
  rw [sumTo_mul] at h1 h2
  rw [sumTo_neg] at h2
  unfold sizesTo at hw
  simp only [FF, BB] at *
  omega
theorem FlowOk.value {n : Nat} {es : List Arc} {w ts : List Int} (h : FlowOk n es (wtOf w n) ts) (hn : 0 < n) (hn1 : n ≤ 65) (ho : ArcsOk es n) (hw : sizesTo w n ≤ FF) :
    OptS es (wtOf w n) n (dot es ts (·.c)) ∧ ¬ OpenS es (wtOf w n) n ∧ dot es ts (·.c) ≤ BB ∧ -BB ≤ dot es ts (·.c) := by
  have hin : ∀ x ∈ es, x.f < n ∧ x.t < n := fun x hx => by have := ho.2 x hx; omega
  obtain ⟨D, hg⟩ := resid_WG hn hn1 ho h.lt.symm h.fe
  obtain ⟨h1, h2, h3⟩ := full_opt hin h.lt (fun i hi => (h.nn i hi).1) h.full hg.fe
  refine ⟨h1, h3, ?_⟩
  rw [← h2, wt_val w hn]
  exact value_bound hw fun v hv => by
    have a1 := hg.d0 v
    have a2 := hg.d1 v hv
    have a3 := hg.d0 0
    have a4 := hg.d1 0 hn
    omega
theorem FlowOk.point {n : Nat} {es : List Arc} {w ts : List Int} (h : FlowOk n es (wtOf w n) ts) (hn : 0 < n) (ho : ArcsOk es n) {p : Nat → Int} (hp : Feas (resid es ts) p) : sumTo (fun v => gi w v * (p v - p 0)) n = dot es ts (·.c) ∧ Feas es p := by
  have hin : ∀ x ∈ es, x.f < n ∧ x.t < n := fun x hx => by have := ho.2 x hx; omega
  obtain ⟨_, h2, _⟩ := full_opt hin h.lt (fun i hi => (h.nn i hi).1) h.full hp
  rw [wt_val w hn] at h2
  exact ⟨h2, resid_feas h.lt.symm hp⟩
end Go.MW

namespace Go.MW
abbrev free : Int := 1000000000
structure VInv (n : Nat) (as : List Arc) (S : Nat → Prop) (D : Nat → Int) (Dn : Arc → Prop) (again : Bool) (s : BS) : Prop where
  lc : s.cost.length = n
  lb : s.by_.length = n
  lo : ∀ v < n, D v ≤ gi s.cost v
  top : ∀ v < n, gi s.cost v ≤ free
  up : ∀ v < n, gi s.cost v < free → gi s.cost v ≤ 1400000 * (Classical.choose cnt_ex) (fun v => gi s.cost v < free) n
  src : ∀ v < n, S v → gi s.cost v ≤ 0
  by1 : ∀ v < n, gi s.cost v < free → ((ga s.by_ v).l = -1 ∧ S v ∧ gi s.cost v = 0) ∨
    (0 ≤ (ga s.by_ v).l ∧ ga s.by_ v ∈ as ∧ (ga s.by_ v).t = v ∧ gi s.cost (ga s.by_ v).f < free ∧ gi s.cost (ga s.by_ v).f + (ga s.by_ v).c ≤ gi s.cost v)
  dep : ∀ v < n, gi s.cost v < free → ∃ k c u, Back s.by_ v k c u ∧ (ga s.by_ u).l < 0
  nov : again = false → ∀ x ∈ as, Dn x → ¬ (gi s.cost x.f < free ∧ s.can x)
structure VG (n : Nat) (as : List Arc) (D : Nat → Int) : Prop where
  n0 : 0 < n
  n1 : n ≤ 65
  ok : ∀ x ∈ as, x.f < n ∧ x.t < n ∧ -1400000 ≤ x.c ∧ x.c ≤ 1400000 ∧ 0 ≤ x.l ∧ x.f ≠ x.t
  fe : Feas as D
  d0 : ∀ v, D v ≤ 0
  d1 : ∀ v < n, -89600000 ≤ D v
variable {n : Nat} {as : List Arc} {S : Nat → Prop} {D : Nat → Int} {Dn Dn' : Arc → Prop} {again : Bool} {s : BS} {x : Arc}
theorem VInv.low (h : VInv n as S D Dn again s) (hg : VG n as D) {v : Nat} (hv : v < n) (hr : gi s.cost v < free) : gi s.cost v ≤ 91000000 := by
  have h1 := h.up v hv hr
  have h2 := cnt_le (fun v => gi s.cost v < free) n
  have := hg.n1
  omega
theorem VInv.next (h : VInv n as S D Dn again s) : VInv n as S D (fun _ => False) false s := ⟨h.lc, h.lb, h.lo, h.top, h.up, h.src, h.by1, h.dep, fun _ _ _ hi => hi.elim⟩
theorem VInv.skip (h : VInv n as S D Dn again s) (hc : again = false → ∀ y ∈ as, Dn' y → ¬ Dn y → ¬ (gi s.cost y.f < free ∧ s.can y)) : VInv n as S D Dn' again s :=
  ⟨h.lc, h.lb, h.lo, h.top, h.up, h.src, h.by1, h.dep, fun e y hy hd => by
    by_cases he : Dn y
    · exact h.nov e y hy he
    · exact hc e y hy hd he⟩
theorem VInv.relax (h : VInv n as S D Dn again s) (hg : VG n as D) (hm : x ∈ as) (hf : gi s.cost x.f < free) (hc : s.can x) : VInv n as S D Dn' true (s.rlx x) := by
  obtain ⟨b1, b2, b3, b4, b5, b6⟩ := hg.ok x hm
  have hgi : ∀ v, gi (s.rlx x).cost v = if v = x.t then gi s.cost x.f + x.c else gi s.cost v := fun v => gi_set (by rw [h.lc]; exact b2) _ v
  have hb : ∀ v, ga (s.rlx x).by_ v = if v = x.t then x else ga s.by_ v := fun v => ga_set (by rw [h.lb]; exact b2) _ v
  have hle : ∀ v, gi (s.rlx x).cost v ≤ gi s.cost v := fun v => by
    rw [hgi]; unfold BS.can at hc; split
    · rename_i e; subst e; omega
    · omega
  have hlow := h.low hg b1 hf
  have hxt : gi (s.rlx x).cost x.t < free := by rw [hgi, if_pos rfl]; simp only [free]; omega
  have hstep : ∀ v, (v < n ∧ gi s.cost v < free) → 0 ≤ (ga s.by_ v).l → ga s.by_ v ∈ as ∧ (ga s.by_ v).t = v ∧ gi s.cost (ga s.by_ v).f + (ga s.by_ v).c ≤ gi s.cost v ∧ ((ga s.by_ v).f < n ∧ gi s.cost (ga s.by_ v).f < free) := fun v ⟨hv, hr⟩ hl => by
    rcases h.by1 v hv hr with ⟨e, _⟩ | ⟨_, e1, e2, e3, e4⟩
    · omega
    · exact ⟨e1, e2, e4, (hg.ok _ e1).1, e3⟩
  have hcost : ∀ {v u : Nat} {k : Nat} {c : Int}, Back s.by_ v k c u → (v < n ∧ gi s.cost v < free) → gi s.cost u + c ≤ gi s.cost v ∧ D v ≤ D u + c := fun hb => by
    induction hb with
    | nil => intro _; omega
    | @cons v u k c hl t ih =>
      intro hv
      obtain ⟨h1, h2, h3, h4⟩ := hstep _ hv hl
      obtain ⟨h5, h6⟩ := ih h4
      have h7 := hg.fe _ h1
      rw [h2] at h7
      omega
  have hroad : ∀ {k : Nat} {c : Int}, ¬ Back s.by_ x.f k c x.t := fun hbk => by
    have h1 := hcost hbk ⟨b1, hf⟩
    have h2 := hg.fe x hm
    unfold BS.can at hc; omega
  have hcnt : (Classical.choose cnt_ex) (fun v => gi s.cost v < free) n ≤ (Classical.choose cnt_ex) (fun v => gi (s.rlx x).cost v < free) n := cnt_mono fun v _ hv => by have := hle v; omega
  have hturn : ∀ u, u ≠ x.t → ga (s.rlx x).by_ u = ga s.by_ u := fun u hu => by rw [hb, if_neg hu]
  refine ⟨by simp [BS.rlx, h.lc], by simp [BS.rlx, h.lb], fun v hv => ?_, fun v hv => Int.le_trans (hle v) (h.top v hv), fun v hv hr => ?_, fun v hv hs => Int.le_trans (hle v) (h.src v hv hs), fun v hv hr => ?_, ?_, fun e => (by cases e)⟩
  · rw [hgi]; split
    · rename_i e; subst e
      have := hg.fe x hm; have := h.lo _ b1; omega
    · exact h.lo v hv
  · by_cases e : v = x.t
    · subst e
      rw [hgi, if_pos rfl]
      have h1 := h.up _ b1 hf
      by_cases hr0 : gi s.cost x.t < free
      · have := h.up _ b2 hr0
        unfold BS.can at hc
        omega
      · have := cnt_lt (p := fun v => gi s.cost v < free) (q := fun v => gi (s.rlx x).cost v < free) (n := n) (fun v _ hv => by have := hle v; omega) b2 hxt hr0
        omega
    · rw [hgi, if_neg e] at hr ⊢
      have := h.up v hv hr
      omega
  · by_cases e : v = x.t
    · subst e
      refine .inr ?_
      simp only [hb, if_true]
      refine ⟨b5, hm, trivial, ?_, ?_⟩
      · rw [hgi, if_neg b6]; exact hf
      · rw [hgi, hgi, if_neg b6, if_pos rfl]; exact Int.le_refl _
    · rw [hgi, if_neg e] at hr ⊢
      rw [hb, if_neg e]
      rcases h.by1 v hv hr with e1 | ⟨e1, e2, e3, e4, e5⟩
      · exact .inl e1
      · have := hle (ga s.by_ v).f
        exact .inr ⟨e1, e2, e3, by omega, by omega⟩
  ·
    obtain ⟨k0, c0, u0, g1, g2⟩ := h.dep _ b1 hf
    have hnot : ∀ {k : Nat} {c : Int} {u : Nat}, Back s.by_ x.f k c u → Back (s.rlx x).by_ x.f k c u ∧ u ≠ x.t := fun g => by
      refine ⟨?_, fun e => by subst e; exact hroad g⟩
      rcases Back.turn2 hturn g with g | ⟨i, d, j, e, g, _⟩
      · exact g
      · exact (hroad g).elim
    obtain ⟨g3, g4⟩ := hnot g1
    have hroot : (ga (s.rlx x).by_ u0).l < 0 := by rw [hb, if_neg g4]; exact g2
    have hfrom : Back (s.rlx x).by_ x.t (k0 + 1) (x.c + c0) u0 := by
      have := Back.cons (b := (s.rlx x).by_) (v := x.t) (k := k0) (c := c0) (u := u0) (by rw [hb, if_pos rfl]; exact b5) (by rw [hb, if_pos rfl]; exact g3)
      rwa [hb, if_pos rfl] at this
    intro v hv hr
    by_cases e : v = x.t
    · subst e; exact ⟨_, _, _, hfrom, hroot⟩
    · rw [hgi, if_neg e] at hr
      obtain ⟨k, c, u, f1, f2⟩ := h.dep v hv hr
      rcases Back.turn2 hturn f1 with f | ⟨i, d, j, e', _, f, _⟩
      · by_cases e2 : u = x.t
        · subst e2; exact ⟨_, _, _, f.trans hfrom, hroot⟩
        · exact ⟨_, _, _, f, by rw [hb, if_neg e2]; exact f2⟩
      · exact ⟨_, _, _, f.trans hfrom, hroot⟩
def WMv (n : Nat) (D : Nat → Int) (s : BS) : Nat := (sumTo (fun v => gi s.cost v - D v) n).toNat
theorem VInv.less (h : VInv n as S D Dn again s) (hg : VG n as D) (hm : x ∈ as) (hf : gi s.cost x.f < free) (hc : s.can x) : WMv n D (s.rlx x) < WMv n D s := by
  obtain ⟨b1, b2, _⟩ := hg.ok x hm
  have h2 := h.relax (Dn' := Dn) hg hm hf hc
  have hgi : ∀ v, gi (s.rlx x).cost v = if v = x.t then gi s.cost x.f + x.c else gi s.cost v := fun v => gi_set (by rw [h.lc]; exact b2) _ v
  unfold BS.can at hc
  have h3 : sumTo (fun v => gi (s.rlx x).cost v - D v) n < sumTo (fun v => gi s.cost v - D v) n := sumTo_lt (u := x.t) (fun v _ => by
    rw [hgi]; split
    · rename_i e; subst e; omega
    · omega) b2 (by rw [hgi, if_pos rfl]; omega)
  have h4 : 0 ≤ sumTo (fun v => gi (s.rlx x).cost v - D v) n := sumTo_nonneg fun v hv => by have := h2.lo v hv; omega
  unfold WMv; omega
def afterV (D : Nat → Int) (s : BS) (v : Nat) : Int := if gi s.cost v < free then gi s.cost v else D v + free
theorem VInv.after (h : VInv n as S D (fun _ => True) false s) (hg : VG n as D) : Feas as (afterV D s) := fun x hx => by
  obtain ⟨b1, b2, b3, b4, b5, b6⟩ := hg.ok x hx
  have h1 := h.nov rfl x hx trivial
  unfold MW.afterV
  by_cases hf : gi s.cost x.f < free
  · have h2 := h.low hg b1 hf
    have h3 : gi s.cost x.t ≤ gi s.cost x.f + x.c := by
      have : ¬ s.can x := fun e => h1 ⟨hf, e⟩
      unfold BS.can at this; omega
    have h4 : gi s.cost x.t < free := by simp only [free]; omega
    rw [if_pos hf, if_pos h4]; exact h3
  · rw [if_neg hf]
    have h5 := hg.fe x hx
    have h6 := hg.d1 _ b1
    split
    · rename_i ht
      have := h.low hg b2 ht
      simp only [free]; omega
    · omega
theorem VInv.closed (h : VInv n as S D (fun _ => True) false s) (hg : VG n as D) : ∀ x ∈ as, gi s.cost x.f < free → gi s.cost x.t < free := fun x hx hf => by
  obtain ⟨b1, b2, b3, b4, b5, b6⟩ := hg.ok x hx
  have h1 := h.nov rfl x hx trivial
  have h2 := h.low hg b1 hf
  have : ¬ s.can x := fun e => h1 ⟨hf, e⟩
  unfold BS.can at this
  simp only [free] at *; omega
end Go.MW

namespace Go.MW
structure Tab (n : Nat) (M : Nat → Nat → Int) (es : List Arc) : Prop where
  numb : Numb es
  ok : ∀ x ∈ es, x.f < n ∧ x.t < n ∧ x.f ≠ x.t ∧ M x.f x.t = x.c ∧ x.c ≠ free
  all : ∀ a b, a < n → b < n → a ≠ b → M a b ≠ free → ∃ x ∈ es, x.f = a ∧ x.t = b
  inj : ∀ x ∈ es, ∀ y ∈ es, x.f = y.f → x.t = y.t → x = y
variable {n : Nat} {M F : Nat → Nat → Int} {es : List Arc} {ts lf : List Int} {x y : Arc} {a b : Nat}
theorem Tab.at (h : Tab n M es) (hx : x ∈ es) : es[x.l.toNat]? = some x ∧ x.l = (x.l.toNat : Int) := by
  obtain ⟨i, hi⟩ := List.getElem?_of_mem hx
  have := (h.numb i x hi).1
  rw [this, Int.toNat_natCast]; exact ⟨hi, rfl⟩
structure Corr (n : Nat) (es : List Arc) (ts : List Int) (F : Nat → Nat → Int) : Prop where
  len : ts.length = es.length
  arc : ∀ x ∈ es, gi ts x.l.toNat = F x.f x.t
  no : ∀ a b, a < n → b < n → (¬ ∃ x ∈ es, x.f = a ∧ x.t = b) → F a b = 0
theorem Corr.zero (n : Nat) (h : Tab n M es) : Corr n es (List.replicate es.length 0) (fun _ _ => 0) :=
  ⟨by simp, fun x hx => gi_replicate _ _ (by have := (h.at hx).1; exact (List.getElem?_eq_some_iff.1 this).1), fun _ _ _ _ _ => rfl⟩
theorem Corr.pos (h : Corr n es ts F) (ha : a < n) (hb : b < n) (hF : 0 < F a b) : ∃ x ∈ es, x.f = a ∧ x.t = b := by
  false_or_by_contra
  rename_i g
  have := h.no a b ha hb g
  omega
theorem resid_iff (hT : Tab n M es) (hC : Corr n es ts F) {y : Arc} : y ∈ resid es ts ↔ (y ∈ es ∨ ∃ x ∈ es, 0 < F x.f x.t ∧ y = x.back) := by
  rw [mem_resid hC.len.symm]
  constructor
  · rintro ⟨i, x, h1, h2⟩
    have hm := List.mem_of_getElem? h1
    have hi := (hT.numb i x h1).1
    have h3 := hC.arc x hm
    rw [hi, Int.toNat_natCast] at h3
    rcases h2 with rfl | ⟨h2, rfl⟩
    · exact .inl hm
    · exact .inr ⟨x, hm, by rw [← h3]; exact h2, rfl⟩
  · rintro (h | ⟨x, h1, h2, rfl⟩)
    · exact ⟨_, y, (hT.at h).1, .inl rfl⟩
    · exact ⟨_, x, (hT.at h1).1, .inr ⟨by rw [hC.arc x h1]; exact h2, rfl⟩⟩
theorem Tab.fwd_iff (hT : Tab n M es) (hx : x ∈ es) : fwd es x ∧ ¬ fwd es x.back := by
  obtain ⟨h1, h2⟩ := hT.at hx
  have h3 := (hT.ok x hx).2.2.1
  have hg : ga es x.l.toNat = x := by unfold ga List.getD; rw [h1]; rfl
  unfold fwd
  refine ⟨by rw [hg], ?_⟩
  show ¬ (ga es x.l.toNat).f = x.t
  rw [hg]; exact h3
def tset (F : Nat → Nat → Int) (a b : Nat) (z : Int) : Nat → Nat → Int := fun i j => if i = a ∧ j = b then z else F i j
theorem Corr.push (hT : Tab n M es) (hC : Corr n es ts F) (hy : y ∈ es ∨ ∃ x ∈ es, y = x.back) (m : Int) :
    (fwd es y → Corr n es (push es m ts y) (tset F y.f y.t (F y.f y.t + m))) ∧ (¬ fwd es y → Corr n es (push es m ts y) (tset F y.t y.f (F y.t y.f - m))) := by
  have key : ∀ x ∈ es, ∀ z, Corr n es (ts.set x.l.toNat z) (tset F x.f x.t z) := fun x hx z => by
    have h1 := (hT.at hx).1
    have hlt : x.l.toNat < ts.length := by rw [hC.len]; exact (List.getElem?_eq_some_iff.1 h1).1
    refine ⟨by rw [List.length_set]; exact hC.len, fun w hw => ?_, fun a b ha hb h => ?_⟩
    · rw [gi_set hlt]
      unfold tset
      by_cases e : w.f = x.f ∧ w.t = x.t
      · have := hT.inj w hw x hx e.1 e.2
        subst this
        rw [if_pos rfl, if_pos ⟨rfl, rfl⟩]
      · rw [if_neg e, if_neg, hC.arc w hw]
        intro e2
        have h2 := (hT.at hw).1
        rw [e2, h1] at h2
        cases h2
        exact e ⟨rfl, rfl⟩
    · unfold tset
      rw [if_neg, hC.no a b ha hb h]
      rintro ⟨rfl, rfl⟩
      exact h ⟨x, hx, rfl, rfl⟩
  rcases hy with h | ⟨x, hx, rfl⟩
  · have h3 := hT.fwd_iff h
    refine ⟨fun _ => ?_, fun h => (h h3.1).elim⟩
    unfold MW.push
    rw [if_pos h3.1]
    have := key y h (gi ts y.l.toNat + m)
    rwa [hC.arc y h] at this ⊢
  · have h3 := hT.fwd_iff hx
    refine ⟨fun h => (h3.2 h).elim, fun _ => ?_⟩
    unfold MW.push
    rw [if_neg h3.2]
    have := key x hx (gi ts x.l.toNat - m)
    have h4 := hC.arc x hx
    show Corr n es (ts.set x.l.toNat (gi ts x.l.toNat - m)) (tset F x.f x.t (F x.f x.t - m))
    rwa [h4] at this ⊢
end Go.MW

namespace Go.MW
structure VInit (n : Nat) (lf : List Int) (k : Nat) (s : BS) : Prop where
  lc : s.cost.length = n
  lb : s.by_.length = n
  c : ∀ v < k, gi s.cost v = if gi lf v < 0 then 0 else free
  b : ∀ v < n, ga s.by_ v = ⟨0, 0, 0, -1⟩
variable {n : Nat} {es as : List Arc} {wt D : Nat → Int} {ts lf : List Int} {s : BS} {k : Nat} {Dn : Arc → Prop}
theorem VInit.start (n : Nat) (lf : List Int) : VInit n lf 0 ⟨List.replicate n 0, List.replicate n ⟨0, 0, 0, -1⟩⟩ :=
  ⟨by simp, by simp, fun v hv => by omega, fun v hv => ga_replicate n _ hv⟩
theorem VInit.put (h : VInit n lf k s) (hk : k < n) {z : Int} (hz : z = if gi lf k < 0 then 0 else free) : VInit n lf (k + 1) ⟨s.cost.set k z, s.by_⟩ :=
  ⟨by simp [h.lc], h.lb, fun v hv => by
    rw [gi_set (by rw [h.lc]; exact hk)]
    by_cases e : v = k
    · subst e; rw [if_pos rfl, hz]
    · rw [if_neg e, h.c v (by omega)], h.b⟩
theorem VInit.inv (h : VInit n lf n s) (hg : VG n as D) : VInv n as (fun v => gi lf v < 0) D Dn true s where
  lc := h.lc
  lb := h.lb
  lo := fun v hv => by
    have := hg.d0 v
    have : free = 1000000000 := rfl
    rw [h.c v hv]; split <;> omega
  top := fun v hv => by
    have : free = 1000000000 := rfl
    rw [h.c v hv]; split <;> omega
  up := fun v hv hr => by
    rw [h.c v hv] at hr ⊢
    split
    · omega
    · rename_i e; rw [if_neg e] at hr; omega
  src := fun v hv hs => by rw [h.c v hv, if_pos hs]; omega
  by1 := fun v hv hr => by
    rw [h.c v hv] at hr
    by_cases e : gi lf v < 0
    · refine .inl ⟨by rw [h.b v hv], e, by rw [h.c v hv, if_pos e]⟩
    · rw [if_neg e] at hr; omega
  dep := fun v hv hr => by
    rw [h.c v hv] at hr
    by_cases e : gi lf v < 0
    · exact ⟨0, 0, v, .nil, by rw [h.b v hv]; simp⟩
    · rw [if_neg e] at hr; omega
  nov := fun e => by cases e
theorem resid_VG (hn : 0 < n) (hn1 : n ≤ 65) (ho : ∀ x ∈ es, x.f < n ∧ x.t < n ∧ -1400000 ≤ x.c ∧ x.c ≤ 1400000 ∧ 0 ≤ x.l ∧ x.f ≠ x.t) (hl : es.length = ts.length) (hf : ∃ p, Feas (resid es ts) p) : ∃ D, VG n (resid es ts) D := by
  obtain ⟨p, hp⟩ := hf
  have hok : ∀ x ∈ resid es ts, x.f < n ∧ x.t < n ∧ -1400000 ≤ x.c ∧ x.c ≤ 1400000 ∧ 0 ≤ x.l ∧ x.f ≠ x.t := fun x hx => by
    obtain ⟨i, y, h1, h2⟩ := (mem_resid hl).1 hx
    have h3 := ho y (List.mem_of_getElem? h1)
    rcases h2 with rfl | ⟨_, rfl⟩
    · exact h3
    · simp only [Arc.back]; omega
  obtain ⟨D, h1, h2, h3⟩ := hp.bounded (n := n) (C := 1400000) hn (by omega) fun x hx => by have := hok x hx; exact ⟨this.1, this.2.1, this.2.2.1⟩
  refine ⟨D, hn, hn1, hok, h1, h2, fun v hv => ?_⟩
  have := h3 v hv
  have h4 : (((n - 1 : Nat) : Int)) ≤ 64 := by omega
  omega
theorem VInv.none (h : VInv n (resid es ts) (fun v => gi lf v < 0) D (fun _ => True) false s) (hg : VG n (resid es ts) D) {to : Nat} (ht : gi s.cost to = free) : WayR n es ts lf [] to :=
  .inl ⟨rfl, fun v => gi s.cost v < free, fun v hv hs => by have := h.src v hv hs; simp only [free]; omega, h.closed hg, by dsimp only; rw [ht]; omega⟩
theorem VInv.back (h : VInv n (resid es ts) (fun v => gi lf v < 0) D (fun _ => True) false s) (hg : VG n (resid es ts) D) {to : Nat} (hto : to < n) (ht : gi s.cost to < free) (hp : 0 < gi lf to) :
    ∃ k c u, Back s.by_ to k c u ∧ (ga s.by_ u).l < 0 ∧ k < n ∧ 0 < k ∧ (∀ v, v < n → gi s.cost v < free → 0 ≤ (ga s.by_ v).l → (ga s.by_ v).f < n ∧ gi s.cost (ga s.by_ v).f < free) ∧ ∀ p, p = (trail s.by_ to k).reverse → WayP es ts lf n p u to := by
  have hstep : ∀ v, (v < n ∧ gi s.cost v < free) → 0 ≤ (ga s.by_ v).l → ga s.by_ v ∈ resid es ts ∧ (ga s.by_ v).t = v ∧ gi s.cost (ga s.by_ v).f + (ga s.by_ v).c ≤ gi s.cost v ∧ ((ga s.by_ v).f < n ∧ gi s.cost (ga s.by_ v).f < free) := fun v ⟨hv, hr⟩ hl => by
    rcases h.by1 v hv hr with ⟨e, _⟩ | ⟨_, e1, e2, e3, e4⟩
    · omega
    · exact ⟨e1, e2, e4, (hg.ok _ e1).1, e3⟩
  obtain ⟨k, c, u, h1, h2⟩ := h.dep to hto ht
  have hin : ∀ {v w : Nat} {k : Nat} {c : Int}, Back s.by_ v k c w → (v < n ∧ gi s.cost v < free) → (w < n ∧ gi s.cost w < free) := fun h => by
    induction h with
    | nil => exact id
    | cons hl t ih => exact fun hv => ih (hstep _ hv hl).2.2.2
  have hu := hin h1 ⟨hto, ht⟩
  have hSu : gi lf u < 0 := by
    rcases h.by1 u hu.1 hu.2 with ⟨_, e, _⟩ | ⟨e, _⟩
    · exact e
    · omega
  have hk : k < n := h1.short (A := fun v => v < n ∧ gi s.cost v < free) (fun v hv => hv.1) (fun v hv hl => (hstep v hv hl).2.2.2) h2 ⟨hto, ht⟩
  have hk0 : 0 < k := by
    cases h1 with
    | nil => omega
    | cons _ _ => omega
  refine ⟨k, c, u, h1, h2, hk, hk0, fun v hv hr hl => (hstep v ⟨hv, hr⟩ hl).2.2.2, fun p hp' => ?_⟩
  subst hp'
  refine ⟨?_, ?_, ?_, hu.1, hto, hSu, hp, afterV D s, h.after hg, ?_⟩
  · exact trail_chain (A := fun v => v < n ∧ gi s.cost v < free) (fun v hv hl => ⟨(hstep v hv hl).2.1, (hstep v hv hl).2.2.2⟩) h1 ⟨hto, ht⟩
  · intro x hx
    rw [List.mem_reverse] at hx
    exact trail_mem (A := fun v => v < n ∧ gi s.cost v < free) (B := fun x => x ∈ resid es ts) (fun v hv hl => ⟨(hstep v hv hl).1, (hstep v hv hl).2.2.2⟩) h1 ⟨hto, ht⟩ x hx
  · rw [List.map_reverse]
    have := trail_nodup (A := fun v => v < n ∧ gi s.cost v < free) (fun v hv hl => ⟨(hstep v hv hl).2.1, (hstep v hv hl).2.2.2⟩) h2 h1 ⟨hto, ht⟩
    exact (List.reverse_perm _).nodup_iff.2 this
  · intro x hx
    rw [List.mem_reverse] at hx
    have := trail_mem (A := fun v => v < n ∧ gi s.cost v < free) (B := fun x => x ∈ resid es ts ∧ gi s.cost x.f < free ∧ gi s.cost x.t < free ∧ gi s.cost x.f + x.c ≤ gi s.cost x.t) (fun v hv hl => by
      obtain ⟨g1, g2, g3, g4⟩ := hstep v hv hl
      exact ⟨⟨g1, g4.2, by rw [g2]; exact hv.2, by rw [g2]; exact g3⟩, g4⟩) h1 ⟨hto, ht⟩ x hx
    obtain ⟨g1, g2, g3, g4⟩ := this
    have g5 := h.after hg x g1
    unfold afterV at g5 ⊢
    rw [if_pos g2, if_pos g3] at g5 ⊢
    omega
end Go.MW

namespace Go.MW
theorem min_exists {S : Int → Prop} {B : Int} (h : ∃ m, S m) (hb : ∀ m, S m → B ≤ m) : ∃ m, S m ∧ ∀ k, S k → m ≤ k := by
  obtain ⟨m0, h0⟩ := h
  have key : ∀ (n : Nat) (m : Int), S m → m - B ≤ n → ∃ m, S m ∧ ∀ k, S k → m ≤ k := by
    intro n
    induction n with
    | zero => exact fun m hm hle => ⟨m, hm, fun k hk => by have := hb k hk; omega⟩
    | succ n ih =>
      intro m hm hle
      by_cases hx : ∃ k, S k ∧ k < m
      · obtain ⟨k, hk, hlt⟩ := hx
        exact ih k hk (by omega)
      · exact ⟨m, hm, fun k hk => Int.not_lt.1 fun hlt => hx ⟨k, hk, hlt⟩⟩
  exact key (m0 - B).toNat m0 h0 (by have := hb m0 h0; omega)
def Wk (es : List Arc) : Nat → List Nat → Nat → Int → Prop
  | i, [], j, c => ∃ x ∈ es, x.f = i ∧ x.t = j ∧ x.c = c
  | i, v :: L, j, c => ∃ x ∈ es, x.f = i ∧ x.t = v ∧ Wk es v L j (c - x.c)
variable {n : Nat} {es : List Arc}
theorem Wk.join {A : List Nat} : ∀ {i v j : Nat} {B : List Nat} {c d : Int}, Wk es i A v c → Wk es v B j d → Wk es i (A ++ v :: B) j (c + d) := by
  induction A with
  | nil =>
    rintro i v j B c d ⟨x, h1, h2, h3, h4⟩ h
    exact ⟨x, h1, h2, h3, by rw [h4, show c + d - c = d by omega]; exact h⟩
  | cons u A ih =>
    rintro i v j B c d ⟨x, h1, h2, h3, h4⟩ h
    exact ⟨x, h1, h2, h3, by rw [show c + d - x.c = c - x.c + d by omega]; exact ih h4 h⟩
theorem Wk.split {A : List Nat} : ∀ {i v j : Nat} {B : List Nat} {c : Int}, Wk es i (A ++ v :: B) j c → ∃ d, Wk es i A v d ∧ Wk es v B j (c - d) := by
  induction A with
  | nil =>
    rintro i v j B c ⟨x, h1, h2, h3, h4⟩
    exact ⟨x.c, ⟨x, h1, h2, h3, rfl⟩, h4⟩
  | cons u A ih =>
    rintro i v j B c ⟨x, h1, h2, h3, h4⟩
    obtain ⟨d, g1, g2⟩ := ih h4
    exact ⟨d + x.c, ⟨x, h1, h2, h3, by rw [show d + x.c - x.c = d by omega]; exact g1⟩, by rw [show c - (d + x.c) = c - x.c - d by omega]; exact g2⟩
theorem Wk.bd (hb : ∀ x ∈ es, -20000 ≤ x.c ∧ x.c ≤ 20000) {L : List Nat} : ∀ {i j : Nat} {c : Int}, Wk es i L j c → -(20000 * (L.length + 1 : Int)) ≤ c ∧ c ≤ 20000 * (L.length + 1 : Int) := by
  induction L with
  | nil =>
    rintro i j c ⟨x, h1, h2, h3, rfl⟩
    have := hb x h1
    simpa using this
  | cons v L ih =>
    rintro i j c ⟨x, h1, h2, h3, h4⟩
    have h5 := ih h4
    have := hb x h1
    simp only [List.length_cons]
    omega
theorem Wk.feas {p : Nat → Int} (hp : Feas es p) {L : List Nat} : ∀ {i j : Nat} {c : Int}, Wk es i L j c → p j - p i ≤ c := by
  induction L with
  | nil =>
    rintro i j c ⟨x, h1, rfl, rfl, rfl⟩
    have := hp x h1
    omega
  | cons v L ih =>
    rintro i j c ⟨x, h1, rfl, rfl, h4⟩
    have h5 := ih h4
    have := hp x h1
    omega
theorem Wk.simple : ∀ (m : Nat) {L : List Nat} {i j : Nat} {c : Int}, L.length ≤ m → Wk es i L j c → ∃ L' c', L'.Nodup ∧ (∀ v ∈ L', v ∈ L) ∧ Wk es i L' j c' := by
  intro m
  induction m with
  | zero =>
    intro L i j c hl h
    obtain rfl : L = [] := List.length_eq_zero_iff.1 (by omega)
    exact ⟨[], c, .nil, fun _ h => h, h⟩
  | succ m ih =>
    intro L i j c hl h
    by_cases hnd : L.Nodup
    · exact ⟨L, c, hnd, fun _ h => h, h⟩
    ·
      have key : ∀ L : List Nat, ¬ L.Nodup → ∃ A v B D, L = A ++ v :: (B ++ v :: D) := by
        intro L
        induction L with
        | nil => exact fun h => (h .nil).elim
        | cons v L ih =>
          intro h
          by_cases hv : v ∈ L
          · obtain ⟨B, D, rfl⟩ := List.append_of_mem hv
            exact ⟨[], v, B, D, rfl⟩
          · have : ¬ L.Nodup := fun g => h (List.nodup_cons.2 ⟨hv, g⟩)
            obtain ⟨A, u, B, D, rfl⟩ := ih this
            exact ⟨v :: A, u, B, D, rfl⟩
      obtain ⟨A, v, B, D, rfl⟩ := key L hnd
      obtain ⟨d, g1, g2⟩ := h.split
      obtain ⟨e, g3, g4⟩ := g2.split
      obtain ⟨L', c', k1, k2, k3⟩ := ih (L := A ++ v :: D) (by simp at hl ⊢; omega) (g1.join g4)
      refine ⟨L', c', k1, fun u hu => ?_, k3⟩
      have := k2 u hu
      simp only [List.mem_append, List.mem_cons] at this ⊢
      rcases this with h | h | h
      · exact .inl h
      · exact .inr (.inl h)
      · exact .inr (.inr (.inr (.inr h)))
theorem nodup_le : ∀ {m : Nat} {L : List Nat}, L.Nodup → (∀ v ∈ L, v < m) → L.length ≤ m
  | 0, L, _, hm => by
    cases L with
    | nil => simp
    | cons v L => have := hm v (.head _); omega
  | m + 1, L, h, hm => by
    by_cases hx : m ∈ L
    · have h1 := nodup_le (m := m) (h.erase m) fun v hv => by
        have h2 := (List.Nodup.mem_erase_iff h).1 hv
        have := hm v h2.2
        have := h2.1
        omega
      rw [List.length_erase_of_mem hx] at h1
      omega
    · have := nodup_le (m := m) h fun v hv => by
        have := hm v hv
        have : v ≠ m := fun e => hx (e ▸ hv)
        omega
      omega
theorem neg_cycle (hin : ∀ x ∈ es, x.f < n ∧ x.t < n ∧ x.f ≠ x.t ∧ -20000 ≤ x.c ∧ x.c ≤ 20000) (h : ¬ ∃ p, Feas es p) : ∃ i L c, i < n ∧ L.Nodup ∧ (∀ v ∈ L, v < n) ∧ c < 0 ∧ Wk es i L i c := by
  false_or_by_contra
  rename_i hno
  have hcy : ∀ i L c, i < n → L.Nodup → (∀ v ∈ L, v < n) → Wk es i L i c → 0 ≤ c := fun i L c h1 h2 h3 h4 => Int.not_lt.1 fun h5 => hno ⟨i, L, c, h1, h2, h3, h5, h4⟩
  let S : Nat → Int → Prop := fun v c => c = 0 ∨ ∃ i L, (i :: (L ++ [v])).Nodup ∧ (∀ u ∈ i :: L, u < n) ∧ Wk es i L v c
  have hmin : ∀ v, ∃ m, S v m ∧ ∀ k, S v k → m ≤ k := fun v => min_exists (B := -(20000 * (n + 1 : Int))) ⟨0, .inl rfl⟩ fun m hm => by
    rcases hm with rfl | ⟨i, L, h1, h2, h3⟩
    · omega
    · have h4 := (h3.bd fun x hx => (hin x hx).2.2.2).1
      have h5 : L.length ≤ n := nodup_le (List.nodup_append.1 (List.nodup_cons.1 h1).2).1 fun u hu => h2 u (.tail _ hu)
      omega
  have hp := fun v => Classical.choose_spec (hmin v)
  refine h ⟨fun v => Classical.choose (hmin v), fun x hx => ?_⟩
  obtain ⟨b1, b2, b3, b4, b5⟩ := hin x hx
  have hx1 : Wk es x.f [] x.t x.c := ⟨x, hx, rfl, rfl, rfl⟩
  have ht := (hp x.t).2
  show Classical.choose (hmin x.t) ≤ Classical.choose (hmin x.f) + x.c
  generalize hpf : Classical.choose (hmin x.f) = pf
  have hf := (hp x.f).1
  rw [hpf] at hf
  rcases hf with rfl | ⟨i, L, h1, h2, h3⟩
  · have := ht x.c (.inr ⟨x.f, [], by simpa using b3, fun u hu => by simp at hu; subst hu; exact b1, hx1⟩)
    omega
  · have h4 := h3.join hx1
    obtain ⟨n1, n2⟩ := List.nodup_cons.1 h1
    by_cases hm : x.t ∈ i :: (L ++ [x.f])
    · simp only [List.mem_cons, List.mem_append, List.not_mem_nil, or_false] at hm
      rcases hm with e | hm | e
      ·
        subst e
        have h5 := hcy x.t (L ++ [x.f]) _ b2 n2 (fun u hu => by
          simp only [List.mem_append, List.mem_cons, List.not_mem_nil, or_false] at hu
          rcases hu with hu | rfl
          · exact h2 u (.tail _ hu)
          · exact b1) h4
        have := ht 0 (.inl rfl)
        omega
      · obtain ⟨A, B, rfl⟩ := List.append_of_mem hm
        obtain ⟨d, g1, g2⟩ := h3.split
        have n3 := n2
        rw [List.append_assoc, List.cons_append] at n3
        obtain ⟨m1, m2, m3⟩ := List.nodup_append.1 n3
        have h5 := ht d (.inr ⟨i, A, List.nodup_cons.2 ⟨fun hi => n1 (by
            simp only [List.mem_append, List.mem_cons, List.not_mem_nil, or_false] at hi ⊢
            rcases hi with hi | hi
            · exact .inl (.inl hi)
            · exact .inl (.inr (.inl hi))), List.nodup_append.2 ⟨m1, by simp, fun u hu v hv => by
              simp only [List.mem_cons, List.not_mem_nil, or_false] at hv
              subst hv
              exact m3 u hu x.t (.head _)⟩⟩, fun u hu => h2 u (by
            simp only [List.mem_append, List.mem_cons] at hu ⊢
            rcases hu with hu | hu
            · exact .inl hu
            · exact .inr (.inl hu)), g1⟩)
        have h6 := hcy x.t (B ++ [x.f]) _ b2 (List.nodup_cons.1 m2).2 (fun u hu => by
          simp only [List.mem_append, List.mem_cons, List.not_mem_nil, or_false] at hu
          rcases hu with hu | rfl
          · exact h2 u (by simp only [List.mem_append, List.mem_cons]; exact .inr (.inr (.inr hu)))
          · exact b1) (g2.join hx1)
        omega
      · exact (b3 e.symm).elim
    · have h5 := ht _ (.inr ⟨i, L ++ [x.f], by
          rw [← List.cons_append]
          refine List.nodup_append.2 ⟨h1, by simp, fun u hu v hv => ?_⟩
          simp only [List.mem_cons, List.not_mem_nil, or_false] at hv
          subst hv
          rintro rfl
          exact hm hu, fun u hu => by
          simp only [List.mem_cons, List.mem_append, List.not_mem_nil, or_false] at hu
          rcases hu with rfl | hu | rfl
          · exact h2 _ (.head _)
          · exact h2 u (.tail _ hu)
          · exact b1, h4⟩)
      omega
structure WayI (n : Nat) (es : List Arc) (m : Nat) (Dn : Nat → Nat → Prop) (T : Nat → Nat → Int) : Prop where
  lo : ∀ i j, i < n → j < n → T i j ≠ free → ∀ p, Feas es p → p j - p i ≤ T i j
  dg : ∀ i, i < n → T i i ≤ 0
  cl : ∀ i j, i < n → j < n → -2560000 ≤ T i j
  up : ∀ i j, i < n → j < n → T i j ≠ free → T i j ≤ 3000000
  upm : ∀ i, i < n → (T i m ≠ free → T i m ≤ 1400000) ∧ (T m i ≠ free → T m i ≤ 1400000)
  dom : ∀ i j, i < n → j < n → ∀ L c, L.Nodup → (∀ v ∈ L, v < m ∨ (v = m ∧ Dn i j)) → L.length ≤ 100 → Wk es i L j c → T i j ≤ c
  wit : ∀ i j, i < n → j < n → T i j ≠ free → i = j ∨ ∃ L c, (∀ v ∈ L, v ≤ m) ∧ Wk es i L j c
theorem WayI.step {m : Nat} {Dn Dn' : Nat → Nat → Prop} {T : Nat → Nat → Int} (h : WayI n es m Dn T) (hb : ∀ x ∈ es, -20000 ≤ x.c ∧ x.c ≤ 20000) (hm : m < n) {a b : Nat} (ha : a < n) (hbn : b < n) (hD : ∀ i j, Dn' i j → Dn i j ∨ (i = a ∧ j = b)) (h1 : T a m ≠ free) (h2 : T m b ≠ free) :
    WayI n es m Dn' (tset T a b (max (min (T a b) (T a m + T m b)) (-2560000))) := by
  have hu1 := ((h.upm a ha).1 h1)
  have hu2 := ((h.upm b hbn).2 h2)
  have hc1 := h.cl a m ha hm
  have hc2 := h.cl m b hm hbn
  have hle : ∀ i j, i < n → j < n → tset T a b (max (min (T a b) (T a m + T m b)) (-2560000)) i j ≤ T i j := fun i j hi hj => by
    unfold tset
    split
    · rename_i e; obtain ⟨rfl, rfl⟩ := e
      have := h.cl i j hi hj
      omega
    · omega
  refine ⟨fun i j hi hj hne p hp => ?_, fun i hi => ?_, fun i j hi hj => ?_, fun i j hi hj hne => ?_, fun i hi => ⟨fun hne => ?_, fun hne => ?_⟩, fun i j hi hj L c hnd hL hlen hw => ?_, fun i j hi hj hne => ?_⟩
  · unfold tset at hne ⊢
    split
    · rename_i e; obtain ⟨rfl, rfl⟩ := e
      have g1 := h.lo i m hi hm h1 p hp
      have g2 := h.lo m j hm hj h2 p hp
      by_cases g : T i j = free
      · rw [g]; simp only [free]; omega
      · have := h.lo i j hi hj g p hp
        omega
    · rename_i e; rw [if_neg e] at hne; exact h.lo i j hi hj hne p hp
  · exact Int.le_trans (hle i i hi hi) (h.dg i hi)
  · unfold tset
    split
    · omega
    · exact h.cl i j hi hj
  · unfold tset at hne ⊢
    split
    · omega
    · rename_i e; rw [if_neg e] at hne; exact h.up i j hi hj hne
  · unfold tset at hne ⊢
    split
    · rename_i e; obtain ⟨rfl, rfl⟩ := e; have := (h.upm i hi).1 h1; have := h.dg m hm; omega
    · rename_i e; rw [if_neg e] at hne; exact (h.upm i hi).1 hne
  · unfold tset at hne ⊢
    split
    · rename_i e; obtain ⟨rfl, rfl⟩ := e; have := (h.upm i hi).2 h2; have := h.dg m hm; omega
    · rename_i e; rw [if_neg e] at hne; exact (h.upm i hi).2 hne
  · have hbd := (hw.bd hb).1
    by_cases e : i = a ∧ j = b
    · obtain ⟨rfl, rfl⟩ := e
      unfold tset
      rw [if_pos ⟨rfl, rfl⟩]
      by_cases hmL : m ∈ L
      · obtain ⟨A, B, rfl⟩ := List.append_of_mem hmL
        obtain ⟨d, g1, g2⟩ := hw.split
        obtain ⟨m1, m2, m3⟩ := List.nodup_append.1 hnd
        obtain ⟨m4, m5⟩ := List.nodup_cons.1 m2
        simp only [List.length_append, List.length_cons] at hlen
        have k1 := h.dom i m hi hm A d m1 (fun v hv => by
          rcases hL v (by simp [hv]) with g | ⟨g, _⟩
          · exact .inl g
          · exact (m3 v hv m (.head _) g).elim) (by omega) g1
        have k2 := h.dom m j hm hj B (c - d) m5 (fun v hv => by
          rcases hL v (by simp [hv]) with g | ⟨g, _⟩
          · exact .inl g
          · subst g; exact (m4 hv).elim) (by omega) g2
        simp only [List.length_append, List.length_cons] at hbd
        omega
      · have := h.dom i j hi hj L c hnd (fun v hv => by
          rcases hL v hv with g | ⟨g, _⟩
          · exact .inl g
          · subst g; exact (hmL hv).elim) hlen hw
        omega
    · refine Int.le_trans (hle i j hi hj) (h.dom i j hi hj L c hnd (fun v hv => ?_) hlen hw)
      rcases hL v hv with g | ⟨g, g2⟩
      · exact .inl g
      · rcases hD i j g2 with g3 | g3
        · exact .inr ⟨g, g3⟩
        · exact (e g3).elim
  · by_cases e : i = a ∧ j = b
    · obtain ⟨rfl, rfl⟩ := e
      rcases h.wit i m hi hm h1 with rfl | ⟨A, c, k1, k2⟩
      · exact h.wit i j hi hj h2
      · rcases h.wit m j hm hj h2 with rfl | ⟨B, d, k3, k4⟩
        · exact h.wit i m hi hj h1
        · refine .inr ⟨A ++ m :: B, c + d, fun v hv => ?_, k2.join k4⟩
          simp only [List.mem_append, List.mem_cons] at hv
          rcases hv with hv | rfl | hv
          · exact k1 v hv
          · exact Nat.le_refl _
          · exact k3 v hv
    · unfold tset at hne
      rw [if_neg e] at hne
      exact h.wit i j hi hj hne
theorem WayI.skip {m : Nat} {Dn Dn' : Nat → Nat → Prop} {T : Nat → Nat → Int} (h : WayI n es m Dn T) (hb : ∀ x ∈ es, -20000 ≤ x.c ∧ x.c ≤ 20000) (hm : m < n) {P : Nat → Nat → Prop} (hD : ∀ i j, Dn' i j → Dn i j ∨ P i j) (h1 : ∀ i j, i < n → j < n → P i j → T i m = free ∨ T m j = free) : WayI n es m Dn' T :=
  ⟨h.lo, h.dg, h.cl, h.up, h.upm, fun i j hi hj L c hnd hL hlen hw => by
    by_cases hmL : m ∈ L
    · rcases hL m hmL with g | ⟨_, g⟩
      · omega
      · rcases hD i j g with g2 | g2
        · exact h.dom i j hi hj L c hnd (fun v hv => by
            rcases hL v hv with k | ⟨k, _⟩
            · exact .inl k
            · exact .inr ⟨k, g2⟩) hlen hw
        · obtain ⟨A, B, rfl⟩ := List.append_of_mem hmL
          obtain ⟨d, g3, g4⟩ := hw.split
          obtain ⟨m1, m2, m3⟩ := List.nodup_append.1 hnd
          obtain ⟨m4, m5⟩ := List.nodup_cons.1 m2
          simp only [List.length_append, List.length_cons] at hlen
          have k1 := h.dom i m hi hm A d m1 (fun v hv => by
            rcases hL v (by simp [hv]) with g | ⟨g, _⟩
            · exact .inl g
            · exact (m3 v hv m (.head _) g).elim) (by omega) g3
          have k2 := h.dom m j hm hj B (c - d) m5 (fun v hv => by
            rcases hL v (by simp [hv]) with g | ⟨g, _⟩
            · exact .inl g
            · subst g; exact (m4 hv).elim) (by omega) g4
          have k3 := (g3.bd hb).2
          have k4 := (g4.bd hb).2
          rcases h1 i j hi hj g2 with e | e
          · rw [e] at k1; simp only [free] at k1; omega
          · rw [e] at k2; simp only [free] at k2; omega
    · exact h.dom i j hi hj L c hnd (fun v hv => by
        rcases hL v hv with k | ⟨k, _⟩
        · exact .inl k
        · subst k; exact (hmL hv).elim) hlen hw, h.wit⟩
theorem WayI.small {m : Nat} {T : Nat → Nat → Int} (h : WayI n es m (fun _ _ => True) T) (hb : ∀ x ∈ es, -20000 ≤ x.c ∧ x.c ≤ 20000) (hm : m < 65) {i j : Nat} (hi : i < n) (hj : j < n) (hne : T i j ≠ free) : T i j ≤ 1400000 := by
  rcases h.wit i j hi hj hne with rfl | ⟨L, c, h1, h2⟩
  · have := h.dg i hi; omega
  · obtain ⟨L', c', k1, k2, k3⟩ := Wk.simple L.length (Nat.le_refl _) h2
    have k4 : L'.length ≤ m + 1 := nodup_le k1 fun v hv => by have := h1 v (k2 v hv); omega
    have k5 := h.dom i j hi hj L' c' k1 (fun v hv => by have := h1 v (k2 v hv); by_cases e : v = m; exact .inr ⟨e, trivial⟩; exact .inl (by omega)) (by omega) k3
    have k6 := (k3.bd hb).2
    omega
theorem WayI.next {m : Nat} {T : Nat → Nat → Int} (h : WayI n es m (fun _ _ => True) T) (hb : ∀ x ∈ es, -20000 ≤ x.c ∧ x.c ≤ 20000) (hm : m + 1 < n) (hn : n ≤ 65) : WayI n es (m + 1) (fun _ _ => False) T :=
  ⟨h.lo, h.dg, h.cl, h.up, fun i hi => ⟨fun hne => h.small hb (by omega) hi hm hne, fun hne => h.small hb (by omega) hm hi hne⟩, fun i j hi hj L c hnd hL hlen hw => h.dom i j hi hj L c hnd (fun v hv => by
    rcases hL v hv with g | ⟨_, g⟩
    · by_cases e : v = m
      · exact .inr ⟨e, trivial⟩
      · exact .inl (by omega)
    · exact g.elim) hlen hw, fun i j hi hj hne => by
    rcases h.wit i j hi hj hne with g | ⟨L, c, g1, g2⟩
    · exact .inl g
    · exact .inr ⟨L, c, fun v hv => by have := g1 v hv; omega, g2⟩⟩
structure WaysT (n : Nat) (es : List Arc) (T : Nat → Nat → Int) : Prop where
  lo : ∀ i j, i < n → j < n → T i j ≠ free → ∀ p, Feas es p → p j - p i ≤ T i j
  dg : ∀ i, i < n → T i i ≤ 0
  cl : ∀ i j, i < n → j < n → -2560000 ≤ T i j
  up : ∀ i j, i < n → j < n → T i j ≠ free → T i j ≤ 1400000
  dom : ∀ i j, i < n → j < n → ∀ L c, L.Nodup → (∀ v ∈ L, v < n) → Wk es i L j c → T i j ≤ c
theorem WayI.done {m : Nat} {T : Nat → Nat → Int} (h : WayI n es m (fun _ _ => True) T) (hb : ∀ x ∈ es, -20000 ≤ x.c ∧ x.c ≤ 20000) (hm : n = m + 1) (hn : n ≤ 65) : WaysT n es T :=
  ⟨h.lo, h.dg, h.cl, fun i j hi hj hne => h.small hb (by omega) hi hj hne, fun i j hi hj L c hnd hL hw => h.dom i j hi hj L c hnd (fun v hv => by
    have := hL v hv
    by_cases e : v = m
    · exact .inr ⟨e, trivial⟩
    · exact .inl (by omega)) (by have := nodup_le hnd hL; omega) hw⟩
variable {T : Nat → Nat → Int}
theorem WaysT.sound (h : WaysT n es T) (hin : ∀ x ∈ es, x.f < n ∧ x.t < n ∧ x.f ≠ x.t ∧ -20000 ≤ x.c ∧ x.c ≤ 20000) : (∃ p, Feas es p) ↔ ∀ i, i < n → ¬ T i i < 0 := by
  constructor
  · rintro ⟨p, hp⟩ i hi hlt
    have := h.lo i i hi hi (by simp only [free]; omega) p hp
    omega
  · intro hd
    false_or_by_contra
    rename_i hno
    obtain ⟨i, L, c, h1, h2, h3, h4, h5⟩ := neg_cycle hin hno
    have := h.dom i i h1 h1 L c h2 h3 h5
    exact hd i h1 (by omega)
theorem WaysT.feas (h : WaysT n es T) (hin : ∀ x ∈ es, x.f < n ∧ x.t < n ∧ x.f ≠ x.t ∧ -20000 ≤ x.c ∧ x.c ≤ 20000) {fs : List Arc} (hT : Tab n T fs) {p : Nat → Int} : Feas fs p ↔ Feas es p := by
  constructor
  · intro hp x hx
    obtain ⟨b1, b2, b3, b4, b5⟩ := hin x hx
    have h1 := h.dom x.f x.t b1 b2 [] x.c .nil (fun _ h => by cases h) ⟨x, hx, rfl, rfl, rfl⟩
    obtain ⟨y, hy, e1, e2⟩ := hT.all x.f x.t b1 b2 b3 (by simp only [free]; omega)
    have h2 := hp y hy
    have h3 := (hT.ok y hy).2.2.2.1
    rw [e1, e2] at h2 h3
    omega
  · intro hp x hx
    obtain ⟨b1, b2, b3, b4, b5⟩ := hT.ok x hx
    have := h.lo x.f x.t b1 b2 (by rw [b4]; exact b5) p hp
    omega
theorem WaysT.opt (h : WaysT n es T) (hin : ∀ x ∈ es, x.f < n ∧ x.t < n ∧ x.f ≠ x.t ∧ -20000 ≤ x.c ∧ x.c ≤ 20000) {fs : List Arc} (hT : Tab n T fs) {wt : Nat → Int} {m : Int} : OptS fs wt n m ↔ OptS es wt n m := by
  unfold OptS
  simp only [h.feas hin hT]
theorem WaysT.open (h : WaysT n es T) (hin : ∀ x ∈ es, x.f < n ∧ x.t < n ∧ x.f ≠ x.t ∧ -20000 ≤ x.c ∧ x.c ≤ 20000) {fs : List Arc} (hT : Tab n T fs) {wt : Nat → Int} (ho : OpenS fs wt n) : OpenS es wt n := by
  obtain ⟨q, q1, q2, q3⟩ := ho
  refine ⟨q, q1, fun x hx => ?_, q3⟩
  obtain ⟨b1, b2, b3, b4, b5⟩ := hin x hx
  have h1 := h.dom x.f x.t b1 b2 [] x.c .nil (fun _ h => by cases h) ⟨x, hx, rfl, rfl, rfl⟩
  obtain ⟨y, hy, e1, e2⟩ := hT.all x.f x.t b1 b2 b3 (by simp only [free]; omega)
  have h2 := q2 y hy
  rwa [e1, e2] at h2
theorem WaysT.low (h : WaysT n es T) (hn : 0 < n) (hn1 : n ≤ 65) (hin : ∀ x ∈ es, x.f < n ∧ x.t < n ∧ x.f ≠ x.t ∧ -20000 ≤ x.c ∧ x.c ≤ 20000) (hp : ∃ p, Feas es p) {i j : Nat} (hi : i < n) (hj : j < n) (hne : T i j ≠ free) : -1400000 ≤ T i j := by
  obtain ⟨p, hp⟩ := hp
  obtain ⟨D, h1, h2, h3⟩ := hp.bounded (n := n) (C := 20000) hn (by omega) fun x hx => by have := hin x hx; exact ⟨this.1, this.2.1, this.2.2.2.1⟩
  have h4 := h.lo i j hi hj hne D h1
  have h5 := h2 i
  have h6 := h3 j hj
  have h7 : (((n - 1 : Nat) : Int)) ≤ 64 := by omega
  omega
structure WayB (n : Nat) (es : List Arc) (k : Nat) (T : Nat → Nat → Int) : Prop where
  dg : ∀ i, i < n → T i i = 0
  le : ∀ (i : Nat) (x : Arc), i < k → es[i]? = some x → T x.f x.t ≤ x.c
  of : ∀ i j, i < n → j < n → i ≠ j → T i j = free ∨ ∃ x ∈ es, x.f = i ∧ x.t = j ∧ x.c = T i j
theorem WayB.step {k : Nat} {x : Arc} (h : WayB n es k T) (hin : ∀ x ∈ es, x.f < n ∧ x.t < n ∧ x.f ≠ x.t ∧ -20000 ≤ x.c ∧ x.c ≤ 20000) (hx : es[k]? = some x) : WayB n es (k + 1) (tset T x.f x.t (min (T x.f x.t) x.c)) := by
  have hm := List.mem_of_getElem? hx
  obtain ⟨b1, b2, b3, b4, b5⟩ := hin x hm
  refine ⟨fun i hi => ?_, fun i y hi hy => ?_, fun i j hi hj hij => ?_⟩
  · unfold tset; rw [if_neg (by omega)]; exact h.dg i hi
  · unfold tset
    by_cases e : y.f = x.f ∧ y.t = x.t
    · rw [if_pos e]
      by_cases e2 : i = k
      · subst e2; rw [hx] at hy; cases hy; omega
      · have := h.le i y (by omega) hy
        rw [e.1, e.2] at this; omega
    · rw [if_neg e]
      by_cases e2 : i = k
      · subst e2; rw [hx] at hy; cases hy; exact (e ⟨rfl, rfl⟩).elim
      · exact h.le i y (by omega) hy
  · unfold tset
    split
    · rename_i e
      rcases h.of x.f x.t b1 b2 b3 with g | ⟨y, g1, g2, g3, g4⟩
      · refine .inr ⟨x, hm, e.1.symm, e.2.symm, ?_⟩
        rw [g]; simp only [free]; omega
      · by_cases hle : T x.f x.t ≤ x.c
        · exact .inr ⟨y, g1, by rw [g2, e.1], by rw [g3, e.2], by omega⟩
        · exact .inr ⟨x, hm, e.1.symm, e.2.symm, by omega⟩
    · exact h.of i j hi hj hij
theorem WayB.go (h : WayB n es es.length T) (hin : ∀ x ∈ es, x.f < n ∧ x.t < n ∧ x.f ≠ x.t ∧ -20000 ≤ x.c ∧ x.c ≤ 20000) (hn : 0 < n) : WayI n es 0 (fun _ _ => False) T := by
  have hof : ∀ i j, i < n → j < n → T i j ≠ free → i = j ∨ ∃ x ∈ es, x.f = i ∧ x.t = j ∧ x.c = T i j := fun i j hi hj hne => by
    by_cases e : i = j
    · exact .inl e
    · rcases h.of i j hi hj e with g | g
      · exact (hne g).elim
      · exact .inr g
  have hup : ∀ i j, i < n → j < n → T i j ≠ free → T i j ≤ 20000 := fun i j hi hj hne => by
    rcases hof i j hi hj hne with rfl | ⟨x, g1, g2, g3, g4⟩
    · have := h.dg i hi; omega
    · have := hin x g1; omega
  refine ⟨fun i j hi hj hne p hp => ?_, fun i hi => by rw [h.dg i hi]; omega, fun i j hi hj => ?_, fun i j hi hj hne => by have := hup i j hi hj hne; omega, fun i hi => ⟨fun hne => by have := hup i 0 hi hn hne; omega, fun hne => by have := hup 0 i hn hi hne; omega⟩, fun i j hi hj L c hnd hL hlen hw => ?_, fun i j hi hj hne => ?_⟩
  · rcases hof i j hi hj hne with rfl | ⟨x, g1, g2, g3, g4⟩
    · rw [h.dg i hi]; omega
    · have := hp x g1
      rw [g2, g3, g4] at this; omega
  · by_cases e : T i j = free
    · rw [e]; simp only [free]; omega
    · rcases hof i j hi hj e with rfl | ⟨x, g1, g2, g3, g4⟩
      · rw [h.dg i hi]; omega
      · have := hin x g1; omega
  · cases L with
    | nil =>
      obtain ⟨x, g1, g2, g3, g4⟩ := hw
      obtain ⟨k, hk⟩ := List.getElem?_of_mem g1
      have := h.le k x (List.getElem?_eq_some_iff.1 hk).1 hk
      rw [g2, g3, g4] at this; exact this
    | cons v L =>
      rcases hL v (.head _) with g | ⟨_, g⟩
      · omega
      · exact g.elim
  · rcases hof i j hi hj hne with g | ⟨x, g1, g2, g3, g4⟩
    · exact .inl g
    · exact .inr ⟨[], x.c, ⟨fun _ h => (by cases h), x, g1, g2, g3, rfl⟩⟩
end Go.MW

namespace Go.MW
variable {n : Nat} {es : List Arc} {wt : Nat → Int} {ts lf : List Int} {D : Nat → Int} {s : BS}
theorem VInv.ends {as : List Arc} {S : Nat → Prop} (hg : VG n as D) : ∀ (m : Nat) {Dn : Arc → Prop} {again : Bool} {s : BS}, VInv n as S D Dn again s → WMv n D s ≤ m → ∃ s', VInv n as S D (fun _ => True) false s' := by
  intro m
  induction m with
  | zero =>
    intro Dn again s h hm
    by_cases hx : ∃ x ∈ as, gi s.cost x.f < free ∧ s.can x
    · obtain ⟨x, h1, h2, h3⟩ := hx
      have := h.less hg h1 h2 h3
      omega
    · exact ⟨s, h.lc, h.lb, h.lo, h.top, h.up, h.src, h.by1, h.dep, fun _ x h1 _ h2 => hx ⟨x, h1, h2⟩⟩
  | succ m ih =>
    intro Dn again s h hm
    by_cases hx : ∃ x ∈ as, gi s.cost x.f < free ∧ s.can x
    · obtain ⟨x, h1, h2, h3⟩ := hx
      have := h.less hg h1 h2 h3
      exact ih (h.relax (Dn' := Dn) hg h1 h2 h3) (by omega)
    · exact ⟨s, h.lc, h.lb, h.lo, h.top, h.up, h.src, h.by1, h.dep, fun _ x h1 _ h2 => hx ⟨x, h1, h2⟩⟩
def ArcsC (es : List Arc) (n : Nat) : Prop := ∀ x ∈ es, x.f < n ∧ x.t < n ∧ -1400000 ≤ x.c ∧ x.c ≤ 1400000 ∧ 0 ≤ x.l ∧ x.f ≠ x.t
theorem way_exists (hn : 0 < n) (hn1 : n ≤ 65) (ho : ArcsC es n) (h : FInv n es wt ts lf) {to : Nat} (hto : to < n) (hp : 0 < gi lf to) : (∃ R : Nat → Prop, (∀ v < n, gi lf v < 0 → R v) ∧ (∀ x ∈ resid es ts, R x.f → R x.t) ∧ ¬ R to) ∨ ∃ p u, p.length < n ∧ WayP es ts lf n p u to := by
  obtain ⟨D, hg⟩ := resid_VG hn hn1 ho h.lt.symm h.fe
  have hinit : VInit n lf n ⟨(List.range n).map fun v => if gi lf v < 0 then 0 else free, List.replicate n ⟨0, 0, 0, -1⟩⟩ :=
    ⟨by simp, by simp, fun v hv => by
      by_cases e : gi lf v < 0 <;> simp only [gi, List.getD] at e ⊢ <;> simp [hv, e], fun v hv => ga_replicate n _ hv⟩
  obtain ⟨s, hs⟩ := VInv.ends hg _ (hinit.inv (Dn := fun _ => False) hg) (Nat.le_refl _)
  by_cases ht : gi s.cost to < free
  · obtain ⟨k, c, u, h1, h2, h3, h4, h5, h6⟩ := hs.back hg hto ht hp
    exact .inr ⟨_, u, by rw [List.length_reverse, trail_length]; exact h3, h6 _ rfl⟩
  · refine .inl ⟨fun v => gi s.cost v < free, fun v hv hl => by have := hs.src v hv hl; simp only [free]; omega, hs.closed hg, ht⟩
theorem flow_exists (hn : 0 < n) (hn1 : n ≤ 65) (ho : ArcsC es n) (hN : Numb es) (h0 : sumTo wt n = 0) : ∀ (m : Nat) {ts lf : List Int}, FInv n es wt ts lf → (rem n lf).toNat ≤ m → (∃ ts, FlowOk n es wt ts) ∨ OpenS es wt n := by
  have hin : ∀ x ∈ es, x.f < n ∧ x.t < n := fun x hx => by have := ho x hx; omega
  intro m
  induction m with
  | zero =>
    intro ts lf h hm
    have h3 : 0 ≤ rem n lf := sumTo_nonneg fun v _ => by omega
    by_cases hx : ∃ v, v < n ∧ 0 < gi lf v
    · obtain ⟨v, hv, hl⟩ := hx
      rcases way_exists hn hn1 ho h hv hl with ⟨R, g1, g2, g3⟩ | ⟨p, u, g1, g2⟩
      · exact .inr (h.open hin g1 g2 hv g3 hl)
      · have g4 := h.send hN g2 (by omega)
        have : 0 ≤ rem n (lfTo lf (much es ts lf p u v) u v) := sumTo_nonneg fun v _ => by omega
        omega
    · exact .inl ⟨ts, h.ok hin h0 fun v hv => Int.not_lt.1 fun hl => hx ⟨v, hv, hl⟩⟩
  | succ m ih =>
    intro ts lf h hm
    by_cases hx : ∃ v, v < n ∧ 0 < gi lf v
    · obtain ⟨v, hv, hl⟩ := hx
      rcases way_exists hn hn1 ho h hv hl with ⟨R, g1, g2, g3⟩ | ⟨p, u, g1, g2⟩
      · exact .inr (h.open hin g1 g2 hv g3 hl)
      · have g4 := h.send hN g2 (by omega)
        have : 0 ≤ rem n (lfTo lf (much es ts lf p u v) u v) := sumTo_nonneg fun v _ => by omega
        exact ih g4.1 (by omega)
    · exact .inl ⟨ts, h.ok hin h0 fun v hv => Int.not_lt.1 fun hl => hx ⟨v, hv, hl⟩⟩
variable {M F : Nat → Nat → Int}
def cell (M F : Nat → Nat → Int) (a b : Nat) : Int := if 0 < F a b then F a b * M a b else 0
end Go.MW

namespace Go.MW
theorem pigeon : ∀ (n : Nat) (f : Nat → Nat), (∀ i, i ≤ n → f i < n) → ∃ i j, i < j ∧ j ≤ n ∧ f i = f j
  | 0, f, h => absurd (h 0 (Nat.le_refl 0)) (by omega)
  | n + 1, f, h => by
    by_cases hc : ∃ i, i ≤ n ∧ f i = f (n + 1)
    · obtain ⟨i, h1, h2⟩ := hc
      exact ⟨i, n + 1, by omega, by omega, h2⟩
    · have hne : ∀ i, i ≤ n → f i ≠ f (n + 1) := fun i hi e => hc ⟨i, hi, e⟩
      obtain ⟨i, j, h1, h2, h3⟩ := pigeon n (fun i => if f i = n then f (n + 1) else f i) (fun i hi => by
        have h4 := h i (by omega)
        have h5 := h (n + 1) (by omega)
        have h6 := hne i hi
        split <;> omega)
      refine ⟨i, j, h1, by omega, ?_⟩
      have h4 := hne i (by omega)
      have h5 := hne j (by omega)
      split at h3 <;> split at h3 <;> omega
def parK (b : List Arc) (v : Nat) : Nat → Nat
  | 0 => v
  | k + 1 => (ga b (parK b v k)).f
variable {b : List Arc} {n v : Nat}
theorem parK_add (b : List Arc) (v i : Nat) : ∀ j, parK b v (i + j) = parK b (parK b v i) j
  | 0 => rfl
  | j + 1 => by
    show (ga b (parK b v (i + j))).f = _
    rw [parK_add b v i j]; rfl
theorem parK_lt (h : ∀ v < n, (ga b v).f < n) (hv : v < n) : ∀ k, parK b v k < n
  | 0 => hv
  | k + 1 => h _ (parK_lt h hv k)
theorem parK_round (h : ∀ v < n, (ga b v).f < n) (hv : v < n) {m : Nat} (hm : n ≤ m) : ∃ p, 1 ≤ p ∧ p ≤ n ∧ parK b (parK b v m) p = parK b v m := by
  obtain ⟨i, j, h1, h2, h3⟩ := pigeon n (parK b v) (fun i _ => parK_lt h hv i)
  refine ⟨j - i, by omega, by omega, ?_⟩
  have e : parK b v m = parK b (parK b v i) (m - i) := by rw [← parK_add, show i + (m - i) = m by omega]
  have e2 : parK b v (m + (j - i)) = parK b (parK b v j) (m - i) := by rw [← parK_add, show j + (m - i) = m + (j - i) by omega]
  rw [← parK_add, e2, ← h3, ← e]
def idxTo (b : List Arc) (z : Nat) (k : Nat) : List Int := (List.range k).map fun i => (ga b (parK b z i)).l
theorem idxTo_succ (b : List Arc) (z k : Nat) : idxTo b z (k + 1) = idxTo b z k ++ [(ga b (parK b z k)).l] := by simp [idxTo, List.range_succ]
theorem idxTo_length (b : List Arc) (z k : Nat) : (idxTo b z k).length = k := by simp [idxTo]
def TurnedI (l L : List Int) (i : Nat) : Prop := L.length = l.length ∧ ∀ k < l.length, gi L k = if k < i ∨ l.length - i ≤ k then gi l (l.length - 1 - k) else gi l k
theorem TurnedI.start (l : List Int) : TurnedI l l 0 := ⟨rfl, fun k hk => by rw [if_neg (by omega)]⟩
theorem TurnedI.step {l L : List Int} {i : Nat} (h : TurnedI l L i) (hi : 2 * i + 1 < l.length) : TurnedI l ((L.set i (gi L (l.length - 1 - i))).set (l.length - 1 - i) (gi L i)) (i + 1) := by
  obtain ⟨h1, h2⟩ := h
  refine ⟨by simp [h1], fun k hk => ?_⟩
  rw [gi_set (by simp [h1]; omega), gi_set (by omega)]
  have e1 := h2 i (by omega)
  have e2 := h2 (l.length - 1 - i) (by omega)
  rw [if_neg (by omega)] at e1 e2
  by_cases c1 : k = l.length - 1 - i
  · rw [if_pos c1, if_pos (by omega), e1]; congr 1; omega
  · rw [if_neg c1]
    by_cases c2 : k = i
    · rw [if_pos c2, if_pos (by omega), e2]; congr 1; omega
    · rw [if_neg c2, h2 k hk]
      by_cases c3 : k < i ∨ l.length - i ≤ k
      · rw [if_pos c3, if_pos (by omega)]
      · rw [if_neg c3, if_neg (by omega)]
theorem TurnedI.done {l L : List Int} {i : Nat} (h : TurnedI l L i) (hi : l.length ≤ 2 * i + 1) : L = l.reverse := by
  refine List.ext_getElem? fun k => ?_
  by_cases hk : k < l.length
  · have h2 := h.2 k hk
    have e : gi L k = gi l (l.length - 1 - k) := by
      rw [h2]
      by_cases c : k < i ∨ l.length - i ≤ k
      · rw [if_pos c]
      · rw [if_neg c]; congr 1; omega
    rw [List.getElem?_reverse hk, List.getElem?_eq_getElem (by rw [h.1]; exact hk), List.getElem?_eq_getElem (by omega)]
    simp only [gi, List.getD, List.getElem?_eq_getElem (show k < L.length by rw [h.1]; exact hk), List.getElem?_eq_getElem (show l.length - 1 - k < l.length by omega), Option.getD_some] at e
    rw [e]
  · rw [List.getElem?_eq_none (by rw [h.1]; omega), List.getElem?_eq_none (by simp; omega)]
end Go.MW

namespace Go.MW
variable {n : Nat} {es : List Arc} {T : Nat → Nat → Int} {p : Nat → Int}
theorem twice : ∀ L : List Nat, ¬ L.Nodup → ∃ A v B D, L = A ++ v :: (B ++ v :: D) := by
  intro L
  induction L with
  | nil => exact fun h => (h .nil).elim
  | cons v L ih =>
    intro h
    by_cases hv : v ∈ L
    · obtain ⟨B, D, rfl⟩ := List.append_of_mem hv
      exact ⟨[], v, B, D, rfl⟩
    · have : ¬ L.Nodup := fun g => h (List.nodup_cons.2 ⟨hv, g⟩)
      obtain ⟨A, u, B, D, rfl⟩ := ih this
      exact ⟨v :: A, u, B, D, rfl⟩
theorem Wk.simpleF (hp : Feas es p) : ∀ (m : Nat) {L : List Nat} {i j : Nat} {c : Int}, L.length ≤ m → Wk es i L j c → ∃ L' c', L'.Nodup ∧ (∀ v ∈ L', v ∈ L) ∧ c' ≤ c ∧ Wk es i L' j c' := by
  intro m
  induction m with
  | zero =>
    intro L i j c hl h
    obtain rfl : L = [] := List.length_eq_zero_iff.1 (by omega)
    exact ⟨[], c, .nil, fun _ h => h, Int.le_refl c, h⟩
  | succ m ih =>
    intro L i j c hl h
    by_cases hnd : L.Nodup
    · exact ⟨L, c, hnd, fun _ h => h, Int.le_refl c, h⟩
    · obtain ⟨A, v, B, D, rfl⟩ := twice L hnd
      obtain ⟨d, g1, g2⟩ := h.split
      obtain ⟨e, g3, g4⟩ := g2.split
      have h0 := g3.feas hp
      obtain ⟨L', c', k1, k2, k4, k3⟩ := ih (L := A ++ v :: D) (by simp at hl ⊢; omega) (g1.join g4)
      refine ⟨L', c', k1, fun u hu => ?_, by omega, k3⟩
      have := k2 u hu
      simp only [List.mem_append, List.mem_cons] at this ⊢
      rcases this with h | h | h
      · exact .inl h
      · exact .inr (.inl h)
      · exact .inr (.inr (.inr (.inr h)))
theorem Wk.mem (hin : ∀ x ∈ es, x.f < n ∧ x.t < n ∧ x.f ≠ x.t ∧ -20000 ≤ x.c ∧ x.c ≤ 20000) {L : List Nat} : ∀ {i j : Nat} {c : Int}, Wk es i L j c → ∀ v ∈ L, v < n := by
  induction L with
  | nil => exact fun _ _ h => by cases h
  | cons u L ih =>
    rintro i j c ⟨x, h1, h2, rfl, h4⟩ v hv
    rcases List.mem_cons.1 hv with rfl | hv
    · exact (hin x h1).2.1
    · exact ih h4 v hv
theorem WaysT.le_walk (h : WaysT n es T) (hin : ∀ x ∈ es, x.f < n ∧ x.t < n ∧ x.f ≠ x.t ∧ -20000 ≤ x.c ∧ x.c ≤ 20000) (hp : Feas es p) {i j : Nat} (hi : i < n) (hj : j < n) {L : List Nat} {c : Int} (hw : Wk es i L j c) : T i j ≤ c := by
  obtain ⟨L', c', k1, k2, k4, k3⟩ := hw.simpleF hp L.length (Nat.le_refl _)
  have := h.dom i j hi hj L' c' k1 (k3.mem hin) k3
  omega
theorem bound_all (f : Arc → Int) : ∀ es : List Arc, ∃ K, ∀ x ∈ es, f x ≤ K
  | [] => ⟨0, fun _ h => by cases h⟩
  | y :: es => by
    obtain ⟨K, hK⟩ := bound_all f es
    refine ⟨max K (f y), fun x hx => ?_⟩
    rcases List.mem_cons.1 hx with rfl | hx
    · omega
    · have := hK x hx; omega
theorem WaysT.walk (h : WaysT n es T) (hp : Feas es p) {i j : Nat} (hi : i < n) (hj : j < n) (hne : T i j ≠ free) (hij : j ≠ i) : ∃ L c, Wk es i L j c ∧ c ≤ T i j := by
  have hlow : ∀ v m, ((v = i ∧ m = 0) ∨ ∃ L, Wk es i L v m) → p v - p i ≤ m := by
    rintro v m (⟨rfl, rfl⟩ | ⟨L, hL⟩)
    · omega
    · exact hL.feas hp
  have hex : ∀ v, ∃ m : Int, (∃ k, (v = i ∧ k = 0) ∨ ∃ L, Wk es i L v k) → ((v = i ∧ m = 0) ∨ ∃ L, Wk es i L v m) ∧ ∀ k, ((v = i ∧ k = 0) ∨ ∃ L, Wk es i L v k) → m ≤ k := by
    intro v
    by_cases hv : ∃ k : Int, (v = i ∧ k = 0) ∨ ∃ L, Wk es i L v k
    · obtain ⟨m, h1, h2⟩ := min_exists (S := fun k => (v = i ∧ k = 0) ∨ ∃ L, Wk es i L v k) hv (hlow v)
      exact ⟨m, fun _ => ⟨h1, h2⟩⟩
    · exact ⟨0, fun g => (hv g).elim⟩
  obtain ⟨q, hq⟩ := Classical.axiomOfChoice hex
  obtain ⟨K, hK⟩ := bound_all (fun x => q x.t - p x.f - x.c) es
  have hstep : ∀ x ∈ es, (∃ k : Int, (x.f = i ∧ k = 0) ∨ ∃ L, Wk es i L x.f k) → (∃ k : Int, (x.t = i ∧ k = 0) ∨ ∃ L, Wk es i L x.t k) ∧ q x.t ≤ q x.f + x.c := by
    intro x hx hf
    have hw : ∃ L, Wk es i L x.t (q x.f + x.c) := by
      rcases (hq x.f hf).1 with ⟨e1, e2⟩ | ⟨L, hL⟩
      · exact ⟨[], x, hx, e1, rfl, by omega⟩
      · exact ⟨L ++ x.f :: [], hL.join (B := []) ⟨x, hx, rfl, rfl, rfl⟩⟩
    have ht : ∃ k : Int, (x.t = i ∧ k = 0) ∨ ∃ L, Wk es i L x.t k := ⟨_, .inr hw⟩
    exact ⟨ht, (hq x.t ht).2 _ (.inr hw)⟩
  have hfe : ∀ M, K ≤ M → Feas es (fun v => open Classical in if ∃ k : Int, (v = i ∧ k = 0) ∨ ∃ L, Wk es i L v k then q v else p v + M) := by
    intro M hM x hx
    dsimp only
    by_cases hf : ∃ k : Int, (x.f = i ∧ k = 0) ∨ ∃ L, Wk es i L x.f k
    · obtain ⟨ht, hle⟩ := hstep x hx hf
      rw [if_pos hf, if_pos ht]; omega
    · rw [if_neg hf]
      by_cases ht : ∃ k : Int, (x.t = i ∧ k = 0) ∨ ∃ L, Wk es i L x.t k
      · rw [if_pos ht]
        have := hK x hx
        omega
      · rw [if_neg ht]
        have := hp x hx
        omega
  have hii : ∃ k : Int, (i = i ∧ k = 0) ∨ ∃ L, Wk es i L i k := ⟨0, .inl ⟨rfl, rfl⟩⟩
  have hqi : q i ≤ 0 := (hq i hii).2 0 (.inl ⟨rfl, rfl⟩)
  by_cases hr : ∃ k : Int, (j = i ∧ k = 0) ∨ ∃ L, Wk es i L j k
  · have h1 := h.lo i j hi hj hne _ (hfe K (Int.le_refl K))
    rw [if_pos hr, if_pos hii] at h1
    rcases (hq j hr).1 with ⟨e1, _⟩ | ⟨L, hL⟩
    · exact (hij e1).elim
    · exact ⟨L, q j, hL, by omega⟩
  · have h1 := h.lo i j hi hj hne _ (hfe (max K (T i j - p j + 1)) (by omega))
    rw [if_neg hr, if_pos hii] at h1
    omega
theorem WaysT.tri (h : WaysT n es T) (hin : ∀ x ∈ es, x.f < n ∧ x.t < n ∧ x.f ≠ x.t ∧ -20000 ≤ x.c ∧ x.c ≤ 20000) (hp : Feas es p) {i m k : Nat} (hi : i < n) (hm : m < n) (hk : k < n) (h1 : T i m ≠ free) (h2 : T m k ≠ free) : T i k ≤ T i m + T m k := by
  have hd : ∀ v, v < n → T v v = 0 := fun v hv => by
    have e1 := h.dg v hv
    have e2 := h.lo v v hv hv (by simp only [free]; omega) p hp
    omega
  by_cases e1 : m = i
  · subst e1; rw [hd m hm]; omega
  by_cases e2 : k = m
  · subst e2; rw [hd k hk]; omega
  obtain ⟨L1, c1, w1, l1⟩ := h.walk hp hi hm h1 e1
  obtain ⟨L2, c2, w2, l2⟩ := h.walk hp hm hk h2 e2
  by_cases e3 : k = i
  · subst e3
    have := w1.feas hp
    have := w2.feas hp
    rw [hd k hk]; omega
  have := h.le_walk hin hp hi hk (w1.join w2)
  omega
end Go.MW

namespace Go.MW
variable {n : Nat} {es : List Arc} {T : Nat → Nat → Int} {X : List Int}
structure PtI (n : Nat) (T : Nat → Nat → Int) (X : List Int) : Prop where
  l0 : 0 < X.length
  l1 : X.length ≤ n
  zero : gi X 0 = 0
  bd : ∀ v < X.length, -(1400000 * (v : Int)) ≤ gi X v ∧ gi X v ≤ 1400000 * (v : Int)
  ok : ∀ i j, i < X.length → j < X.length → T i j ≠ free → gi X j - gi X i ≤ T i j
def LoI (T : Nat → Nat → Int) (X : List Int) (b k : Nat) (z : Int) : Prop := (∀ a < k, T b a ≠ free → gi X a - T b a ≤ z) ∧ ((z = -free ∧ ∀ a < k, T b a = free) ∨ ∃ a, a < k ∧ T b a ≠ free ∧ z = gi X a - T b a)
def HiI (T : Nat → Nat → Int) (X : List Int) (b k : Nat) (z : Int) : Prop := (∀ a < k, T a b ≠ free → z ≤ gi X a + T a b) ∧ ((z = free ∧ ∀ a < k, T a b = free) ∨ ∃ a, a < k ∧ T a b ≠ free ∧ z = gi X a + T a b)
theorem LoI.start (T : Nat → Nat → Int) (X : List Int) (b : Nat) : LoI T X b 0 (-free) := ⟨fun a ha => by omega, .inl ⟨rfl, fun a ha => by omega⟩⟩
theorem HiI.start (T : Nat → Nat → Int) (X : List Int) (b : Nat) : HiI T X b 0 free := ⟨fun a ha => by omega, .inl ⟨rfl, fun a ha => by omega⟩⟩
theorem LoI.skip {b k : Nat} {z : Int} (h : LoI T X b k z) (hf : T b k = free) : LoI T X b (k + 1) z := by
  refine ⟨fun a ha hn => ?_, ?_⟩
  · by_cases e : a = k
    · subst e; exact (hn hf).elim
    · exact h.1 a (by omega) hn
  · rcases h.2 with ⟨h1, h2⟩ | ⟨a, h1, h2⟩
    · exact .inl ⟨h1, fun a ha => by
        by_cases e : a = k
        · subst e; exact hf
        · exact h2 a (by omega)⟩
    · exact .inr ⟨a, by omega, h2⟩
theorem HiI.skip {b k : Nat} {z : Int} (h : HiI T X b k z) (hf : T k b = free) : HiI T X b (k + 1) z := by
  refine ⟨fun a ha hn => ?_, ?_⟩
  · by_cases e : a = k
    · subst e; exact (hn hf).elim
    · exact h.1 a (by omega) hn
  · rcases h.2 with ⟨h1, h2⟩ | ⟨a, h1, h2⟩
    · exact .inl ⟨h1, fun a ha => by
        by_cases e : a = k
        · subst e; exact hf
        · exact h2 a (by omega)⟩
    · exact .inr ⟨a, by omega, h2⟩
theorem LoI.put {b k : Nat} {z : Int} (h : LoI T X b k z) (hf : T b k ≠ free) (hb : -free ≤ gi X k - T b k) : LoI T X b (k + 1) (max z (gi X k - T b k)) := by
  refine ⟨fun a ha hn => ?_, ?_⟩
  · by_cases e : a = k
    · subst e; omega
    · have := h.1 a (by omega) hn; omega
  · rcases h.2 with ⟨h1, h2⟩ | ⟨a, h1, h2, h3⟩
    · exact .inr ⟨k, by omega, hf, by omega⟩
    · by_cases e : z ≤ gi X k - T b k
      · exact .inr ⟨k, by omega, hf, by omega⟩
      · exact .inr ⟨a, by omega, h2, by omega⟩
theorem HiI.put {b k : Nat} {z : Int} (h : HiI T X b k z) (hf : T k b ≠ free) (hb : gi X k + T k b ≤ free) : HiI T X b (k + 1) (min z (gi X k + T k b)) := by
  refine ⟨fun a ha hn => ?_, ?_⟩
  · by_cases e : a = k
    · subst e; omega
    · have := h.1 a (by omega) hn; omega
  · rcases h.2 with ⟨h1, h2⟩ | ⟨a, h1, h2, h3⟩
    · exact .inr ⟨k, by omega, hf, by omega⟩
    · by_cases e : gi X k + T k b ≤ z
      · exact .inr ⟨k, by omega, hf, by omega⟩
      · exact .inr ⟨a, by omega, h2, by omega⟩
theorem PtI.start {n : Nat} (hn : 0 < n) (hd : 0 ≤ T 0 0) : PtI n T [0] where
  l0 := by simp
  l1 := by simp; omega
  zero := rfl
  bd := fun v hv => by
    obtain rfl : v = 0 := by simp at hv; omega
    simp [gi]
  ok := fun i j hi hj _ => by
    obtain rfl : i = 0 := by simp at hi; omega
    obtain rfl : j = 0 := by simp at hj; omega
    simp [gi, hd]
structure TabS (n : Nat) (T : Nat → Nat → Int) : Prop where
  n65 : n ≤ 65
  dg : ∀ i, i < n → T i i = 0
  bd : ∀ i j, i < n → j < n → T i j ≠ free → -1400000 ≤ T i j ∧ T i j ≤ 1400000
  tri : ∀ i m k, i < n → m < n → k < n → T i m ≠ free → T m k ≠ free → T i k ≠ free ∧ T i k ≤ T i m + T m k
theorem WaysT.tabS (h : WaysT n es T) (hn : 0 < n) (hn1 : n ≤ 65) (hin : ∀ x ∈ es, x.f < n ∧ x.t < n ∧ x.f ≠ x.t ∧ -20000 ≤ x.c ∧ x.c ≤ 20000) (hs : ∃ p, Feas es p) : TabS n T where
  n65 := hn1
  dg := fun v hv => by
    obtain ⟨p, hp⟩ := hs
    have e1 := h.dg v hv
    have e2 := h.lo v v hv hv (by simp only [free]; omega) p hp
    omega
  bd := fun i j hi hj hne => ⟨h.low hn hn1 hin hs hi hj hne, h.up i j hi hj hne⟩
  tri := fun i m k hi hm hk h1 h2 => by
    obtain ⟨p, hp⟩ := hs
    have e := h.tri hin hp hi hm hk h1 h2
    have e1 := h.up i m hi hm h1
    have e2 := h.up m k hm hk h2
    have : free = 1000000000 := rfl
    exact ⟨by omega, e⟩
theorem PtI.le {b : Nat} {lo hi : Int} (h : PtI n T X) (ht : TabS n T) (hb : b < n) (hbl : X.length = b) (h1 : LoI T X b b lo) (h2 : HiI T X b b hi) (hl : lo ≠ -free) (hh : hi ≠ free) : lo ≤ hi := by
  rcases h1.2 with ⟨e, _⟩ | ⟨a, a1, a2, a3⟩
  · exact (hl e).elim
  rcases h2.2 with ⟨e, _⟩ | ⟨c, c1, c2, c3⟩
  · exact (hh e).elim
  obtain ⟨t1, t2⟩ := ht.tri c b a (by omega) hb (by omega) c2 a2
  have := h.ok c a (by omega) (by omega) t1
  omega
theorem gi_snoc (X : List Int) (z : Int) (v : Nat) : gi (X ++ [z]) v = if v < X.length then gi X v else if v = X.length then z else 0 := by
  unfold gi
  by_cases h1 : v < X.length
  · rw [if_pos h1]; simp [List.getD, List.getElem?_append_left h1]
  · rw [if_neg h1]
    by_cases h2 : v = X.length
    · subst h2; simp [List.getD]
    · rw [if_neg h2]; simp [List.getD]; rw [List.getElem?_eq_none (by simp; omega)]; rfl
theorem PtI.snoc {b : Nat} {lo hi z : Int} (h : PtI n T X) (ht : TabS n T) (hb : b < n) (hbl : X.length = b) (h1 : LoI T X b b lo) (h2 : HiI T X b b hi)
    (hz : (lo ≠ -free ∧ hi ≠ free ∧ lo ≤ z ∧ z ≤ hi) ∨ (lo ≠ -free ∧ hi = free ∧ z = lo) ∨ (lo = -free ∧ hi ≠ free ∧ z = hi) ∨ (lo = -free ∧ hi = free ∧ z = 0)) : PtI n T (X ++ [z]) := by
  have hfr : free = 1000000000 := rfl
  have hl : ∀ a < b, T b a ≠ free → gi X a - T b a ≤ z := fun a ha hne => by
    have e1 := h1.1 a ha hne
    rcases hz with ⟨_, _, e2, _⟩ | ⟨_, _, e2⟩ | ⟨e2, _, _⟩ | ⟨e2, _, _⟩
    · omega
    · omega
    · rcases h1.2 with ⟨_, g⟩ | ⟨a', g1, g2, g3⟩
      · exact (hne (g a ha)).elim
      · have := ht.bd b a' hb (by omega) g2; have := h.bd a' (by omega); have := ht.n65; omega
    · rcases h1.2 with ⟨_, g⟩ | ⟨a', g1, g2, g3⟩
      · exact (hne (g a ha)).elim
      · have := ht.bd b a' hb (by omega) g2; have := h.bd a' (by omega); have := ht.n65; omega
  have hu : ∀ a < b, T a b ≠ free → z ≤ gi X a + T a b := fun a ha hne => by
    have e1 := h2.1 a ha hne
    rcases hz with ⟨_, _, _, e2⟩ | ⟨_, e2, _⟩ | ⟨_, _, e2⟩ | ⟨_, e2, _⟩
    · omega
    · rcases h2.2 with ⟨_, g⟩ | ⟨a', g1, g2, g3⟩
      · exact (hne (g a ha)).elim
      · have := ht.bd a' b (by omega) hb g2; have := h.bd a' (by omega); have := ht.n65; omega
    · omega
    · rcases h2.2 with ⟨_, g⟩ | ⟨a', g1, g2, g3⟩
      · exact (hne (g a ha)).elim
      · have := ht.bd a' b (by omega) hb g2; have := h.bd a' (by omega); have := ht.n65; omega
  have hzb : -(1400000 * (b : Int)) ≤ z ∧ z ≤ 1400000 * (b : Int) := by
    have k1 : lo ≠ -free → -(1400000 * (b : Int)) ≤ lo ∧ lo ≤ 1400000 * (b : Int) := fun e => by
      rcases h1.2 with ⟨g, _⟩ | ⟨a', g1, g2, g3⟩
      · exact (e g).elim
      · have := ht.bd b a' hb (by omega) g2; have := h.bd a' (by omega); omega
    have k2 : hi ≠ free → -(1400000 * (b : Int)) ≤ hi ∧ hi ≤ 1400000 * (b : Int) := fun e => by
      rcases h2.2 with ⟨g, _⟩ | ⟨a', g1, g2, g3⟩
      · exact (e g).elim
      · have := ht.bd a' b (by omega) hb g2; have := h.bd a' (by omega); omega
    rcases hz with ⟨e1, e2, _, _⟩ | ⟨e1, _, _⟩ | ⟨_, e2, _⟩ | ⟨_, _, e⟩
    · have := k1 e1; have := k2 e2; omega
    · have := k1 e1; omega
    · have := k2 e2; omega
    · omega
  have hb0 := h.l0
  refine ⟨by simp, by simp; omega, ?_, fun v hv => ?_, fun i j hi' hj' hne => ?_⟩
  · rw [gi_snoc, if_pos hb0]; exact h.zero
  · rw [gi_snoc]
    simp at hv
    by_cases e : v < X.length
    · rw [if_pos e]; exact h.bd v e
    · rw [if_neg e, if_pos (by omega), show v = b by omega]; exact hzb
  · simp at hi' hj'
    rw [gi_snoc, gi_snoc]
    by_cases ei : i < X.length
    · by_cases ej : j < X.length
      · rw [if_pos ei, if_pos ej]; exact h.ok i j ei ej hne
      · obtain rfl : j = b := by omega
        rw [if_pos ei, if_neg ej, if_pos (by omega)]
        have := hu i (by omega) hne; omega
    · obtain rfl : i = b := by omega
      by_cases ej : j < X.length
      · rw [if_pos ej, if_neg ei, if_pos (by omega)]
        have := hl j (by omega) hne; omega
      · obtain rfl : j = i := by omega
        have := ht.dg j hb
        omega
theorem PtI.feas (h : PtI n T X) (hl : X.length = n) (hw : WaysT n es T) (hin : ∀ x ∈ es, x.f < n ∧ x.t < n ∧ x.f ≠ x.t ∧ -20000 ≤ x.c ∧ x.c ≤ 20000) : Feas es (gi X) := fun x hx => by
  obtain ⟨b1, b2, b3, b4, b5⟩ := hin x hx
  have h1 := hw.dom x.f x.t b1 b2 [] x.c .nil (fun _ h => by cases h) ⟨x, hx, rfl, rfl, rfl⟩
  have h2 := h.ok x.f x.t (by omega) (by omega) (by simp only [free]; omega)
  omega
theorem LoI.uniq {b k : Nat} {z y : Int} (h : LoI T X b k z) (g : LoI T X b k y) : z = y := by
  rcases h.2 with ⟨h1, h2⟩ | ⟨a, h1, h2, h3⟩
  · rcases g.2 with ⟨g1, _⟩ | ⟨c, g1, g2, _⟩
    · omega
    · exact (g2 (h2 c g1)).elim
  · have e1 := g.1 a h1 h2
    rcases g.2 with ⟨_, g2⟩ | ⟨c, g1, g2, g3⟩
    · exact (h2 (g2 a h1)).elim
    · have e2 := h.1 c g1 g2
      omega
theorem HiI.uniq {b k : Nat} {z y : Int} (h : HiI T X b k z) (g : HiI T X b k y) : z = y := by
  rcases h.2 with ⟨h1, h2⟩ | ⟨a, h1, h2, h3⟩
  · rcases g.2 with ⟨g1, _⟩ | ⟨c, g1, g2, _⟩
    · omega
    · exact (g2 (h2 c g1)).elim
  · have e1 := g.1 a h1 h2
    rcases g.2 with ⟨_, g2⟩ | ⟨c, g1, g2, g3⟩
    · exact (h2 (g2 a h1)).elim
    · have e2 := h.1 c g1 g2
      omega
def chooseI (lo hi p : Int) : Int := if lo ≠ -free then (if hi ≠ free then lo + p else lo) else if hi ≠ free then hi else 0
inductive PtsR (T : Nat → Nat → Int) (f : Int → Int → Int) : List Int → Prop
  | start : PtsR T f [0]
  | snoc {X : List Int} {lo hi : Int} (h : PtsR T f X) (h1 : LoI T X X.length X.length lo) (h2 : HiI T X X.length X.length hi) : PtsR T f (X ++ [chooseI lo hi (f (X.length - 1) (hi - lo + 1))])
theorem PtsR.pos {f : Int → Int → Int} (h : PtsR T f X) : 0 < X.length := by
  cases h <;> simp
theorem PtsR.uniq {f : Int → Int → Int} (h : PtsR T f X) : ∀ {Y : List Int}, PtsR T f Y → X.length = Y.length → X = Y := by
  induction h with
  | start =>
    intro Y g e
    cases g with
    | start => rfl
    | snoc g _ _ => have := g.pos; simp only [List.length_append, List.length_cons, List.length_nil] at e; omega
  | snoc h h1 h2 ih =>
    intro Y g e
    cases g with
    | start => have := h.pos; simp only [List.length_append, List.length_cons, List.length_nil] at e; omega
    | snoc g g1 g2 =>
      obtain rfl := ih g (by simpa using e)
      obtain rfl := h1.uniq g1
      obtain rfl := h2.uniq g2
      rfl
theorem PtsR.inv {f : Int → Int → Int} (hf : ∀ i n : Int, 1 ≤ n → 0 ≤ f i n ∧ f i n < n) (ht : TabS n T) (h : PtsR T f X) : X.length ≤ n → PtI n T X := by
  induction h with
  | start => exact fun hl => .start (by simp at hl; omega) (by have := ht.dg 0 (by simp at hl; omega); omega)
  | @snoc X lo hi h h1 h2 ih =>
    intro hl
    simp at hl
    have g := ih (by omega)
    refine g.snoc ht (b := X.length) (by omega) rfl h1 h2 ?_
    unfold chooseI
    by_cases e1 : lo = -free
    · by_cases e2 : hi = free
      · exact .inr (.inr (.inr ⟨e1, e2, by rw [if_neg (by omega), if_neg (by omega)]⟩))
      · exact .inr (.inr (.inl ⟨e1, e2, by rw [if_neg (by omega), if_pos e2]⟩))
    · by_cases e2 : hi = free
      · exact .inr (.inl ⟨e1, e2, by rw [if_pos e1, if_neg (by omega)]⟩)
      · have e3 := g.le ht (by omega) rfl h1 h2 e1 e2
        have e4 := hf (X.length - 1) (hi - lo + 1) (by omega)
        rw [if_pos e1, if_pos e2]
        exact .inl ⟨e1, e2, by omega, by omega⟩
theorem LoI.bd {b k : Nat} {z : Int} (h : LoI T X b k z) (hI : PtI n T X) (ht : TabS n T) (hb : b < n) (hk : k ≤ X.length) : -free ≤ z ∧ z ≤ 100000000 := by
  have := ht.n65
  rcases h.2 with ⟨e, _⟩ | ⟨a, h1, h2, h3⟩
  · simp only [free] at *; omega
  · have := hI.l1
    have e1 := ht.bd b a hb (by omega) h2
    have e2 := hI.bd a (by omega)
    simp only [free] at *; omega
theorem HiI.bd {b k : Nat} {z : Int} (h : HiI T X b k z) (hI : PtI n T X) (ht : TabS n T) (hb : b < n) (hk : k ≤ X.length) : -100000000 ≤ z ∧ z ≤ free := by
  have := ht.n65
  rcases h.2 with ⟨e, _⟩ | ⟨a, h1, h2, h3⟩
  · simp only [free] at *; omega
  · have := hI.l1
    have e1 := ht.bd a b (by omega) hb h2
    have e2 := hI.bd a (by omega)
    simp only [free] at *; omega
end Go.MW

namespace Go.MW
variable {n : Nat} {es : List Arc} {T T' : Nat → Nat → Int} {p : Nat → Int}
theorem WaysT.diag (h : WaysT n es T) (hp : Feas es p) {i : Nat} (hi : i < n) : T i i = 0 := by
  have e1 := h.dg i hi
  have e2 := h.lo i i hi hi (by simp only [free]; omega) p hp
  omega
theorem WaysT.le_of (h : WaysT n es T) (g : WaysT n es T') (hin : ∀ x ∈ es, x.f < n ∧ x.t < n ∧ x.f ≠ x.t ∧ -20000 ≤ x.c ∧ x.c ≤ 20000) (hp : Feas es p) {i j : Nat} (hi : i < n) (hj : j < n) : T' i j ≤ T i j := by
  by_cases e : j = i
  · subst e; rw [h.diag hp hi, g.diag hp hi]; exact Int.le_refl _
  · by_cases hf : T i j = free
    · by_cases hg : T' i j = free
      · omega
      · have := g.up i j hi hj hg; simp only [free] at *; omega
    · obtain ⟨L, c, h1, h2⟩ := h.walk hp hi hj hf e
      have := g.le_walk hin hp hi hj h1
      omega
theorem WaysT.one (h : WaysT n es T) (g : WaysT n es T') (hin : ∀ x ∈ es, x.f < n ∧ x.t < n ∧ x.f ≠ x.t ∧ -20000 ≤ x.c ∧ x.c ≤ 20000) (hp : Feas es p) {i j : Nat} (hi : i < n) (hj : j < n) : T i j = T' i j := by
  have := h.le_of g hin hp hi hj
  have := g.le_of h hin hp hi hj
  omega
theorem WaysT.go (h : WaysT n es T) (hin : ∀ x ∈ es, x.f < n ∧ x.t < n ∧ x.f ≠ x.t ∧ -20000 ≤ x.c ∧ x.c ≤ 20000) (hp : Feas es p) {i : Nat} (hi : i < n) {x : Arc} (hx : x ∈ es) (hf : T i x.f ≠ free) : T i x.t ≠ free ∧ T i x.t ≤ T i x.f + x.c := by
  obtain ⟨b1, b2, b3, b4, b5⟩ := hin x hx
  have hu := h.up i x.f hi b1 hf
  have key : T i x.t ≤ T i x.f + x.c := by
    by_cases e : x.f = i
    · have h1 := h.diag hp hi
      rw [e, h1]
      have := h.le_walk hin hp hi b2 (L := []) (c := x.c) ⟨x, hx, e, rfl, rfl⟩
      omega
    · obtain ⟨L, c, h1, h2⟩ := h.walk hp hi b1 hf e
      have := h.le_walk hin hp hi b2 (h1.join (B := []) (d := x.c) ⟨x, hx, rfl, rfl, rfl⟩)
      omega
  refine ⟨?_, key⟩
  simp only [free] at *; omega
structure RiseOf (S : Int → Prop) (L : List Int) : Prop where
  up : L.Pairwise (· < ·)
  mem : ∀ x, x ∈ L ↔ S x
theorem rise_eq : ∀ {A B : List Int}, A.Pairwise (· < ·) → B.Pairwise (· < ·) → (∀ x, x ∈ A ↔ x ∈ B) → A = B
  | [], [], _, _, _ => rfl
  | [], b :: B, _, _, h => by have := (h b).2 (.head _); cases this
  | a :: A, [], _, _, h => by have := (h a).1 (.head _); cases this
  | a :: A, b :: B, hA, hB, h => by
    obtain ⟨a1, a2⟩ := List.pairwise_cons.1 hA
    obtain ⟨b1, b2⟩ := List.pairwise_cons.1 hB
    have e : a = b := by
      have h1 := (h a).1 (.head _)
      have h2 := (h b).2 (.head _)
      rcases List.mem_cons.1 h1 with e | h1
      · exact e
      · rcases List.mem_cons.1 h2 with e | h2
        · exact e.symm
        · have := a1 b h2; have := b1 a h1; omega
    subst e
    rw [rise_eq a2 b2 fun x => ⟨fun hx => by
      have h1 := (h x).1 (.tail _ hx)
      rcases List.mem_cons.1 h1 with e | h1
      · subst e; have := a1 x hx; omega
      · exact h1, fun hx => by
      have h1 := (h x).2 (.tail _ hx)
      rcases List.mem_cons.1 h1 with e | h1
      · subst e; have := b1 x hx; omega
      · exact h1⟩]
theorem RiseOf.uniq {S : Int → Prop} {A B : List Int} (h : RiseOf S A) (g : RiseOf S B) : A = B := rise_eq h.up g.up fun x => (h.mem x).trans (g.mem x).symm
theorem RiseOf.congr {S S' : Int → Prop} {A : List Int} (h : RiseOf S A) (e : ∀ x, S x ↔ S' x) : RiseOf S' A := ⟨h.up, fun x => (h.mem x).trans (e x)⟩
theorem RiseOf.nil {S : Int → Prop} (h : ∀ x, ¬ S x) : RiseOf S [] := ⟨.nil, fun x => ⟨fun hx => (by cases hx), fun hx => (h x hx).elim⟩⟩
theorem RiseOf.filter {S : Int → Prop} {A : List Int} (h : RiseOf S A) (f : Int → Bool) : RiseOf (fun x => S x ∧ f x = true) (A.filter f) :=
  ⟨h.up.filter f, fun x => by rw [List.mem_filter, h.mem]⟩
theorem RiseOf.put {S : Int → Prop} {A : List Int} {k : Nat} {z : Int} (h : RiseOf S A) (h1 : ∀ x ∈ A.take k, x < z) (h2 : ∀ x ∈ A.drop k, z < x) : RiseOf (fun x => S x ∨ x = z) (A.take k ++ (z :: A.drop k)) := by
  have hu := h.up
  rw [← List.take_append_drop k A, List.pairwise_append] at hu
  obtain ⟨u1, u2, u3⟩ := hu
  refine ⟨List.pairwise_append.2 ⟨u1, List.pairwise_cons.2 ⟨h2, u2⟩, fun x hx y hy => ?_⟩, fun x => ?_⟩
  · rcases List.mem_cons.1 hy with rfl | hy
    · exact h1 x hx
    · exact u3 x hx y hy
  · rw [← h.mem x]
    conv => rhs; rw [← List.take_append_drop k A]
    simp only [List.mem_append, List.mem_cons]
    constructor
    · rintro (h | h | h)
      · exact .inl (.inl h)
      · exact .inr h
      · exact .inl (.inr h)
    · rintro ((h | h) | h)
      · exact .inl h
      · exact .inr (.inr h)
      · exact .inr (.inl h)
end Go.MW

namespace Go.MW
variable {n r j : Nat} {as_ : List Arc} {s : BS} {x : Arc}
theorem par_real (h : NInv n as_ r j (some x) s) (hr : r = n) (hx : x.t < n) : ∀ m, ga s.by_ (parK s.by_ x.t m) ∈ as_ ∧ (ga s.by_ (parK s.by_ x.t m)).t = parK s.by_ x.t m := by
  obtain ⟨R, h1, _, _, h4⟩ := h.rd
  have hR0 : R x.t = n + 1 := by rw [h4 x rfl, hr]
  have hlt : ∀ m, parK s.by_ x.t m < n := parK_lt (fun v hv => (h.rg v hv).1) hx
  have hR : ∀ m, m ≤ n → n + 1 - m ≤ R (parK s.by_ x.t m) := by
    intro m
    induction m with
    | zero => intro _; show n + 1 - 0 ≤ R x.t; omega
    | succ m ih =>
      intro hm
      have h5 := ih (by omega)
      rcases h1 _ (hlt m) with ⟨e, _⟩ | ⟨_, _, _, _, _, e⟩
      · omega
      · show n + 1 - (m + 1) ≤ R (ga s.by_ (parK s.by_ x.t m)).f
        omega
  have hre : ∀ m, m ≤ n → ga s.by_ (parK s.by_ x.t m) ∈ as_ ∧ (ga s.by_ (parK s.by_ x.t m)).t = parK s.by_ x.t m := fun m hm => by
    have h5 := hR m hm
    rcases h1 _ (hlt m) with ⟨e, _⟩ | ⟨_, _, e1, e2, _, _⟩
    · omega
    · exact ⟨e1, e2⟩
  obtain ⟨i, k, h5, h6, h7⟩ := pigeon n (parK s.by_ x.t) fun i _ => hlt i
  intro m
  induction m using Nat.strongRecOn with
  | _ m ih =>
    by_cases hm : m ≤ n
    · exact hre m hm
    · have e : parK s.by_ x.t m = parK s.by_ x.t (i + (m - k)) := by
        rw [parK_add, h7, ← parK_add, show k + (m - k) = m by omega]
      rw [e]
      exact ih _ (by omega)
theorem par_back {b : List Arc} {v : Nat} : ∀ {k : Nat}, (∀ i < k, 0 ≤ (ga b (parK b v i)).l) → Back b v k (sumTo (fun i => (ga b (parK b v i)).c) k) (parK b v k)
  | 0, _ => .nil
  | k + 1, h => by
    have h1 := par_back (b := b) (v := v) (k := k) fun i hi => h i (by omega)
    have h2 : Back b (parK b v k) 1 ((ga b (parK b v k)).c + 0) (ga b (parK b v k)).f := .cons (h k (by omega)) .nil
    have h3 := h1.trans h2
    rwa [Int.add_zero] at h3
theorem sumTo_first (f : Nat → Int) : ∀ k, sumTo f (k + 1) = f 0 + sumTo (fun i => f (i + 1)) k
  | 0 => by simp [sumTo]
  | k + 1 => by
    have := sumTo_first f k
    simp only [sumTo] at this ⊢
    omega
theorem sumTo_rev (f : Nat → Int) : ∀ k, sumTo (fun p => f (k - 1 - p)) k = sumTo f k
  | 0 => rfl
  | k + 1 => by
    rw [sumTo_first]
    have h1 : sumTo (fun i => f (k + 1 - 1 - (i + 1))) k = sumTo (fun p => f (k - 1 - p)) k := sumTo_congr fun v _ => by congr 1; omega
    rw [h1, sumTo_rev f k]
    simp only [sumTo, Nat.add_sub_cancel, Nat.sub_zero]
    omega
end Go.MW

namespace Go.MW
structure Heap where
  fn : Nat → Option Obj
  io : Option (Os × Array (Nat × ByteArray))
instance : CoeFun Heap (fun _ => Nat → Option Obj) := ⟨Heap.fn⟩
def hp (w : World) : Heap := ⟨fun b => w.heap[b]?, some (w.os, w.output)⟩
def Heap.bot : Heap := ⟨fun _ => none, none⟩
def HLe (H H' : Heap) : Prop := (∀ b o, H b = some o → H' b = some o) ∧ ∀ x, H.io = some x → H'.io = some x
theorem HLe.refl (H : Heap) : HLe H H := ⟨fun _ _ h => h, fun _ h => h⟩
theorem HLe.bot (H : Heap) : HLe .bot H := ⟨fun _ _ h => (by cases h), fun _ h => (by cases h)⟩
theorem HLe.trans {A B C : Heap} (h : HLe A B) (k : HLe B C) : HLe A C := ⟨fun b o e => k.1 b o (h.1 b o e), fun x e => k.2 x (h.2 x e)⟩
def cellAt (H : Heap) (b off : Nat) : Option Value :=
  match H b with
  | some (.cells c _ _) => c[off]?
  | _ => none
theorem cellAt.mono {H H' : Heap} {b off : Nat} {v : Value} (h : cellAt H b off = some v) (hl : HLe H H') : cellAt H' b off = some v := by
  unfold cellAt at *
  cases hb : H b with
  | none => simp [hb] at h
  | some o => rw [hl.1 b o hb]; rw [hb] at h; exact h
inductive Ent where
  | blk (b : Nat) (c : List Value)
  | obj (b : Nat) (o : Obj)
  | nul
def Ent.key : Ent → Option Nat
  | .blk b _ => some b
  | .obj b _ => some b
  | .nul => none
def Ent.sat (w : World) : Ent → Prop
  | .blk b c => ∃ T, w.heap[b]? = some (.cells c.toArray T (0, 0))
  | .obj b o => w.heap[b]? = some o
  | .nul => True
def Ent.apart (e f : Ent) : Prop := ∀ b, e.key = some b → f.key = some b → False
structure St (H : Heap) (w : World) (σ : List Ent) : Prop where
  ro : ∀ b o, H b = some o → w.heap[b]? = some o
  own : ∀ e ∈ σ, e.sat w
  nd : σ.Pairwise Ent.apart
  dis : ∀ e ∈ σ, ∀ b, e.key = some b → H b = none
  io : ∀ x, H.io = some x → x = (w.os, w.output)
theorem St.start (w : World) : St (hp w) w [] := ⟨fun _ _ h => h, fun _ h => (by cases h), .nil, fun _ h => (by cases h), fun _ h => (by cases h; rfl)⟩
theorem Ent.sat.lt {w : World} {e : Ent} {b : Nat} (h : e.sat w) (hk : e.key = some b) : b < w.heap.size := by
  cases e with
  | blk b' c => simp only [Ent.key, Option.some.injEq] at hk; subst hk; obtain ⟨T, h⟩ := h; exact (Array.getElem?_eq_some_iff.1 h).1
  | obj b' o => simp only [Ent.key, Option.some.injEq] at hk; subst hk; exact (Array.getElem?_eq_some_iff.1 h).1
  | nul => cases hk
inductive Mem : List Ent → Ent → Prop
  | here {x : Ent} {l : List Ent} : Mem (x :: l) x
  | there {x y : Ent} {l : List Ent} (h : Mem l x) : Mem (y :: l) x
theorem Mem.mem {l : List Ent} {x : Ent} (h : Mem l x) : x ∈ l := by
  induction h with
  | here => exact .head _
  | there _ ih => exact .tail _ ih
inductive Pick : List Ent → Ent → List Ent → Prop
  | here {x : Ent} {l : List Ent} : Pick (x :: l) x l
  | there {x y : Ent} {l r : List Ent} (h : Pick l x r) : Pick (y :: l) x (y :: r)
inductive Upd : List Ent → Ent → Ent → List Ent → Prop
  | here {x y : Ent} {l : List Ent} : Upd (x :: l) x y (y :: l)
  | there {x y z : Ent} {l r : List Ent} (h : Upd l x y r) : Upd (z :: l) x y (z :: r)
inductive Sub : List Ent → List Ent → Prop
  | nil {l : List Ent} : Sub [] l
  | cons {x : Ent} {l r t : List Ent} (h : Pick l x r) (k : Sub t r) : Sub (x :: t) l
theorem Pick.perm {l : List Ent} {x : Ent} {r : List Ent} (h : Pick l x r) : l.Perm (x :: r) := by
  induction h with
  | here => exact .refl _
  | there _ ih => exact (ih.cons _).trans (.swap _ _ _)
theorem Upd.picks {l : List Ent} {x y : Ent} {r : List Ent} (h : Upd l x y r) : ∃ t, Pick l x t ∧ Pick r y t := by
  induction h with
  | here => exact ⟨_, .here, .here⟩
  | there _ ih => obtain ⟨t, h1, h2⟩ := ih; exact ⟨_, .there h1, .there h2⟩
theorem Ent.apart_symm {e f : Ent} (h : Ent.apart e f) : Ent.apart f e := fun b h1 h2 => h b h2 h1
theorem St.perm {H : Heap} {w : World} {σ τ : List Ent} (hs : St H w σ) (h : σ.Perm τ) : St H w τ :=
  ⟨hs.ro, fun e he => hs.own e (h.mem_iff.2 he), (h.pairwise_iff (fun {_ _} => Ent.apart_symm)).1 hs.nd, fun e he => hs.dis e (h.mem_iff.2 he), hs.io⟩
theorem St.pick {H : Heap} {w : World} {σ : List Ent} {x : Ent} {r : List Ent} (hs : St H w σ) (h : Pick σ x r) : St H w (x :: r) := hs.perm h.perm
theorem St.unpick {H : Heap} {w : World} {σ : List Ent} {x : Ent} {r : List Ent} (hs : St H w (x :: r)) (h : Pick σ x r) : St H w σ := hs.perm h.perm.symm
theorem St.tail {H : Heap} {w : World} {σ : List Ent} {x : Ent} (hs : St H w (x :: σ)) : St H w σ :=
  ⟨hs.ro, fun e he => hs.own e (.tail _ he), (List.pairwise_cons.1 hs.nd).2, fun e he => hs.dis e (.tail _ he), hs.io⟩
theorem St.nul {H : Heap} {w : World} {σ : List Ent} (hs : St H w σ) : St H w (.nul :: σ) :=
  ⟨hs.ro, fun e he => (by cases he with | head => trivial | tail _ he => exact hs.own e he),
   List.pairwise_cons.2 ⟨fun _ _ b h _ => (by cases h), hs.nd⟩,
   fun e he b hb => (by cases he with | head => cases hb | tail _ he => exact hs.dis e he b hb), hs.io⟩
theorem St.cons {H : Heap} {w : World} {σ : List Ent} {x : Ent} (hs : St H w σ) (hx : x.sat w) (hd : ∀ b, x.key = some b → H b = none) (ha : ∀ y ∈ σ, Ent.apart x y) : St H w (x :: σ) :=
  ⟨hs.ro, fun e he => (by cases he with | head => exact hx | tail _ he => exact hs.own e he),
   List.pairwise_cons.2 ⟨ha, hs.nd⟩,
   fun e he b hb => (by cases he with | head => exact hd b hb | tail _ he => exact hs.dis e he b hb), hs.io⟩
theorem Sub.st {σ τ : List Ent} (h : Sub τ σ) : ∀ {H : Heap} {w : World}, St H w σ → St H w τ := by
  induction h with
  | nil => exact fun hs => ⟨hs.ro, fun e h => (by cases h), .nil, fun e h => (by cases h), hs.io⟩
  | @cons x l r t h k ih =>
    intro H w hs
    have h1 := hs.pick h
    have h2 := ih h1.tail
    refine h2.cons (h1.own _ (.head _)) (h1.dis _ (.head _)) fun y hy => (List.pairwise_cons.1 h1.nd).1 y ?_
    clear hs h1 h2 ih h
    induction k with
    | nil => cases hy
    | @cons x l r t h k ih =>
      cases hy with
      | head => exact h.perm.mem_iff.2 (.head _)
      | tail _ hy => exact h.perm.mem_iff.2 (.tail _ (ih hy))
theorem St.sub {H : Heap} {w : World} {σ τ : List Ent} (hs : St H w σ) (h : Sub τ σ) : St H w τ := h.st hs
inductive Suf : List Ent → List Ent → Prop
  | refl {l : List Ent} : Suf l l
  | cons {x : Ent} {l r : List Ent} (h : Suf r l) : Suf r (x :: l)
theorem St.out {H : Heap} {w : World} {σ τ : List Ent} (hs : St H w σ) (h : Suf τ σ := by repeat (first | exact .refl | refine .cons ?_)) : St H w τ := by
  induction h with
  | refl => exact hs
  | cons _ ih => exact ih hs.tail
theorem St.le {H H' : Heap} {w : World} {σ : List Ent} (hs : St H' w σ) (h : HLe H H') : St H w σ :=
  ⟨fun b o e => hs.ro b o (h.1 b o e), hs.own, hs.nd, fun e he b hb => (by
    cases hh : H b with
    | none => rfl
    | some o => have := h.1 b o hh; rw [hs.dis e he b hb] at this; cases this), fun x hx => hs.io x (h.2 x hx)⟩
def Row (H : Heap) (b : Nat) (c : List Value) : Prop := ∃ T fz, H b = some (.cells c.toArray T fz)
theorem Row.mono {H H' : Heap} {b : Nat} {c : List Value} (h : Row H b c) (hl : HLe H H') : Row H' b c := by
  obtain ⟨T, fz, h⟩ := h; exact ⟨T, fz, hl.1 _ _ h⟩
theorem Row.cell {H : Heap} {b : Nat} {c : List Value} (h : Row H b c) (i : Nat) : cellAt H b i = c[i]? := by
  obtain ⟨T, fz, h⟩ := h; simp [cellAt, h]
theorem St.publish {H : Heap} {w : World} {σ r : List Ent} {b : Nat} {c : List Value} (hs : St H w σ) (h : Pick σ (.blk b c) r) :
    ∃ H', HLe H H' ∧ Row H' b c ∧ St H' w r := by
  have h1 := hs.pick h
  obtain ⟨T, hb⟩ := h1.own _ (.head _)
  have hn := h1.dis _ (.head _) b rfl
  refine ⟨⟨fun k => if k = b then some (.cells c.toArray T (0, 0)) else H k, H.io⟩, ⟨fun k o hk => ?_, fun _ h => h⟩, ⟨T, (0, 0), by simp⟩, ?_, h1.tail.own, h1.tail.nd, fun e he k hk => ?_, hs.io⟩
  · show (if k = b then _ else _) = _
    by_cases e : k = b
    · subst e; rw [hn] at hk; cases hk
    · simp only [e, if_false]; exact hk
  · intro k o hk
    replace hk : (if k = b then _ else _) = _ := hk
    by_cases e : k = b
    · subst e; simp only [if_true, Option.some.injEq] at hk; rw [← hk]; exact hb
    · simp only [e, if_false] at hk; exact hs.ro k o hk
  · show (if k = b then _ else _) = _
    by_cases e' : k = b
    · subst e'; exact ((List.pairwise_cons.1 h1.nd).1 e he k rfl hk).elim
    · simp only [e', if_false]; exact h1.tail.dis e he k hk
theorem St.fresh {H : Heap} {w : World} {σ : List Ent} (hs : St H w σ) : H w.heap.size = none := by
  cases h : H w.heap.size with
  | none => rfl
  | some o => have := (Array.getElem?_eq_some_iff.1 (hs.ro _ _ h)).1; omega
theorem sat_push {w : World} {e : Ent} (h : e.sat w) (o : Obj) : e.sat { w with heap := w.heap.push o } := by
  have key : ∀ b o', w.heap[b]? = some o' → (w.heap.push o)[b]? = some o' := fun b o' hb => by
    have hlt := (Array.getElem?_eq_some_iff.1 hb).1
    rw [Array.getElem?_push]; simp [Nat.ne_of_lt hlt, hb]
  cases e with
  | blk b c => obtain ⟨T, h⟩ := h; exact ⟨T, key _ _ h⟩
  | obj b o => exact key _ _ h
  | nul => trivial
theorem St.push {H : Heap} {w : World} {σ : List Ent} (hs : St H w σ) (o : Obj) : St H { w with heap := w.heap.push o } σ :=
  ⟨fun b o' hb => by
    have h := hs.ro b o' hb
    have hlt := (Array.getElem?_eq_some_iff.1 h).1
    show (w.heap.push o)[b]? = some o'
    rw [Array.getElem?_push]; simp [Nat.ne_of_lt hlt, h], fun e he => sat_push (hs.own e he) o, hs.nd, hs.dis, hs.io⟩
theorem St.new {H : Heap} {w : World} {σ : List Ent} (hs : St H w σ) (o : Obj) (e : Ent) (hk : e.key = some w.heap.size) (he : e.sat { w with heap := w.heap.push o }) :
    St H { w with heap := w.heap.push o } (e :: σ) :=
  (hs.push o).cons he (fun b hb => by rw [hk] at hb; cases hb; exact hs.fresh) fun y hy b h1 h2 => by
    rw [hk] at h1; cases h1; have := (hs.own y hy).lt h2; omega
theorem St.newCells {H : Heap} {w : World} {σ : List Ent} (hs : St H w σ) (c : Array Value) (T : TypeId) :
    St H { w with heap := w.heap.push (.cells c T) } (.blk w.heap.size c.toList :: σ) :=
  hs.new _ _ rfl ⟨T, by simp⟩
theorem St.newObj {H : Heap} {w : World} {σ : List Ent} (hs : St H w σ) (o : Obj) :
    St H { w with heap := w.heap.push o } (.obj w.heap.size o :: σ) :=
  hs.new _ _ rfl (by simp [Ent.sat])
theorem St.drawn {H : Heap} {w : World} {σ : List Ent} (hs : St H w σ) (n : Nat) : St H { w with drawn := n } σ :=
  ⟨hs.ro, fun e he => by have := hs.own e he; cases e <;> exact this, hs.nd, hs.dis, hs.io⟩
theorem St.lt {H : Heap} {w : World} {σ : List Ent} (hs : St H w σ) {b : Nat} {c : List Value} (h : Mem σ (.blk b c)) : b < w.heap.size :=
  (hs.own _ h.mem).lt rfl
theorem cell?_ro {H : Heap} {w : World} {σ : List Ent} (hs : St H w σ) {b off : Nat} {v : Value} (h : cellAt H b off = some v) : w.cell? ⟨b, off, none⟩ = some v := by
  unfold cellAt at h
  cases hb : H b with
  | none => simp [hb] at h
  | some o =>
    rw [hb] at h
    unfold World.cell?
    rw [hs.ro b o hb]
    cases o <;> simp_all
theorem cell?_own {H : Heap} {w : World} {σ : List Ent} (hs : St H w σ) {b : Nat} {c : List Value} (h : Mem σ (.blk b c)) (off : Nat) : w.cell? ⟨b, off, none⟩ = c[off]? := by
  obtain ⟨T, hb⟩ := hs.own _ h.mem
  simp [World.cell?, hb]
theorem frozen?_own {H : Heap} {w : World} {σ : List Ent} (hs : St H w σ) {b : Nat} {c : List Value} (h : Mem σ (.blk b c)) (off : Nat) : w.frozen? ⟨b, off, none⟩ = false := by
  obtain ⟨T, hb⟩ := hs.own _ h.mem
  simp [World.frozen?, hb]
theorem Upd.mem {l : List Ent} {x y : Ent} {r : List Ent} (h : Upd l x y r) : Mem l x := by
  induction h with
  | here => exact .here
  | there _ ih => exact .there ih
theorem St.setCell {H : Heap} {w : World} {σ τ : List Ent} (hs : St H w σ) {b off : Nat} {c : List Value} {v : Value} (h : Upd σ (.blk b c) (.blk b (c.set off v)) τ) :
    St H (w.setCell ⟨b, off, none⟩ v) τ := by
  obtain ⟨t, h1, h2⟩ := h.picks
  have h3 := hs.pick h1
  obtain ⟨T, hb⟩ := h3.own _ (.head _)
  have hlt := (Array.getElem?_eq_some_iff.1 hb).1
  have hne : ∀ k, k ≠ b → (w.setCell ⟨b, off, none⟩ v).heap[k]? = w.heap[k]? := fun k hk => by
    show (w.heap.modify b _)[k]? = _
    rw [Array.getElem?_modify]; simp [Ne.symm hk]
  have hsame : (w.setCell ⟨b, off, none⟩ v).heap[b]? = some (.cells (c.set off v).toArray T (0, 0)) := by
    show (w.heap.modify b _)[b]? = _
    rw [Array.getElem?_modify]; simp [hb]
  refine St.unpick ⟨fun k o hk => ?_, fun e he => ?_, ?_, fun e he k hk => ?_, hs.io⟩ h2
  · rw [hne k]
    · exact hs.ro k o hk
    · intro e; subst e; rw [h3.dis _ (.head _) k rfl] at hk; cases hk
  · cases he with
    | head => exact ⟨T, hsame⟩
    | tail _ he =>
      have h4 := h3.own e (.tail _ he)
      have h5 := (List.pairwise_cons.1 h3.nd).1 e he
      cases e with
      | blk b' c' => obtain ⟨T', h4⟩ := h4; exact ⟨T', by rw [hne b' (fun e => h5 b rfl (by rw [e]; rfl))]; exact h4⟩
      | obj b' o => simp only [Ent.sat] at h4 ⊢; rw [hne b' (fun e => h5 b rfl (by rw [e]; rfl))]; exact h4
      | nul => trivial
  · exact List.pairwise_cons.2 ⟨fun z hz k h1 h2 => (List.pairwise_cons.1 h3.nd).1 z hz k h1 h2, (List.pairwise_cons.1 h3.nd).2⟩
  · cases he with
    | head => exact h3.dis _ (.head _) k hk
    | tail _ he => exact h3.dis e (.tail _ he) k hk
theorem St.putObj {H : Heap} {w : World} {σ τ : List Ent} (hs : St H w σ) {b : Nat} {o o' : Obj} (h : Upd σ (.obj b o) (.obj b o') τ) :
    St H { w with heap := w.heap.setIfInBounds b o' } τ := by
  obtain ⟨t, h1, h2⟩ := h.picks
  have h3 := hs.pick h1
  have hb : w.heap[b]? = some o := h3.own _ (.head _)
  have hlt := (Array.getElem?_eq_some_iff.1 hb).1
  have hne : ∀ k, k ≠ b → (w.heap.setIfInBounds b o')[k]? = w.heap[k]? := fun k hk => by
    rw [Array.getElem?_setIfInBounds_ne (Ne.symm hk)]
  refine St.unpick ⟨fun k o hk => ?_, fun e he => ?_, ?_, fun e he k hk => ?_, hs.io⟩ h2
  · rw [hne k]
    · exact hs.ro k o hk
    · intro e; subst e; rw [h3.dis _ (.head _) k rfl] at hk; cases hk
  · cases he with
    | head => simp [Ent.sat, hlt]
    | tail _ he =>
      have h4 := h3.own e (.tail _ he)
      have h5 := (List.pairwise_cons.1 h3.nd).1 e he
      cases e with
      | blk b' c' => obtain ⟨T', h4⟩ := h4; exact ⟨T', by rw [hne b' (fun e => h5 b rfl (by rw [e]; rfl))]; exact h4⟩
      | obj b' o => simp only [Ent.sat] at h4 ⊢; rw [hne b' (fun e => h5 b rfl (by rw [e]; rfl))]; exact h4
      | nul => trivial
  · exact List.pairwise_cons.2 ⟨fun z hz k h1 h2 => (List.pairwise_cons.1 h3.nd).1 z hz k h1 h2, (List.pairwise_cons.1 h3.nd).2⟩
  · cases he with
    | head => exact h3.dis _ (.head _) k hk
    | tail _ he => exact h3.dis e (.tail _ he) k hk
end Go.MW

namespace Go.MW
theorem beq_ne {a b : Nat} (h : ¬ a = b) : Nat.beq a b = false := by
  cases e : Nat.beq a b with
  | false => rfl
  | true => exact absurd (Nat.eq_of_beq_eq_true e) h
def get : List (Nat × Value) → Nat → Option Value
  | [], _ => none
  | (k, v) :: l, t => bif Nat.beq k t then some v else get l t
structure FS where
  n : Nat
  ds : List Deferred
  e : List (Nat × Value)
def FS.ev (s : FS) : Operand → Option Value
  | .tmp t => get s.e t
  | .const v => some v
  | .global g => some (.pointer (some ⟨g, 0, none⟩))
  | .func f => some (.func (.func f) #[] #[])
def FS.put (s : FS) (d : Nat) (v : Value) : FS := ⟨s.n, s.ds, (d, v) :: s.e⟩
structure Sim (s : FS) (a : Act) : Prop where
  size : a.tmps.size = s.n
  ds : a.defers = s.ds
  val : ∀ t v, get s.e t = some v → a.tmps.getD t undef = v
theorem Sim.ev {s : FS} {a : Act} (h : Sim s a) {x : Operand} {v : Value} (hx : s.ev x = some v) : a.eval x = v := by
  cases x with
  | tmp t => exact h.val t v hx
  | const c => simp only [FS.ev, Option.some.injEq] at hx; exact hx
  | global g => simp only [FS.ev, Option.some.injEq] at hx; exact hx
  | func f => simp only [FS.ev, Option.some.injEq] at hx; exact hx
theorem Sim.put {s : FS} {a : Act} (h : Sim s a) {d : Nat} (hd : Nat.blt d s.n = true) (v : Value) : Sim (s.put d v) (a.put (some d) v) := by
  have hlt : d < a.tmps.size := by rw [h.size]; simpa using hd
  refine ⟨by simp [Act.put, FS.put, h.size], by simp [Act.put, FS.put, h.ds], fun t u ht => ?_⟩
  simp only [FS.put, get] at ht
  by_cases e : d = t
  · subst e
    simp only [Nat.beq_refl, cond_true, Option.some.injEq] at ht
    subst ht
    simp [Act.put, hlt]
  · have : Nat.beq d t = false := beq_ne e
    rw [this] at ht
    have h2 := h.val t u ht
    simp only [Act.put]
    rw [← h2]
    simp [Array.getElem?_setIfInBounds_ne e]
theorem Sim.put_none {s : FS} {a : Act} (h : Sim s a) (v : Value) : Sim s (a.put none v) := h
def FS.to (s : FS) : Option Nat → Value → FS
  | some d, v => s.put d v
  | none, _ => s
def FS.has (s : FS) : Option Nat → Bool
  | some d => Nat.blt d s.n
  | none => true
theorem Sim.to {s : FS} {a : Act} (h : Sim s a) {d : Option Nat} (hd : s.has d = true) (v : Value) : Sim (s.to d v) (a.put d v) := by
  cases d with
  | some d => exact h.put hd v
  | none => exact h
structure FSub (s t : FS) : Prop where
  n : s.n = t.n
  ds : s.ds = t.ds
  e : ∀ k v, get t.e k = some v → get s.e k = some v
theorem FSub.refl (s : FS) : FSub s s := ⟨rfl, rfl, fun _ _ h => h⟩
theorem FSub.trans {r s t : FS} (h : FSub r s) (k : FSub s t) : FSub r t := ⟨h.n.trans k.n, h.ds.trans k.ds, fun i v e => h.e i v (k.e i v e)⟩
theorem FSub.nil {s : FS} {n : Nat} {ds : List Deferred} (hn : s.n = n) (hd : s.ds = ds) : FSub s ⟨n, ds, []⟩ := ⟨hn, hd, fun _ _ h => by cases h⟩
theorem FSub.cons {s : FS} {n : Nat} {ds : List Deferred} {l : List (Nat × Value)} {k : Nat} {v : Value} (hv : get s.e k = some v) (h : FSub s ⟨n, ds, l⟩) : FSub s ⟨n, ds, (k, v) :: l⟩ :=
  ⟨h.n, h.ds, fun i u hi => by
    simp only [get] at hi
    cases hb : Nat.beq k i with
    | true => rw [hb] at hi; simp only [cond_true, Option.some.injEq] at hi; have := Nat.eq_of_beq_eq_true hb; rw [← this, hv, hi]
    | false => rw [hb] at hi; exact h.e i u hi⟩
theorem FSub.consI {s : FS} {n : Nat} {ds : List Deferred} {l : List (Nat × Value)} {k : Nat} {q : IntKind} {x y : Int} (hv : get s.e k = some (.int q x)) (e : x = y) (h : FSub s ⟨n, ds, l⟩) : FSub s ⟨n, ds, (k, .int q y) :: l⟩ :=
  .cons (e ▸ hv) h
theorem FSub.sim {s t : FS} (h : FSub s t) {a : Act} (ha : Sim s a) : Sim t a :=
  ⟨ha.size.trans h.n, ha.ds.trans h.ds, fun k v e => ha.val k v (h.e k v e)⟩
abbrev FW (ro : Option Nat) : Fence := { fn := fun _ => True, depth := none, alive := false, round := ro }
theorem FW_none : FW none = Fence.wide := rfl
def PA (Q : Exit → FS → World → Prop) : Exit → Act → World → Prop := fun x a w => ∃ s, Sim s a ∧ Q x s w
def WE (P : Program) (ro : Option Nat) (c : Code) (Q : Exit → FS → World → Prop) (s : FS) (w : World) : Prop :=
  ∀ a, Sim s a → c.wpIn (FW ro) 0 P (PA Q) a w
def thn (K : FS → World → Prop) (Q : Exit → FS → World → Prop) : Exit → FS → World → Prop
  | .normal, s, w => K s w
  | .exit i, s, w => Q (.exit i) s w
  | .goto i, s, w => Q (.goto i) s w
  | .ret, s, w => Q .ret s w
  | .panic c, s, w => Q (.panic c) s w
  | .outgrown, s, w => Q .outgrown s w
def inB (id : Nat) (Q : Exit → FS → World → Prop) : Exit → FS → World → Prop
  | .exit i, s, w => bif Nat.beq i id then Q .normal s w else Q (.exit i) s w
  | .normal, s, w => Q .normal s w
  | .goto i, s, w => Q (.goto i) s w
  | .ret, s, w => Q .ret s w
  | .panic c, s, w => Q (.panic c) s w
  | .outgrown, s, w => Q .outgrown s w
variable {P : Program} {ro : Option Nat} {Q : Exit → FS → World → Prop} {s : FS} {w : World}
theorem nT {K : FS → World → Prop} (h : K s w) : thn K Q .normal s w := h
theorem nB {i : Nat} (h : Q .normal s w) : inB i Q .normal s w := h
theorem rT {K : FS → World → Prop} (h : Q .ret s w) : thn K Q .ret s w := h
theorem rB {i : Nat} (h : Q .ret s w) : inB i Q .ret s w := h
theorem xT {K : FS → World → Prop} {i : Nat} (h : Q (.exit i) s w) : thn K Q (.exit i) s w := h
theorem xB {i : Nat} (h : Q .normal s w) : inB i Q (.exit i) s w := by simp only [inB, Nat.beq_refl, cond_true]; exact h
theorem xN {i j : Nat} (h : Q (.exit j) s w) (hn : Nat.beq j i = false := by rfl) : inB i Q (.exit j) s w := by simp only [inB, hn, cond_false]; exact h
theorem WE.mono {c : Code} {Q' : Exit → FS → World → Prop} (h : WE P ro c Q s w) (hq : ∀ x s w, Q x s w → Q' x s w) : WE P ro c Q' s w :=
  fun a ha => wpIn_mono (h a ha) fun _ _ _ ⟨s', h1, h2⟩ => ⟨s', h1, hq _ _ _ h2⟩
theorem WE.sub {c : Code} {t : FS} (h : WE P ro c Q t w) (hs : FSub s t) : WE P ro c Q s w := fun a ha => h a (hs.sim ha)
theorem WE.seq {c d : Code} (h : WE P ro c (thn (WE P ro d Q) Q) s w) : WE P ro (.seq c d) Q s w := fun a ha =>
  wpIn_seq (wpIn_mono (h a ha) fun x a' w' ⟨s', h1, h2⟩ => by
    cases x with
    | normal => exact h2 a' h1
    | _ => exact ⟨s', h1, h2⟩)
theorem WE.skip (h : Q .normal s w) : WE P ro .skip Q s w := fun _ ha => wpIn_skip ⟨s, ha, h⟩
theorem WE.label {l : Nat} (h : Q .normal s w) : WE P ro (.label l) Q s w := fun _ ha => wpIn_label ⟨s, ha, h⟩
theorem WE.ret (h : Q .ret s w) : WE P ro .ret Q s w := fun _ ha => wpIn_ret ⟨s, ha, h⟩
theorem WE.exit {i : Nat} (h : Q (.exit i) s w) : WE P ro (.exit i) Q s w := fun _ ha => wpIn_exit ⟨s, ha, h⟩
theorem WE.block {i : Nat} {c : Code} (h : WE P ro c (inB i Q) s w) : WE P ro (.block i c) Q s w := fun a ha =>
  wpIn_block (wpIn_mono (h a ha) fun x a' w' ⟨s', h1, h2⟩ => by
    cases x with
    | exit j =>
      simp only [Exit.inBlock]
      by_cases e : j = i
      · subst e; rw [if_pos rfl]; simp only [inB, Nat.beq_refl, cond_true] at h2; exact ⟨s', h1, h2⟩
      · have hb : Nat.beq j i = false := beq_ne e
        rw [if_neg e]; simp only [inB, hb, cond_false] at h2; exact ⟨s', h1, h2⟩
    | _ => exact ⟨s', h1, h2⟩)
theorem WE.cond {x : Operand} {c d : Code} {b : Bool} (hx : s.ev x = some (.bool b)) (h1 : b = true → WE P ro c Q s w) (h2 : b = false → WE P ro d Q s w) :
    WE P ro (.cond x c d) Q s w := fun a ha =>
  wpIn_cond_split (ha.ev hx) (fun e => h1 e a ha) (fun e => h2 e a ha)
theorem WE.condT {x : Operand} {c d : Code} {b : Bool} (hx : s.ev x = some (.bool b)) (hb : b = true) (h : WE P ro c Q s w) :
    WE P ro (.cond x c d) Q s w := fun a ha => wpIn_cond_true (by rw [ha.ev hx, hb]) (h a ha)
theorem WE.condF {x : Operand} {c d : Code} {b : Bool} (hx : s.ev x = some (.bool b)) (hb : b = false) (h : WE P ro d Q s w) :
    WE P ro (.cond x c d) Q s w := fun a ha => wpIn_cond_false (by rw [ha.ev hx, hb]) (h a ha)
theorem least_exists (p : Nat → Prop) (n : Nat) (h : p n) : ∃ n, p n ∧ ∀ m, p m → n ≤ m := by
  induction n using Nat.strongRecOn with
  | _ n ih =>
    by_cases hm : ∃ m, m < n ∧ p m
    · obtain ⟨m, h1, h2⟩ := hm; exact ih m h1 h2
    · exact ⟨n, h, fun m hp => Nat.le_of_not_lt fun hl => hm ⟨m, hl, hp⟩⟩
theorem loop_aux {F : Fence} {n : Nat} {P : Program} {Q : Exit → Act → World → Prop} {a : Act} {w : World} {c : Code} (I : Act → World → Nat → Prop) (m : Nat) (h0 : I a w m)
    (round : ∀ a w m, I a w m → c.wpIn F n P (Exit.then (fun a' w' => ∃ m', m' < m ∧ I a' w' m') Q) a w) : (Code.loop c).wpIn F n P Q a w := by
  have key : ∀ a w m, I a w m → ∃ n, I a w n ∧ ∀ m, I a w m → n ≤ m := fun a w m h => least_exists _ m h
  have spec : ∀ a w m, I a w m → I a w (Classical.epsilon (fun n => I a w n ∧ ∀ m, I a w m → n ≤ m)) ∧ ∀ m, I a w m → (Classical.epsilon (fun n => I a w n ∧ ∀ m, I a w m → n ≤ m)) ≤ m :=
    fun a w m h => Classical.epsilon_spec (p := fun n => I a w n ∧ ∀ m, I a w m → n ≤ m) (key a w m h)
  refine wpIn_loop (fun a w => ∃ m, I a w m) (fun a w => Classical.epsilon (fun n => I a w n ∧ ∀ m, I a w m → n ≤ m)) ⟨m, h0⟩ fun a w ⟨m, hm⟩ => ?_
  refine wpIn_mono (round a w _ (spec a w m hm).1) fun x a' w' h => ?_
  cases x with
  | normal =>
    obtain ⟨m', h1, h2⟩ := h
    exact ⟨⟨m', h2⟩, Nat.lt_of_le_of_lt ((spec a' w' m' h2).2 m' h2) h1⟩
  | _ => exact h
theorem WE.loop {ι : Type} {c : Code} (fr : ι → FS) (I : ι → World → Prop) (μ : ι → Nat) (i : ι) (hs : FSub s (fr i)) (h0 : I i w)
    (h : ∀ i w, I i w → WE P ro c (thn (fun s' w' => ∃ j, FSub s' (fr j) ∧ I j w' ∧ μ j < μ i) Q) (fr i) w) : WE P ro (.loop c) Q s w := fun a ha =>
  loop_aux (fun a w n => ∃ i, Sim (fr i) a ∧ I i w ∧ μ i = n) (μ i) ⟨i, hs.sim ha, h0, rfl⟩ fun a w n ⟨i, h1, h2, h3⟩ =>
    wpIn_mono (h i w h2 a h1) fun x a' w' ⟨s', h4, h5⟩ => by
      cases x with
      | normal => obtain ⟨j, h6, h7, h8⟩ := h5; exact ⟨μ j, h3 ▸ h8, j, h6.sim h4, h7, rfl⟩
      | _ => exact ⟨s', h4, h5⟩
end Go.MW

namespace Go.MW
abbrev I (x : Int) : Value := .int .i64 x
abbrev Is (xs : List Int) : List Value := xs.map I
theorem Is_get {xs : List Int} {k : Nat} {x' : Int} (h : xs[k]? = some x') (sp : List Value) : (Is xs ++ sp)[k]? = some (I x') := by
  have hl := (List.getElem?_eq_some_iff.1 h).1
  rw [List.getElem?_append_left (by simpa using hl)]; simp [h]
theorem Is_get' {xs : List Int} {k : Nat} {x' : Int} (h : xs[k]? = some x') : (Is xs)[k]? = some (I x') := by simp [h]
theorem Is_gi {xs : List Int} {k : Nat} (h : k < xs.length) : (Is xs)[k]? = some (I (gi xs k)) := Is_get' (gi_get h)
theorem Is_set (xs : List Int) (k : Nat) (x' : Int) : (Is xs).set k (I x') = Is (xs.set k x') := by simp [Is, List.map_set]
theorem blt_Is {xs : List Int} {k : Nat} (h : k < xs.length) : Nat.blt k (Is xs).length = true := by simpa using h
def Arc.v (x : Arc) : List Value := [I x.f, I x.t, I x.c, I x.l]
def Arcs (l : List Arc) : List Value := (l.map Arc.v).flatten
theorem Arcs_cons (x : Arc) (l : List Arc) : Arcs (x :: l) = x.v ++ Arcs l := rfl
theorem Arcs_append (l m : List Arc) : Arcs (l ++ m) = Arcs l ++ Arcs m := by simp [Arcs]
theorem Arcs_snoc (l : List Arc) (x : Arc) : Arcs (l ++ [x]) = Arcs l ++ x.v := by rw [Arcs_append]; simp [Arcs]
theorem Arcs_length (l : List Arc) : (Arcs l).length = l.length * 4 := by
  induction l with
  | nil => rfl
  | cons x l ih => rw [Arcs_cons, List.length_append, ih, List.length_cons]; simp only [Arc.v, List.length_cons, List.length_nil]; omega
theorem Arcs_at {l : List Arc} {k : Nat} (h : k < l.length) : Arcs l = Arcs (l.take k) ++ ((ga l k).v ++ Arcs (l.drop (k + 1))) := by
  have h1 : ga l k = l[k] := by simp [ga, h]
  conv => lhs; rw [← List.take_append_drop k l, Arcs_append, List.drop_eq_getElem_cons h, Arcs_cons, ← h1]
theorem Arcs_get {l : List Arc} {k j : Nat} (h : k < l.length) (hj : j < 4) : (Arcs l)[k * 4 + j]? = (ga l k).v[j]? := by
  have hl : (Arcs (l.take k)).length = k * 4 := by rw [Arcs_length, List.length_take]; omega
  rw [Arcs_at h, List.getElem?_append_right (by omega), hl, List.getElem?_append_left (by simp [Arc.v]; omega)]
  congr 1; omega
theorem Arcs_sub {l : List Arc} {k : Nat} (h : k < l.length) : ((Arcs l).drop (k * 4)).take (ga l k).v.length = (ga l k).v := by
  have hl : (Arcs (l.take k)).length = k * 4 := by rw [Arcs_length, List.length_take]; omega
  rw [Arcs_at h, ← hl, List.drop_left, List.take_left]
theorem Arcs_put {l : List Arc} {k : Nat} (h : k < l.length) (x : Arc) : Arcs (l.set k x) = Arcs (l.take k) ++ (x.v ++ Arcs (l.drop (k + 1))) := by
  rw [Arcs_at (k := k) (by simpa using h), ga_set h, if_pos rfl]
  congr 2
  · rw [List.take_set, List.set_eq_of_length_le (by rw [List.length_take]; omega)]
  · rw [List.drop_set, if_pos (by omega)]
theorem Arcs_set3 {l : List Arc} {k : Nat} (h : k < l.length) (z : Int) : (Arcs l).set (k * 4 + 3) (I z) = Arcs (l.set k ⟨(ga l k).f, (ga l k).t, (ga l k).c, z⟩) := by
  have hl : (Arcs (l.take k)).length = k * 4 := by rw [Arcs_length, List.length_take]; omega
  rw [Arcs_put h, Arcs_at h, List.set_append_right _ _ (by omega), hl]
  simp [Arc.v]
theorem blt_Arcs {l : List Arc} {k j : Nat} (h : k < l.length) (hj : j < 4) : Nat.blt (k * 4 + j) (Arcs l).length = true := by rw [Arcs_length]; simp; omega
end Go.MW

namespace Go.MW
def WO (P : Program) (ro : Option Nat) (ops : Array Oper) (l : List Oper) (K : FS → World → Prop) (s : FS) (w : World) : Prop :=
  ∀ a, Sim s a → wpListIn (FW ro) 0 P ops (PA (thn K (fun _ _ _ => False))) l a w
def OJ (P : Program) (ro : Option Nat) (o : Oper) (K : FS → World → Prop) (s : FS) (w : World) : Prop :=
  ∀ a, Sim s a → o.wpIn (FW ro) 0 P a w (fun a' w' => ∃ s', Sim s' a' ∧ K s' w') (fun _ _ _ => False)
def QJ (P : Program) (H : Heap) (σ : List Ent) (s : FS) (op : Op) (v : Value) : Prop :=
  (∀ c, op ≠ .defer c) ∧ ∀ a w dst ty pos aft g, Sim s a → St H w σ → (execOp a.eval ⟨dst, op, ty, pos, aft, g⟩).run P w = .ok (.value v) w
variable {P : Program} {ro : Option Nat} {Q : Exit → FS → World → Prop} {K : FS → World → Prop} {ops : Array Oper} {rest : List Oper} {s : FS} {w : World}
  {H : Heap} {σ τ : List Ent} {n d : Nat} {ds : List Deferred} {e : List (Nat × Value)} {op : Op} {ty t : TypeId} {pos : String} {aft : Array Edge} {v : Value} {x y : Operand} {b off : Nat} {c : List Value}
theorem wpListIn_mono {F : Fence} {n : Nat} {P : Program} {ops : Array Oper} {Q Q' : Exit → Act → World → Prop} (hq : ∀ x a w, Q x a w → Q' x a w) :
    ∀ (l : List Oper) (a : Act) (w : World), wpListIn F n P ops Q l a w → wpListIn F n P ops Q' l a w := by
  have key : ∀ (o : Oper) (K K' : Act → World → Prop), (∀ a w, K a w → K' a w) → ∀ a w, o.wpIn F n P a w K Q → o.wpIn F n P a w K' Q' := by
    intro o K K' hk a w hh
    unfold Oper.wpIn at *
    refine ⟨hh.1, ?_⟩
    have hh := hh.2
    generalize (o.semAt F.round a.eval).run P w = r at *
    cases r with
    | ok x w' =>
      cases x <;> simp only [Oper.uponIn] at hh ⊢ <;>
        first
          | exact hk _ _ hh
          | exact ⟨hh.1, CallsIn.mono hh.2 (fun e w'' he => by cases e <;> first | exact hk _ _ he | exact hq _ _ _ he | exact (let ⟨a, w, h⟩ := he; ⟨a, w, hq _ _ _ h⟩))⟩
          | exact ⟨hh.1, RowsIn.mono hh.2 (fun _ _ he => hk _ _ he)⟩
          | exact ⟨hh.1, RoundIn.mono hh.2 (fun e w'' he => by cases e <;> first | exact hk _ _ he | exact hq _ _ _ he | exact (let ⟨a, w, h⟩ := he; ⟨a, w, hq _ _ _ h⟩))⟩
    | halt x w' => cases x <;> simp only [Oper.uponIn] at hh ⊢ <;> first | exact hh | exact hq _ _ _ hh
  intro l
  induction l with
  | nil => exact fun a w h => hq _ _ _ h
  | cons o l ih =>
    intro a w h
    simp only [wpListIn] at h ⊢
    split
    · rename_i hw; simp only [hw, if_true] at h; exact key o _ _ ih _ _ h
    · rename_i hw; simp only [hw] at h; exact ⟨h.1, ih _ _ h.2⟩
theorem WE.region {id : Nat} {l : List Oper} (h : WO P ro l.toArray l (Q .normal) s w) : WE P ro (.region id l.toArray false) Q s w := fun a ha =>
  wpIn_region_lit (wpListIn_mono (fun x a w ⟨s', h1, h2⟩ => ⟨s', h1, by cases x <;> first | exact h2 | exact h2.elim⟩) _ _ _ (h a ha))
theorem WE.regSeq {id : Nat} {l : List Oper} {c : Code} (h : WO P ro l.toArray l (WE P ro c Q) s w) : WE P ro (.seq (.region id l.toArray false) c) Q s w :=
  .seq (.region h)
theorem WO.nil (h : K s w) : WO P ro ops [] K s w := fun _ ha => ⟨s, ha, h⟩
theorem OJ.mono {o : Oper} {K' : FS → World → Prop} (h : OJ P ro o K s w) (hk : ∀ s w, K s w → K' s w) : OJ P ro o K' s w :=
  fun a ha => Oper.wpIn_mono (fun _ _ ⟨s', h1, h2⟩ => ⟨s', h1, hk _ _ h2⟩) (h a ha)
theorem wpIn_Q {F : Fence} {n : Nat} {P : Program} {o : Oper} {a : Act} {w : World} {K : Act → World → Prop} {Q : Exit → Act → World → Prop} (hh : o.wpIn F n P a w K (fun _ _ _ => False)) : o.wpIn F n P a w K Q := by
  unfold Oper.wpIn at *
  refine ⟨hh.1, ?_⟩
  have hh := hh.2
  generalize (o.semAt F.round a.eval).run P w = r at *
  cases r with
  | ok x w' =>
    cases x <;> simp only [Oper.uponIn] at hh ⊢ <;>
      first
        | exact hh
        | exact ⟨hh.1, CallsIn.mono hh.2 (fun e w'' he => by cases e <;> first | exact he | exact he.elim | exact (let ⟨_, _, h⟩ := he; h.elim))⟩
        | exact ⟨hh.1, RoundIn.mono hh.2 (fun e w'' he => by cases e <;> first | exact he | exact he.elim | exact (let ⟨_, _, h⟩ := he; h.elim))⟩
  | halt x w' => cases x <;> simp only [Oper.uponIn] at hh ⊢ <;> first | exact hh | exact hh.elim
theorem WO.o {dst : Option Tmp} (h : OJ P ro ⟨dst, op, ty, pos, aft, none⟩ (WO P ro ops rest K) s w) : WO P ro ops (⟨dst, op, ty, pos, aft, none⟩ :: rest) K s w := fun a ha => by
  simp only [wpListIn, Region.wanted, if_true]
  exact Oper.wpIn_mono (fun a' w' ⟨s', h1, h2⟩ => h2 a' h1) (wpIn_Q (h a ha))
theorem QJ.oj (hq : QJ P H σ ⟨n, ds, e⟩ op v) (hs : St H w σ) (hd : Nat.blt d n = true) (k : K ⟨n, ds, (d, v) :: e⟩ w) : OJ P ro ⟨some d, op, ty, pos, aft, none⟩ K ⟨n, ds, e⟩ w := fun a ha => by
  refine ⟨fun _ _ => trivial, ?_⟩
  rw [Oper.semAt_eq _ _ _ hq.1, hq.2 a w _ _ _ _ _ ha hs]
  exact ⟨_, ha.put hd v, k⟩
theorem WO.q (hs : St H w σ) (hq : QJ P H σ ⟨n, ds, e⟩ op v) (k : WO P ro ops rest K ⟨n, ds, (d, v) :: e⟩ w) (hd : Nat.blt d n = true := by rfl) :
    WO P ro ops (⟨some d, op, ty, pos, aft, none⟩ :: rest) K ⟨n, ds, e⟩ w := .o (hq.oj hs hd k)
theorem WO.gT {dst : Option Tmp} {j t' : Nat} {want bb : Bool} (hj : (ops[j]?).bind (·.dst) = some t') (ht : get s.e t' = some (.bool bb))
    (k : WO P ro ops (⟨dst, op, ty, pos, aft, none⟩ :: rest) K s w) (hb : bb = want := by rfl) : WO P ro ops (⟨dst, op, ty, pos, aft, some (j, want)⟩ :: rest) K s w := fun a ha => by
  have h := k a ha
  have hl : t' < a.tmps.size := by
    rcases Nat.lt_or_ge t' a.tmps.size with h | h
    · exact h
    · have := ha.val t' _ ht; simp [Array.getElem?_eq_none h, undef] at this
  have hv : a.tmps[t']? = some (.bool bb) := by have := ha.val t' _ ht; simp [hl] at this ⊢; exact this
  have hy : yielded ops a.tmps j = some bb := by unfold yielded; rw [hj]; simp [hv]
  simp only [wpListIn, Region.wanted, if_true] at h
  simp only [wpListIn, Region.wanted, hy, hb, beq_self_eq_true, if_true]
  exact h
theorem WO.gF {j t' : Nat} {want : Bool} {u : Value} (hj : (ops[j]?).bind (·.dst) = some t') (ht : get e t' = some u)
    (k : WO P ro ops rest K ⟨n, ds, (d, undef) :: e⟩ w) (hb : u ≠ .bool want := by simp [undef]) (hd : Nat.blt d n = true := by rfl) : WO P ro ops (⟨some d, op, ty, pos, aft, some (j, want)⟩ :: rest) K ⟨n, ds, e⟩ w := fun a ha => by
  have h := k _ (ha.put hd undef)
  have hy : ¬ yielded ops a.tmps j = some want := by
    unfold yielded; rw [hj]
    intro hh
    simp only [Option.bind_some] at hh
    rcases Nat.lt_or_ge t' a.tmps.size with hl | hl
    · have := ha.val t' _ ht
      simp only [Array.getD_eq_getD_getElem?, Array.getElem?_eq_getElem hl, Option.getD_some] at this
      rw [Array.getElem?_eq_getElem hl, this] at hh
      cases u <;> simp at hh
      exact hb (by rw [hh])
    · rw [Array.getElem?_eq_none hl] at hh; simp at hh
  simp only [wpListIn, Region.wanted, beq_iff_eq, hy, if_false]
  exact ⟨fun _ _ => trivial, h⟩
theorem WO.bif {t' : Nat} {bb : Bool} (ht : get e t' = some (.bool bb)) (h1 : bb = true → WO P ro ops rest K ⟨n, ds, (t', .bool true) :: e⟩ w) (h2 : bb = false → WO P ro ops rest K ⟨n, ds, (t', .bool false) :: e⟩ w) :
    WO P ro ops rest K ⟨n, ds, e⟩ w := fun a ha => by
  have key : ∀ b : Bool, bb = b → Sim ⟨n, ds, (t', .bool b) :: e⟩ a := fun b hb => ⟨ha.size, ha.ds, fun k v hk => by
    simp only [get] at hk
    cases hh : Nat.beq t' k with
    | true => rw [hh] at hk; simp only [cond_true, Option.some.injEq] at hk; rw [← Nat.eq_of_beq_eq_true hh, ← hk, ← hb]; exact ha.val _ _ ht
    | false => rw [hh] at hk; exact ha.val _ _ hk⟩
  cases bb with
  | true => exact h1 rfl a (key true rfl)
  | false => exact h2 rfl a (key false rfl)
theorem WE.bif {c : Code} {t' : Nat} {bb : Bool} (ht : get e t' = some (.bool bb)) (h1 : bb = true → WE P ro c Q ⟨n, ds, (t', .bool true) :: e⟩ w) (h2 : bb = false → WE P ro c Q ⟨n, ds, (t', .bool false) :: e⟩ w) :
    WE P ro c Q ⟨n, ds, e⟩ w := fun a ha => by
  have key : ∀ b : Bool, bb = b → Sim ⟨n, ds, (t', .bool b) :: e⟩ a := fun b hb => ⟨ha.size, ha.ds, fun k v hk => by
    simp only [get] at hk
    cases hh : Nat.beq t' k with
    | true => rw [hh] at hk; simp only [cond_true, Option.some.injEq] at hk; rw [← Nat.eq_of_beq_eq_true hh, ← hk, ← hb]; exact ha.val _ _ ht
    | false => rw [hh] at hk; exact ha.val _ _ hk⟩
  cases bb with
  | true => exact h1 rfl a (key true rfl)
  | false => exact h2 rfl a (key false rfl)
theorem WO.bifD {t' : Nat} {p : Prop} [Decidable p] (ht : get e t' = some (.bool (decide p))) (h1 : p → WO P ro ops rest K ⟨n, ds, (t', .bool true) :: e⟩ w) (h2 : ¬ p → WO P ro ops rest K ⟨n, ds, (t', .bool false) :: e⟩ w) :
    WO P ro ops rest K ⟨n, ds, e⟩ w := .bif ht (fun h => h1 (of_decide_eq_true h)) (fun h => h2 (of_decide_eq_false h))
theorem WO.bifN {t' : Nat} {p : Prop} [Decidable p] (ht : get e t' = some (.bool (!decide p))) (h1 : ¬ p → WO P ro ops rest K ⟨n, ds, (t', .bool true) :: e⟩ w) (h2 : p → WO P ro ops rest K ⟨n, ds, (t', .bool false) :: e⟩ w) :
    WO P ro ops rest K ⟨n, ds, e⟩ w := .bif ht (fun h => h1 (by simpa using h)) (fun h => h2 (by simpa using h))
theorem WE.condD {x : Operand} {c d : Code} {p : Prop} [Decidable p] (hx : s.ev x = some (.bool (decide p))) (h1 : p → WE P ro c Q s w) (h2 : ¬ p → WE P ro d Q s w) : WE P ro (.cond x c d) Q s w :=
  .cond hx (fun h => h1 (of_decide_eq_true h)) (fun h => h2 (of_decide_eq_false h))
theorem WE.condN {x : Operand} {c d : Code} {p : Prop} [Decidable p] (hx : s.ev x = some (.bool (!decide p))) (h1 : ¬ p → WE P ro c Q s w) (h2 : p → WE P ro d Q s w) : WE P ro (.cond x c d) Q s w :=
  .cond hx (fun h => h1 (by simpa using h)) (fun h => h2 (by simpa using h))
def offs (j : Nat) (want : Bool) (n : Nat) : List Oper → Bool
  | [] => true
  | o :: l => (match o.guard with | some (j', w') => Nat.beq j j' && (want == w') | none => false) && (match o.dst with | some d => Nat.blt d n | none => true) && offs j want n l
def offE : List Oper → List (Nat × Value) → List (Nat × Value)
  | [], e => e
  | o :: l, e => offE l (match o.dst with | some d => (d, undef) :: e | none => e)
theorem not_yielded {a : Act} {j t' : Nat} {want : Bool} {u : Value} (hj : (ops[j]?).bind (·.dst) = some t') (ht : a.tmps.getD t' undef = u) (hb : u ≠ .bool want) : ¬ yielded ops a.tmps j = some want := by
  unfold yielded; rw [hj]
  intro hh
  simp only [Option.bind_some] at hh
  rcases Nat.lt_or_ge t' a.tmps.size with hl | hl
  · simp only [Array.getD_eq_getD_getElem?, Array.getElem?_eq_getElem hl, Option.getD_some] at ht
    rw [Array.getElem?_eq_getElem hl, ht] at hh
    cases u <;> simp at hh
    exact hb (by rw [hh])
  · rw [Array.getElem?_eq_none hl] at hh; simp at hh
theorem WO.gFs {l : List Oper} (m j : Nat) (want : Bool) {t' : Nat} {u : Value} (hj : (ops[j]?).bind (·.dst) = some t') (ht : get e t' = some u) (hoff : offs j want n (l.take m) = true)
    (k : WO P ro ops (l.drop m) K ⟨n, ds, offE (l.take m) e⟩ w) (hb : u ≠ .bool want := by simp [undef]) (hn : (l.take m).all (fun o => match o.dst with | some d => !Nat.beq d t' | none => true) = true := by rfl) : WO P ro ops l K ⟨n, ds, e⟩ w := by
  induction m generalizing l e with
  | zero => simpa [offE] using k
  | succ m ih =>
    cases l with
    | nil => simpa [offE] using k
    | cons o l =>
      simp only [List.take_succ_cons, offs, Bool.and_eq_true, List.all_cons] at hoff hn
      obtain ⟨⟨hg, hd⟩, hoff⟩ := hoff
      obtain ⟨dst, op, ty, pos, aft, g⟩ := o
      cases g with
      | none => simp at hg
      | some g =>
        obtain ⟨j', w'⟩ := g
        simp only [Bool.and_eq_true, beq_iff_eq] at hg
        obtain ⟨h1, rfl⟩ := hg
        obtain rfl := Nat.eq_of_beq_eq_true h1
        simp only [List.take_succ_cons, List.drop_succ_cons, offE] at k
        intro a ha
        have hy := not_yielded (ops := ops) (a := a) hj (ha.val _ _ ht) hb
        simp only [wpListIn, Region.wanted, beq_iff_eq, hy, if_false]
        refine ⟨fun _ _ => trivial, ?_⟩
        cases dst with
        | none => exact ih ht hoff k hn.2 a ha
        | some d =>
          refine ih (e := (d, undef) :: e) ?_ hoff k hn.2 _ (ha.put hd undef)
          simp only [get]
          have : Nat.beq d t' = false := by simpa using hn.1
          rw [this]; exact ht
theorem q_move (hx : FS.ev s x = some v) : QJ P H σ s (.move x) v :=
  ⟨fun _ => by simp, fun a w _ _ _ _ _ ha _ => by simp only [execOp, ha.ev hx]; rfl⟩
theorem q_assign (hx : FS.ev s x = some v) : QJ P H σ s (.assign x) v :=
  ⟨fun _ => by simp, fun a w _ _ _ _ _ ha _ => by simp only [execOp, ha.ev hx]; rfl⟩
theorem q_pickT {z : Operand} {u : Value} (hc : FS.ev s x = some (.bool true)) (hu : FS.ev s y = some u) : QJ P H σ s (.pick x y z) u :=
  ⟨fun _ => by simp, fun a w _ _ _ _ _ ha _ => by simp only [execOp, ha.ev hc, ha.ev hu]; rfl⟩
theorem q_pickF {z : Operand} {u : Value} (hc : FS.ev s x = some (.bool false)) (hu : FS.ev s z = some u) : QJ P H σ s (.pick x y z) u :=
  ⟨fun _ => by simp, fun a w _ _ _ _ _ ha _ => by simp only [execOp, ha.ev hc, ha.ev hu]; rfl⟩
section int
variable {k : IntKind} {p q : Int} {ty' : TypeId}
theorem run_bin {op : BinOp} {p q : Int} {v : Value} (hop : ¬ (op = .eql ∨ op = .neq)) (h : ∀ w, (binOp op t (.int k p) (.int k q)).run P w = .ok v w)
    (hx : FS.ev s x = some (.int k p)) (hy : FS.ev s y = some (.int k q)) : QJ P H σ s (.binOp op t x y ty') v :=
  ⟨fun _ => by simp, fun a w _ _ _ _ _ ha _ => by
    have hg : eqGuard op t x y (.int k p) (.int k q) = pure () := by
      unfold eqGuard
      cases op <;> simp at hop <;> rfl
    simp only [execOp, ha.ev hx, ha.ev hy, hg, pure_bind, Sem.run_bind, h w]; rfl⟩
theorem q_add (hx : FS.ev s x = some (.int k p)) (hy : FS.ev s y = some (.int k q)) : QJ P H σ s (.binOp .add t x y ty') (.int k (k.wrap (p + q))) :=
  run_bin (by simp) (fun w => by simp [binOp, Op.intArith]) hx hy
theorem q_sub (hx : FS.ev s x = some (.int k p)) (hy : FS.ev s y = some (.int k q)) : QJ P H σ s (.binOp .sub t x y ty') (.int k (k.wrap (p - q))) :=
  run_bin (by simp) (fun w => by simp [binOp, Op.intArith]) hx hy
theorem q_mul (hx : FS.ev s x = some (.int k p)) (hy : FS.ev s y = some (.int k q)) : QJ P H σ s (.binOp .mul t x y ty') (.int k (k.wrap (p * q))) :=
  run_bin (by simp) (fun w => by simp [binOp, Op.intArith]) hx hy
theorem i64wrap {m : Int} (h : -9223372036854775808 ≤ m ∧ m ≤ 9223372036854775807) : IntKind.i64.wrap m = m := by
  exact IntWalk.i64_in m h
theorem q_addF {p q : Int} (hx : FS.ev s x = some (.int .i64 p)) (hy : FS.ev s y = some (.int .i64 q)) (h : -9223372036854775808 ≤ p + q ∧ p + q ≤ 9223372036854775807) : QJ P H σ s (.binOp .add t x y ty') (.int .i64 (p + q)) := by
  have := q_add (P := P) (H := H) (σ := σ) (t := t) (ty' := ty') hx hy; rwa [i64wrap h] at this
theorem q_subF {p q : Int} (hx : FS.ev s x = some (.int .i64 p)) (hy : FS.ev s y = some (.int .i64 q)) (h : -9223372036854775808 ≤ p - q ∧ p - q ≤ 9223372036854775807) : QJ P H σ s (.binOp .sub t x y ty') (.int .i64 (p - q)) := by
  have := q_sub (P := P) (H := H) (σ := σ) (t := t) (ty' := ty') hx hy; rwa [i64wrap h] at this
theorem q_mulF {p q : Int} (hx : FS.ev s x = some (.int .i64 p)) (hy : FS.ev s y = some (.int .i64 q)) (h : -9223372036854775808 ≤ p * q ∧ p * q ≤ 9223372036854775807) : QJ P H σ s (.binOp .mul t x y ty') (.int .i64 (p * q)) := by
  have := q_mul (P := P) (H := H) (σ := σ) (t := t) (ty' := ty') hx hy; rwa [i64wrap h] at this
theorem q_lss (hx : FS.ev s x = some (.int k p)) (hy : FS.ev s y = some (.int k q)) : QJ P H σ s (.binOp .lss t x y ty') (.bool (decide (p < q))) :=
  run_bin (by simp) (fun w => by simp [binOp, Op.intCmp]) hx hy
theorem q_leq (hx : FS.ev s x = some (.int k p)) (hy : FS.ev s y = some (.int k q)) : QJ P H σ s (.binOp .leq t x y ty') (.bool (decide (p ≤ q))) :=
  run_bin (by simp) (fun w => by simp [binOp, Op.intCmp]) hx hy
theorem q_gtr (hx : FS.ev s x = some (.int k p)) (hy : FS.ev s y = some (.int k q)) : QJ P H σ s (.binOp .gtr t x y ty') (.bool (decide (q < p))) :=
  run_bin (by simp) (fun w => by simp [binOp, Op.intCmp]) hx hy
theorem q_geq (hx : FS.ev s x = some (.int k p)) (hy : FS.ev s y = some (.int k q)) : QJ P H σ s (.binOp .geq t x y ty') (.bool (decide (q ≤ p))) :=
  run_bin (by simp) (fun w => by simp [binOp, Op.intCmp]) hx hy
theorem run_eq {op : BinOp} {p q : Int} {v : Value} (h : ∀ w, (binOp op t (.int k p) (.int k q)).run P w = .ok v w)
    (hx : FS.ev s x = some (.int k p)) (hy : FS.ev s y = some (.int k q)) : QJ P H σ s (.binOp op t x y ty') v :=
  ⟨fun _ => by simp, fun a w _ _ _ _ _ ha _ => by
    have hg : (eqGuard op t x y (.int k p) (.int k q)).run P w = .ok () w := by
      unfold eqGuard
      by_cases ho : (!(op matches .eql | .neq)) = true
      · simp
      · simp
    simp only [execOp, ha.ev hx, ha.ev hy, Sem.run_bind, hg, Result.andThen, h w]; rfl⟩
theorem q_eql (hx : FS.ev s x = some (.int k p)) (hy : FS.ev s y = some (.int k q)) : QJ P H σ s (.binOp .eql t x y ty') (.bool (decide (p = q))) :=
  run_eq (fun w => by simp [binOp, Op.intCmp]; rfl) hx hy
theorem q_neq (hx : FS.ev s x = some (.int k p)) (hy : FS.ev s y = some (.int k q)) : QJ P H σ s (.binOp .neq t x y ty') (.bool (!decide (p = q))) :=
  run_eq (fun w => by simp [binOp, Op.intCmp, bne]; rfl) hx hy
theorem q_rem (hx : FS.ev s x = some (.int k p)) (hy : FS.ev s y = some (.int k q)) (h : q ≠ 0) : QJ P H σ s (.binOp .rem t x y ty') (.int k (p.tmod q)) :=
  run_bin (by simp) (fun w => by simp [binOp, Op.intDiv, h]) hx hy
theorem q_quo (hx : FS.ev s x = some (.int k p)) (hy : FS.ev s y = some (.int k q)) (h : q ≠ 0) : QJ P H σ s (.binOp .quo t x y ty') (.int k (k.wrap (p.tdiv q))) :=
  run_bin (by simp) (fun w => by simp [binOp, Op.intDiv, h]) hx hy
theorem q_neg (hx : FS.ev s x = some (.int k p)) : QJ P H σ s (.unOp .neg t x) (.int k (k.wrap (0 - p))) :=
  ⟨fun _ => by simp, fun a w _ _ _ _ _ ha _ => by simp only [execOp, ha.ev hx, Op.unary, Op.intArith]; rfl⟩
theorem q_negF {p : Int} (hx : FS.ev s x = some (.int .i64 p)) (h : -9223372036854775807 ≤ p ∧ p ≤ 9223372036854775807) : QJ P H σ s (.unOp .neg t x) (.int .i64 (-p)) := by
  have := q_neg (P := P) (H := H) (σ := σ) (t := t) hx; rw [i64wrap (by omega), Int.zero_sub] at this; exact this
theorem q_not {bb : Bool} (hx : FS.ev s x = some (.bool bb)) : QJ P H σ s (.unOp .not t x) (.bool !bb) :=
  ⟨fun _ => by simp, fun a w _ _ _ _ _ ha _ => by simp only [execOp, ha.ev hx, Op.unary]; rfl⟩
end int
def FA (P : Program) (t k o : Nat) : Prop := ∀ (b off : Nat) (w : World), (Instr.fieldAt t (.pointer (some ⟨b, off, none⟩)) k).run P w = .ok (.pointer (some ⟨b, off + o, none⟩)) w
theorem faOf {fs : Array Field} {k m : Nat} {f : Field} (hu : ∀ w, (underlying t).run P w = .ok (.struct fs) w) (hf : fs[k]? = some f) (hz : ∀ w, (sizeOf f.type).run P w = .ok (m + 1) w) : FA P t k f.offset := fun b off w => by
  simp only [Instr.fieldAt, Instr.sureAddr, fieldPlace, Sem.run_bind, hu w, Result.andThen, hf, Sem.run_pure, hz w]
  simp only [Nat.add_one_ne_zero, if_false, Sem.run_pure, Addr.add]
  by_cases h0 : f.offset = 0 <;> simp [h0]
theorem q_fa {b off k o : Nat} (hx : FS.ev s x = some (.pointer (some ⟨b, off, none⟩))) (hf : FA P t k o) : QJ P H σ s (.fieldAddr t x k) (.pointer (some ⟨b, off + o, none⟩)) :=
  ⟨fun _ => by simp, fun a w _ _ _ _ _ ha _ => by simp only [execOp, ha.ev hx, Sem.run_bind, hf b off w]; rfl⟩
theorem q_load {b off : Nat} (hx : FS.ev s x = some (.pointer (some ⟨b, off, none⟩))) (ha : ∀ w, (isAgg t).run P w = .ok false w) {c : List Value} (hm : Mem σ (.blk b c) := by repeat (first | exact .here | refine .there ?_)) (hv : c[off]? = some v := by first | rfl | exact Is_gi (by first | assumption | omega)) :
    QJ P H σ s (.load t x) v :=
  ⟨fun _ => by simp, fun a w _ _ _ _ _ hs hst => by
    have hc : w.cell? ⟨b, off, none⟩ = some v := (cell?_own hst hm off).trans hv
    simp only [execOp, hs.ev hx, Instr.loadAt, Instr.sureAddr, loadVar, Sem.run_bind, Sem.run_pure, Result.andThen, ha w]
    simp [load, Sem.run, hc]⟩
theorem q_loadR {b off : Nat} (hx : FS.ev s x = some (.pointer (some ⟨b, off, none⟩))) (ha : ∀ w, (isAgg t).run P w = .ok false w) (hv : cellAt H b off = some v) :
    QJ P H σ s (.load t x) v :=
  ⟨fun _ => by simp, fun a w _ _ _ _ _ hs hst => by
    have hc : w.cell? ⟨b, off, none⟩ = some v := cell?_ro hst hv
    simp only [execOp, hs.ev hx, Instr.loadAt, Instr.sureAddr, loadVar, Sem.run_bind, Sem.run_pure, Result.andThen, ha w]
    simp [load, Sem.run, hc]⟩
def CellsAt (H : Heap) (b off : Nat) (vs : List Value) : Prop := ∀ i v, vs[i]? = some v → cellAt H b (off + i) = some v
theorem CellsAt.mono {H H' : Heap} {b off : Nat} {vs : List Value} (h : CellsAt H b off vs) (hl : HLe H H') : CellsAt H' b off vs := fun i v e => cellAt.mono (h i v e) hl
theorem addr_add (b off i : Nat) : Addr.add ⟨b, off, none⟩ i = ⟨b, off + i, none⟩ := by
  unfold Addr.add; by_cases h : i = 0 <;> simp [h]
theorem run_loadList {w : World} {b off : Nat} {vs : List Value} (h : ∀ i v, vs[i]? = some v → w.cell? ⟨b, off + i, none⟩ = some v) : (loadCells ⟨b, off, none⟩ vs.length).run P w = .ok vs.toArray w := by
  have key : ∀ (k : Nat) (acc : Array Value), k ≤ vs.length → (loadCellsFrom ⟨b, off, none⟩ (vs.length - k) k acc).run P w = .ok (acc ++ (vs.drop (vs.length - k)).toArray) w := by
    intro k
    induction k with
    | zero => intro acc _; simp [loadCellsFrom]
    | succ k ih =>
      intro acc hk
      have hlt : vs.length - (k + 1) < vs.length := by omega
      have hc := h (vs.length - (k + 1)) _ (List.getElem?_eq_getElem hlt)
      have e1 : vs.length - (k + 1) + 1 = vs.length - k := by omega
      simp only [loadCellsFrom, load, addr_add, Sem.run_bind, Sem.run, hc, Result.andThen, e1, ih _ (by omega)]
      rw [List.drop_eq_getElem_cons hlt, e1]
      simp
  have := key vs.length #[] (Nat.le_refl _)
  simpa [loadCells] using this
theorem q_loads {b off : Nat} {vs : List Value} (hx : FS.ev s x = some (.pointer (some ⟨b, off, none⟩))) (ha : ∀ w, (isAgg t).run P w = .ok true w) (hz : ∀ w, (sizeOf t).run P w = .ok vs.length w)
    {c : List Value} (hm : Mem σ (.blk b c) := by repeat (first | exact .here | refine .there ?_)) (hv : (c.drop off).take vs.length = vs := by rfl) : QJ P H σ s (.load t x) (.agg vs.toArray) :=
  ⟨fun _ => by simp, fun a w _ _ _ _ _ hs hst => by
    have hc : ∀ i v, vs[i]? = some v → w.cell? ⟨b, off + i, none⟩ = some v := fun i v hi => by
      rw [cell?_own hst hm]
      have hl := (List.getElem?_eq_some_iff.1 hi).1
      rw [← hv, List.getElem?_take, List.getElem?_drop] at hi
      simpa [hl] using hi
    simp only [execOp, hs.ev hx, Instr.loadAt, Instr.sureAddr, loadVar, Sem.run_bind, Sem.run_pure, Result.andThen, ha w, hz w, if_true, run_loadList hc]⟩
theorem q_loadsR {b off : Nat} {vs : List Value} (hx : FS.ev s x = some (.pointer (some ⟨b, off, none⟩))) (ha : ∀ w, (isAgg t).run P w = .ok true w) (hz : ∀ w, (sizeOf t).run P w = .ok vs.length w)
    (hv : CellsAt H b off vs) : QJ P H σ s (.load t x) (.agg vs.toArray) :=
  ⟨fun _ => by simp, fun a w _ _ _ _ _ hs hst => by
    have hc : ∀ i v, vs[i]? = some v → w.cell? ⟨b, off + i, none⟩ = some v := fun i v hi => cell?_ro hst (hv i v hi)
    simp only [execOp, hs.ev hx, Instr.loadAt, Instr.sureAddr, loadVar, Sem.run_bind, Sem.run_pure, Result.andThen, ha w, hz w, if_true, run_loadList hc]⟩
theorem q_index {elem : TypeId} {b off len cap m : Nat} {k : IntKind} {i : Int} (hx : FS.ev s x = some (.slice (some ⟨b, off, none⟩) len cap)) (hy : FS.ev s y = some (.int k i))
    (hu : ∀ w, (underlying t).run P w = .ok (.slice elem) w) (hz : ∀ w, (sizeOf elem).run P w = .ok m w) (hi : 0 ≤ i ∧ i < len) :
    QJ P H σ s (.indexAddr t x y) (.pointer (some ⟨b, off + i.toNat * m, none⟩)) :=
  ⟨fun _ => by simp, fun a w _ _ _ _ _ ha _ => by
    simp only [execOp, ha.ev hx, ha.ev hy, Instr.indexAt, asIntOf, Sem.run_bind, hu w, Result.andThen, Sem.run_pure, hi, and_self, if_true, hz w, addr_add]⟩
theorem q_extract {vs : Array Value} {k : Nat} (hx : FS.ev s x = some (.tuple vs)) (hv : vs[k]? = some v) : QJ P H σ s (.extract x k) v :=
  ⟨fun _ => by simp, fun a w _ _ _ _ _ ha _ => by
    simp only [execOp, ha.ev hx, Instr.extract, hv]; rfl⟩
def evs (s : FS) : List Operand → Option (List Value)
  | [] => some []
  | x :: l => match FS.ev s x, evs s l with
    | some v, some r => some (v :: r)
    | _, _ => none
theorem evs_map {s : FS} {a : Act} (ha : Sim s a) : ∀ {l : List Operand} {vs : List Value}, evs s l = some vs → l.map a.eval = vs := by
  intro l
  induction l with
  | nil => intro vs h; simp only [evs, Option.some.injEq] at h; rw [← h]; rfl
  | cons x l ih =>
    intro vs h
    simp only [evs] at h
    split at h
    · rename_i v r hv hr; simp only [Option.some.injEq] at h; rw [← h, List.map_cons, ha.ev hv, ih hr]
    · cases h
def evp (s : FS) : List (Nat × Operand) → Option (List (Nat × Value))
  | [] => some []
  | (i, x) :: l => match FS.ev s x, evp s l with
    | some v, some r => some ((i, v) :: r)
    | _, _ => none
theorem evp_map {s : FS} {a : Act} (ha : Sim s a) : ∀ {l : List (Nat × Operand)} {vs : List (Nat × Value)}, evp s l = some vs → l.map (fun (i, x) => (i, a.eval x)) = vs := by
  intro l
  induction l with
  | nil => intro vs h; simp only [evp, Option.some.injEq] at h; rw [← h]; rfl
  | cons x l ih =>
    obtain ⟨i, x⟩ := x
    intro vs h
    simp only [evp] at h
    split at h
    · rename_i v r hv hr; simp only [Option.some.injEq] at h; rw [← h, List.map_cons, ih hr]; simp only [ha.ev hv]
    · cases h
theorem q_makeFunc {fn : Fn} {f c : List Operand} {fv cv : List Value} (hf : evs s f = some fv) (hc : evs s c = some cv) : QJ P H σ s (.makeFunc fn f.toArray c.toArray) (.func fn fv.toArray cv.toArray) :=
  ⟨fun _ => by simp, fun a w _ _ _ _ _ ha _ => by
    simp only [execOp, List.map_toArray, evs_map ha hf, evs_map ha hc, Instr.makeFunc]; rfl⟩
def BldT (P : Program) (t : TypeId) (pl : List (Nat × Nat)) (zero : List Value) : Prop :=
  ∀ (parts : List (Nat × Value)) (cells : List Value) (w : World), Instr.fill (fun i => pl[i]?) zero.toArray parts = some cells.toArray → (Instr.build t parts.toArray).run P w = .ok (.agg cells.toArray) w
theorem q_build {pl : List (Nat × Nat)} {zero : List Value} (hb : BldT P t pl zero) {ps : List (Nat × Operand)} {vs : List (Nat × Value)} {cells : List Value} (hp : evp s ps = some vs)
    (hc : Instr.fill (fun i => pl[i]?) zero.toArray vs = some cells.toArray := by rfl) : QJ P H σ s (.build t ps.toArray) (.agg cells.toArray) :=
  ⟨fun _ => by simp, fun a w _ _ _ _ _ ha _ => by
    have := hb vs cells w hc
    simp only [execOp, List.map_toArray, evp_map ha hp, Sem.run_bind, this]; rfl⟩
theorem q_len {elem : TypeId} {a' : Option Addr} {len cap : Nat} (hx : FS.ev s x = some (.slice a' len cap)) (hu : ∀ w, (underlying t).run P w = .ok (.slice elem) w) :
    QJ P H σ s (.call ⟨.builtin .len, #[x], #[t]⟩) (.int .i64 len) :=
  ⟨fun _ => by simp, fun a w _ _ _ _ _ ha _ => by
    simp [execOp, resolve, ha.ev hx, invoke, builtin, Builtin.len_, hu w, goInt, Sem.run_bind]⟩
theorem q_max {k : IntKind} {p q : Int} {ts : Array TypeId} (hx : FS.ev s x = some (.int k p)) (hy : FS.ev s y = some (.int k q)) :
    QJ P H σ s (.call ⟨.builtin .max, #[x, y], ts⟩) (.int k (if q > p then q else p)) :=
  ⟨fun _ => by simp, fun a w _ _ _ _ _ ha _ => by
    simp [execOp, resolve, ha.ev hx, ha.ev hy, invoke, builtin, Builtin.max_, Builtin.max2]⟩
theorem q_min {k : IntKind} {p q : Int} {ts : Array TypeId} (hx : FS.ev s x = some (.int k p)) (hy : FS.ev s y = some (.int k q)) :
    QJ P H σ s (.call ⟨.builtin .min, #[x, y], ts⟩) (.int k (if q < p then q else p)) :=
  ⟨fun _ => by simp, fun a w _ _ _ _ _ ha _ => by
    simp [execOp, resolve, ha.ev hx, ha.ev hy, invoke, builtin, Builtin.min_, Builtin.min2]⟩
theorem q_nilCheckP {a' : Addr} (hx : FS.ev s x = some (.pointer (some a'))) : QJ P H σ s (.nilCheck x) (.pointer (some a')) :=
  ⟨fun _ => by simp, fun a w _ _ _ _ _ ha _ => by simp only [execOp, ha.ev hx]; rfl⟩
end Go.MW
