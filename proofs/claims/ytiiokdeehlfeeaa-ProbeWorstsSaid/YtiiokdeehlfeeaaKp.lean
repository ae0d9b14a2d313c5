/-
  Texts of this claim, joined: Pla Plb Plc Pld Ple Plf Plg Plh Pli Plj Plk Pll Plm Pln Plo.
-/
/-
  Plain facts on lists. No program is named here.
-/
namespace Go.MW
theorem findIdx_hit {α : Type} {p : α → Bool} : ∀ {ls : List α} {k : Nat} {l : α}, ls[k]? = some l → p l = true → (∀ j < k, ∀ l, ls[j]? = some l → p l = false) → ls.findIdx? p = some k := by
  intro ls
  induction ls with
  | nil => intro k l h; simp at h
  | cons x xs ih =>
    intro k l h1 h2 h3
    rw [List.findIdx?_cons]
    cases k with
    | zero => simp only [List.getElem?_cons_zero, Option.some.injEq] at h1; subst h1; simp [h2]
    | succ k =>
      have hx := h3 0 (by omega) x rfl
      simp only [List.getElem?_cons_succ] at h1
      rw [hx, ih h1 h2 (fun j hj l hl => h3 (j + 1) (by omega) l hl)]
      rfl
theorem findIdx_miss {α : Type} {p : α → Bool} {ls : List α} (h : ∀ j < ls.length, ∀ l, ls[j]? = some l → p l = false) : ls.findIdx? p = none := by
  rw [List.findIdx?_eq_none_iff]
  intro x hx
  obtain ⟨i, hi⟩ := List.getElem?_of_mem hx
  exact h i (List.getElem?_eq_some_iff.1 hi).1 x hi
theorem any_findIdx {α : Type} {p : α → Bool} (ls : List α) : ls.any p = (ls.findIdx? p).isSome := by
  induction ls with
  | nil => rfl
  | cons x xs ih => rw [List.findIdx?_cons, List.any_cons, ih]; cases p x <;> simp
theorem upto_succ {α : Type} {ls : List α} {k : Nat} {Q : α → Prop} (h : ∀ j < k, ∀ l, ls[j]? = some l → Q l) {x : α} (hx : ls[k]? = some x) (hq : Q x) : ∀ j < k + 1, ∀ l, ls[j]? = some l → Q l := by
  intro j hj l hl
  by_cases e : j = k
  · subst e; rw [hx] at hl; cases hl; exact hq
  · exact h j (by omega) l hl
end Go.MW

/-
  Difference limits on finitely many unknowns: bounded solutions, levels of tight arcs. Plain Lean; no program is named here.
-/
namespace Go.MW
/-! ### counting -/
/-- how many of the first n have a property: a function that is this (no word for it: it is no program) -/
theorem cnt_ex : ∃ f : (Nat → Prop) → Nat → Nat, (∀ p, f p 0 = 0) ∧ ∀ p n, (p n → f p (n + 1) = f p n + 1) ∧ (¬ p n → f p (n + 1) = f p n) := by
  classical
  refine ⟨fun p n => Nat.rec (motive := fun _ => Nat) 0 (fun k r => r + if p k then 1 else 0) n, fun _ => rfl, fun p n => ⟨fun h => ?_, fun h => ?_⟩⟩
  · show _ + (if p n then 1 else 0) = _; rw [if_pos h]
  · show _ + (if p n then 1 else 0) = _; rw [if_neg h]; rfl
theorem cnt_zero (p : Nat → Prop) : (Classical.choose cnt_ex) p 0 = 0 := (Classical.choose_spec cnt_ex).1 p
open Classical in
theorem cnt_succ (p : Nat → Prop) (n : Nat) : (Classical.choose cnt_ex) p (n + 1) = (Classical.choose cnt_ex) p n + if p n then 1 else 0 := by
  by_cases h : p n
  · rw [((Classical.choose_spec cnt_ex).2 p n).1 h, if_pos h]
  · rw [((Classical.choose_spec cnt_ex).2 p n).2 h, if_neg h]; rfl
theorem cnt_le (p : Nat → Prop) (n : Nat) : (Classical.choose cnt_ex) p n ≤ n := by
  induction n with
  | zero => rw [cnt_zero]; exact Nat.le_refl _
  | succ n ih => simp only [cnt_succ]; split <;> omega
theorem cnt_mono {p q : Nat → Prop} {n : Nat} (h : ∀ v < n, p v → q v) : (Classical.choose cnt_ex) p n ≤ (Classical.choose cnt_ex) q n := by
  induction n with
  | zero => rw [cnt_zero, cnt_zero]; exact Nat.le_refl _
  | succ n ih =>
    have := ih fun v hv => h v (by omega)
    have h2 := h n (by omega)
    simp only [cnt_succ]
    by_cases hp : p n
    · simp [hp, h2 hp]; omega
    · simp only [hp, if_false]; omega
theorem cnt_lt {p q : Nat → Prop} {n : Nat} (h : ∀ v < n, p v → q v) {u : Nat} (hu : u < n) (hq : q u) (hp : ¬ p u) : (Classical.choose cnt_ex) p n < (Classical.choose cnt_ex) q n := by
  induction n with
  | zero => omega
  | succ n ih =>
    simp only [cnt_succ]
    by_cases e : u = n
    · subst e
      have := cnt_mono (p := p) (q := q) (n := u) fun v hv => h v (by omega)
      simp [hp, hq]; omega
    · have := ih (fun v hv => h v (by omega)) (by omega)
      have h2 := h n (by omega)
      by_cases hp : p n
      · simp [hp, h2 hp]; omega
      · simp only [hp, if_false]; omega
theorem cnt_all {p : Nat → Prop} {n : Nat} (h : n ≤ (Classical.choose cnt_ex) p n) : ∀ v < n, p v := by
  intro v hv
  refine Classical.byContradiction fun hp => ?_
  have := cnt_lt (p := p) (q := fun _ => True) (n := n) (fun _ _ _ => trivial) hv trivial hp
  have := cnt_le (fun _ => True) n
  omega
theorem cnt_pos {p : Nat → Prop} {n u : Nat} (hu : u < n) (hp : p u) : 0 < (Classical.choose cnt_ex) p n := by
  have := cnt_lt (p := fun _ => False) (q := p) (n := n) (fun _ _ h => h.elim) hu hp (fun h => h)
  omega
/-- a rising chain of sets of fewer than n unknowns, which grows until all are in it -/
theorem cnt_chain {L : Nat → Nat → Prop} {n : Nat} (hm : ∀ k v, L k v → L (k + 1) v) (hg : ∀ k, (∀ v < n, L k v) ∨ ∃ v, v < n ∧ L (k + 1) v ∧ ¬ L k v) (h0 : ∃ v, v < n ∧ L 0 v) :
    ∀ v < n, L (n - 1) v := by
  have key : ∀ k, k + 1 ≤ n → k + 1 ≤ (Classical.choose cnt_ex) (L k) n := by
    intro k
    induction k with
    | zero => intro _; obtain ⟨v, h1, h2⟩ := h0; exact cnt_pos h1 h2
    | succ k ih =>
      intro hk
      have h1 := ih (by omega)
      rcases hg k with h | ⟨v, h2, h3, h4⟩
      · have : (Classical.choose cnt_ex) (fun _ => True) n ≤ (Classical.choose cnt_ex) (L (k + 1)) n := cnt_mono fun v hv _ => hm k v (h v hv)
        have h5 : n ≤ (Classical.choose cnt_ex) (fun _ => True) n := by
          clear this h h1 hk ih h0 hg
          induction n with
          | zero => omega
          | succ n ih => simp only [cnt_succ, if_true]; omega
        omega
      · have := cnt_lt (p := L k) (q := L (k + 1)) (n := n) (fun v _ h => hm k v h) h2 h3 h4
        omega
  obtain ⟨v, hv, _⟩ := h0
  refine cnt_all ?_
  have := key (n - 1) (by omega)
  omega
/-! ### sums over the first n numbers -/
def sumTo (f : Nat → Int) : Nat → Int
  | 0 => 0
  | n + 1 => sumTo f n + f n
theorem sumTo_congr {f g : Nat → Int} {n : Nat} (h : ∀ v < n, f v = g v) : sumTo f n = sumTo g n := by
  induction n with
  | zero => rfl
  | succ n ih => simp only [sumTo, ih fun v hv => h v (by omega), h n (by omega)]
theorem sumTo_le {f g : Nat → Int} {n : Nat} (h : ∀ v < n, f v ≤ g v) : sumTo f n ≤ sumTo g n := by
  induction n with
  | zero => exact Int.le_refl _
  | succ n ih =>
    have h1 := ih fun v hv => h v (by omega)
    have h2 := h n (by omega)
    simp only [sumTo]; omega
theorem sumTo_lt {f g : Nat → Int} {n : Nat} (h : ∀ v < n, f v ≤ g v) {u : Nat} (hu : u < n) (hl : f u < g u) : sumTo f n < sumTo g n := by
  induction n with
  | zero => omega
  | succ n ih =>
    simp only [sumTo]
    by_cases e : u = n
    · subst e
      have := sumTo_le (f := f) (g := g) (n := u) fun v hv => h v (by omega)
      omega
    · have h1 := ih (fun v hv => h v (by omega)) (by omega)
      have h2 := h n (by omega)
      omega
theorem sumTo_add (f g : Nat → Int) (n : Nat) : sumTo (fun v => f v + g v) n = sumTo f n + sumTo g n := by
  induction n with
  | zero => rfl
  | succ n ih => simp only [sumTo, ih]; omega
theorem sumTo_sub (f g : Nat → Int) (n : Nat) : sumTo (fun v => f v - g v) n = sumTo f n - sumTo g n := by
  induction n with
  | zero => rfl
  | succ n ih => simp only [sumTo, ih]; omega
theorem sumTo_neg (f : Nat → Int) (n : Nat) : sumTo (fun v => - f v) n = - sumTo f n := by
  induction n with
  | zero => rfl
  | succ n ih => simp only [sumTo, ih]; omega
theorem sumTo_mul (f : Nat → Int) (c : Int) (n : Nat) : sumTo (fun v => c * f v) n = c * sumTo f n := by
  induction n with
  | zero => simp [sumTo]
  | succ n ih => simp only [sumTo, ih, Int.mul_add]
theorem sumTo_zero (n : Nat) : sumTo (fun _ => 0) n = 0 := by
  induction n with
  | zero => rfl
  | succ n ih => simp only [sumTo, ih]; rfl
theorem sumTo_const (c : Int) (n : Nat) : sumTo (fun _ => c) n = n * c := by
  induction n with
  | zero => simp [sumTo]
  | succ n ih => simp only [sumTo, ih]; rw [Int.natCast_succ, Int.add_mul, Int.one_mul]
theorem sumTo_nonneg {f : Nat → Int} {n : Nat} (h : ∀ v < n, 0 ≤ f v) : 0 ≤ sumTo f n := by
  have := sumTo_le (f := fun _ => 0) (g := f) h
  rwa [sumTo_zero] at this
theorem sumTo_one {f : Nat → Int} {n u : Nat} (hu : u < n) (h : ∀ v < n, v ≠ u → f v = 0) : sumTo f n = f u := by
  induction n with
  | zero => omega
  | succ n ih =>
    simp only [sumTo]
    by_cases e : u = n
    · subst e
      rw [sumTo_congr (g := fun _ => 0) (fun v hv => h v (by omega) (by omega)), sumTo_zero]; omega
    · rw [ih (by omega) fun v hv => h v (by omega), h n (by omega) (by omega)]; omega
/-! ### limits -/
structure Arc where
  f : Nat
  t : Nat
  c : Int
  l : Int
/-- a solution of all -/
def Feas (as : List Arc) (p : Nat → Int) : Prop := ∀ x ∈ as, p x.t ≤ p x.f + x.c
/-- all on n unknowns, none below -C -/
def ArcsIn (as : List Arc) (n : Nat) (C : Int) : Prop := ∀ x ∈ as, x.f < n ∧ x.t < n ∧ -C ≤ x.c
theorem least_nat (p : Nat → Prop) (n : Nat) (h : p n) : ∃ n, p n ∧ ∀ m, p m → n ≤ m := by
  induction n using Nat.strongRecOn with
  | _ n ih =>
    by_cases hm : ∃ m, m < n ∧ p m
    · obtain ⟨m, h1, h2⟩ := hm; exact ih m h1 h2
    · exact ⟨n, h, fun m hp => Nat.le_of_not_lt fun hl => hm ⟨m, hl, hp⟩⟩
/-- what is reached by at most k tight arcs from where D is 0 -/
def Lev (as : List Arc) (D : Nat → Int) : Nat → Nat → Prop
  | 0, v => D v = 0
  | k + 1, v => Lev as D k v ∨ ∃ x ∈ as, x.t = v ∧ Lev as D k x.f ∧ D v = D x.f + x.c
theorem Lev.low {as : List Arc} {D : Nat → Int} {C : Int} (hC : 0 ≤ C) (hc : ∀ x ∈ as, -C ≤ x.c) : ∀ (k : Nat) (v : Nat), Lev as D k v → -(k * C) ≤ D v := by
  intro k
  induction k with
  | zero => intro v h; simp only [Lev] at h; omega
  | succ k ih =>
    intro v h
    have e : ((k + 1 : Nat) : Int) * C = k * C + C := by rw [Int.natCast_succ, Int.add_mul, Int.one_mul]
    rw [e]
    rcases h with h | ⟨x, hx, _, h, hd⟩
    · have := ih v h; omega
    · have := ih _ h; have := hc x hx; omega
/-- the greatest solution below 0: whoever is not 0 is held by a tight arc -/
theorem Feas.greatest {as : List Arc} {n : Nat} {p : Nat → Int} (hn : 0 < n) (hin : ∀ x ∈ as, x.f < n ∧ x.t < n) (h : Feas as p) :
    ∃ D, Feas as D ∧ (∀ v, D v ≤ 0) ∧ ∀ v < n, Lev as D (n - 1) v := by
  -- solutions below 0 on the first n, 0 elsewhere
  let S : Nat → Prop := fun m => ∃ D : Nat → Int, Feas as D ∧ (∀ v, D v ≤ 0) ∧ sumTo (fun v => - D v) n = (m : Int)
  have hS : ∃ m, S m := by
    obtain ⟨M, hM⟩ : ∃ M : Int, ∀ v < n, p v ≤ M := by
      clear hn hin
      induction n with
      | zero => exact ⟨0, fun v hv => by omega⟩
      | succ n ih =>
        obtain ⟨M, hM⟩ := ih
        refine ⟨max M (p n), fun v hv => ?_⟩
        by_cases e : v = n
        · subst e; omega
        · have := hM v (by omega); omega
    let D : Nat → Int := fun v => if v < n then p v - M else 0
    have hD : ∀ v, D v ≤ 0 := fun v => by
      simp only [D]; split
      · rename_i hv; have := hM v hv; omega
      · omega
    have h1 : 0 ≤ sumTo (fun v => - D v) n := sumTo_nonneg fun v _ => by have := hD v; omega
    refine ⟨(sumTo (fun v => - D v) n).toNat, D, fun x hx => ?_, hD, by omega⟩
    have := h x hx
    simp only [D, (hin x hx).1, (hin x hx).2, if_true]; omega
  obtain ⟨m, hm⟩ := hS
  obtain ⟨m, ⟨D, hf, h0, hs⟩, hmin⟩ := least_nat S m hm
  refine ⟨D, hf, h0, ?_⟩
  -- all in L and nothing more: raise the others by one
  have raise : ∀ L : Nat → Prop, (∀ v < n, D v = 0 → L v) → (∀ x ∈ as, L x.f → D x.t = D x.f + x.c → L x.t) → ∀ v < n, L v := by
    intro L hL hT v hv
    refine Classical.byContradiction fun hlv => ?_
    open Classical in
    let E : Nat → Int := fun v => if v < n ∧ ¬ L v then D v + 1 else D v
    have hE : Feas as E := fun x hx => by
      have h1 := hf x hx
      obtain ⟨h2, h3⟩ := hin x hx
      simp only [E, h2, h3, true_and]
      by_cases hf' : L x.f
      · by_cases ht' : L x.t
        · simp only [hf', ht', not_true, if_false]; exact h1
        · have : D x.t ≠ D x.f + x.c := fun e => ht' (hT x hx hf' e)
          simp only [hf', ht', not_true, not_false_iff, if_false, if_true]; omega
      · by_cases ht' : L x.t
        · simp only [hf', ht', not_true, not_false_iff, if_false, if_true]; omega
        · simp only [hf', ht', not_false_iff, if_true]; omega
    have hE0 : ∀ v, E v ≤ 0 := fun v => by
      have := h0 v
      simp only [E]; split
      · rename_i hc
        have : D v ≠ 0 := fun e => hc.2 (hL v hc.1 e)
        omega
      · exact this
    have hlt : sumTo (fun v => - E v) n < sumTo (fun v => - D v) n := by
      refine sumTo_lt (u := v) (fun u _ => ?_) hv ?_
      · simp only [E]; split <;> omega
      · simp only [E, hv, hlv, not_false_iff, and_self, if_true]; omega
    have hnn : 0 ≤ sumTo (fun v => - E v) n := sumTo_nonneg fun v _ => by have := hE0 v; omega
    have := hmin (sumTo (fun v => - E v) n).toNat ⟨E, hE, hE0, by omega⟩
    omega
  refine cnt_chain (L := Lev as D) (fun k v h => .inl h) (fun k => ?_) ?_
  · refine Classical.or_iff_not_imp_right.2 fun hno => ?_
    refine raise (Lev as D k) (fun v _ e => ?_) (fun x hx hl e => ?_)
    · clear hno
      induction k with
      | zero => exact e
      | succ k ih => exact .inl ih
    · refine Classical.byContradiction fun hnot => hno ⟨x.t, (hin x hx).2, .inr ⟨x, hx, rfl, hl, e⟩, hnot⟩
  · refine Classical.byContradiction fun hno => ?_
    have := raise (fun _ => False) (fun v hv e => hno ⟨v, hv, e⟩) (fun _ _ h => h.elim) 0 hn
    exact this
theorem Feas.bounded {as : List Arc} {n : Nat} {C : Int} {p : Nat → Int} (hn : 0 < n) (hC : 0 ≤ C) (hin : ArcsIn as n C) (h : Feas as p) :
    ∃ D, Feas as D ∧ (∀ v, D v ≤ 0) ∧ ∀ v < n, -(((n - 1 : Nat) : Int) * C) ≤ D v := by
  obtain ⟨D, h1, h2, h3⟩ := h.greatest hn fun x hx => ⟨(hin x hx).1, (hin x hx).2.1⟩
  exact ⟨D, h1, h2, fun v hv => Lev.low hC (fun x hx => (hin x hx).2.2) _ _ (h3 v hv)⟩
end Go.MW

/-
  Nearest ways by rounds: what is known of the costs in each round. Plain Lean; no program is named here.
-/
namespace Go.MW
def gi (l : List Int) (i : Nat) : Int := l.getD i 0
theorem gi_get {l : List Int} {i : Nat} (h : i < l.length) : l[i]? = some (gi l i) := by
  simp [gi, h]
theorem gi_set {l : List Int} {i : Nat} (h : i < l.length) (x : Int) (j : Nat) : gi (l.set i x) j = if j = i then x else gi l j := by
  unfold gi
  by_cases e : j = i
  · subst e; simp [h]
  · simp [e, List.getElem?_set_ne (Ne.symm e)]
theorem gi_replicate (n : Nat) (x : Int) {i : Nat} (h : i < n) : gi (List.replicate n x) i = x := by simp [gi, h]
def ga (l : List Arc) (i : Nat) : Arc := l.getD i ⟨0, 0, 0, 0⟩
theorem ga_get {l : List Arc} {i : Nat} (h : i < l.length) : l[i]? = some (ga l i) := by
  simp [ga, h]
theorem ga_set {l : List Arc} {i : Nat} (h : i < l.length) (x : Arc) (j : Nat) : ga (l.set i x) j = if j = i then x else ga l j := by
  unfold ga
  by_cases e : j = i
  · subst e; simp [h]
  · simp [e, List.getElem?_set_ne (Ne.symm e)]
theorem ga_replicate (n : Nat) (x : Arc) {i : Nat} (h : i < n) : ga (List.replicate n x) i = x := by simp [ga, h]

/-- costs, and the arc by which each is reached -/
structure BS where
  cost : List Int
  by_ : List Arc
def BS.can (s : BS) (x : Arc) : Prop := gi s.cost x.f + x.c < gi s.cost x.t
def BS.rlx (s : BS) (x : Arc) : BS := ⟨s.cost.set x.t (gi s.cost x.f + x.c), s.by_.set x.t x⟩

theorem Lev.up {as : List Arc} {D : Nat → Int} {k m : Nat} (h : k ≤ m) {v : Nat} (hv : Lev as D k v) : Lev as D m v := by
  induction h with
  | refl => exact hv
  | step _ ih => exact .inl ih

/-- from v back along the arcs: k of them, of the sum c, to u -/
inductive Back (b : List Arc) : Nat → Nat → Int → Nat → Prop
  | nil {v : Nat} : Back b v 0 0 v
  | cons {v u : Nat} {k : Nat} {c : Int} (h : 0 ≤ (ga b v).l) (t : Back b (ga b v).f k c u) : Back b v (k + 1) ((ga b v).c + c) u
theorem Back.trans {b : List Arc} {v u w : Nat} {k m : Nat} {c d : Int} (h : Back b v k c u) (g : Back b u m d w) : Back b v (k + m) (c + d) w := by
  induction h with
  | nil => simpa using g
  | cons h t ih =>
    have := Back.cons h (ih g)
    rw [Int.add_assoc, Nat.add_right_comm]; exact this
/-- a way that does not come to v is the same when v's own arc is turned -/
theorem Back.turn {b b' : List Arc} {v : Nat} (hb : ∀ u, u ≠ v → ga b' u = ga b u) {u w : Nat} {k : Nat} {c : Int} (h : Back b' u k c w) :
    Back b u k c w ∨ ∃ i d j e, Back b u i d v ∧ Back b' v j e w ∧ i + j = k ∧ d + e = c := by
  induction h with
  | nil => exact .inl .nil
  | @cons x w k c h t ih =>
    by_cases e : x = v
    · subst e; exact .inr ⟨0, 0, _, _, .nil, .cons h t, by omega, by omega⟩
    · rw [hb x e] at h ih ⊢
      rcases ih with g | ⟨i, d, j, e', g1, g2, g3, g4⟩
      · exact .inl (.cons h g)
      · exact .inr ⟨i + 1, _, j, e', .cons h g1, g2, by omega, by omega⟩
/-- what is known in round r, when j of its arcs have been looked at; ov: the last one that was taken -/
structure NInv (n : Nat) (as : List Arc) (r j : Nat) (ov : Option Arc) (s : BS) : Prop where
  lc : s.cost.length = n
  lb : s.by_.length = n
  hi : ∀ v < n, gi s.cost v ≤ 0
  lo : ∀ v < n, -(((r : Int) * 801 + j) * 20000) ≤ gi s.cost v
  rg : ∀ v < n, (ga s.by_ v).f < n ∧ (ga s.by_ v).t < n ∧ -20000 ≤ (ga s.by_ v).c ∧ (ga s.by_ v).c ≤ 20000
  ovm : ∀ x, ov = some x → x ∈ as
  nov : ov = none → ∀ i < j, ∀ x, as[i]? = some x → ¬ s.can x
  fe : ∀ D, Feas as D → (∀ v, D v ≤ 0) → (∀ v < n, D v ≤ gi s.cost v) ∧ (∀ v < n, Lev as D r v → gi s.cost v = D v) ∧
    (∀ i < j, ∀ x, as[i]? = some x → Lev as D r x.f → D x.t = D x.f + x.c → gi s.cost x.t = D x.t) ∧ (ov ≠ none → ∃ v, v < n ∧ ¬ Lev as D r v)
  rd : ∃ R : Nat → Nat, (∀ v < n, (R v = 0 ∧ ga s.by_ v = ⟨0, 0, 0, -1⟩) ∨ (1 ≤ R v ∧ R v ≤ r + 1 ∧ ga s.by_ v ∈ as ∧ (ga s.by_ v).t = v ∧ gi s.cost (ga s.by_ v).f + (ga s.by_ v).c ≤ gi s.cost v ∧ R v ≤ R (ga s.by_ v).f + 1)) ∧
    (∀ i < j, ∀ x, as[i]? = some x → ¬ s.can x ∨ R x.f = r + 1) ∧ (∀ x ∈ as, ¬ s.can x ∨ r ≤ R x.f) ∧ (∀ x, ov = some x → R x.t = r + 1)
  cyc : ∀ v < n, ∀ k c, Back s.by_ v (k + 1) c v → c < 0
/-- the arcs' own bounds -/
def ArcsOk (as : List Arc) (n : Nat) : Prop := as.length ≤ 801 ∧ ∀ x ∈ as, x.f < n ∧ x.t < n ∧ -20000 ≤ x.c ∧ x.c ≤ 20000 ∧ 0 ≤ x.l ∧ x.f ≠ x.t
variable {n : Nat} {as : List Arc} {r j : Nat} {ov : Option Arc} {s : BS} {x : Arc}
theorem NInv.init (hn : 0 < n) : NInv n as 0 0 none ⟨List.replicate n 0, List.replicate n ⟨0, 0, 0, -1⟩⟩ where
  lc := by simp
  lb := by simp
  hi := fun v hv => by rw [gi_replicate n 0 hv]; omega
  lo := fun v hv => by rw [gi_replicate n 0 hv]; omega
  rg := fun v hv => by rw [ga_replicate n _ hv]; exact ⟨hn, hn, by simp, by simp⟩
  ovm := fun x h => by cases h
  nov := fun _ i hi => by omega
  fe := fun D hD h0 => ⟨fun v hv => by rw [gi_replicate n 0 hv]; exact h0 v, fun v hv h => by rw [gi_replicate n 0 hv]; exact h.symm, fun i hi => by omega, fun h => (h rfl).elim⟩
  rd := ⟨fun _ => 0, fun v hv => .inl ⟨rfl, ga_replicate n _ hv⟩, fun i hi => by omega, fun x _ => .inr (Nat.zero_le _), fun x h => by cases h⟩
  cyc := fun v hv k c h => by
    cases h with
    | cons h _ => rw [ga_replicate n _ hv] at h; simp at h
theorem NInv.skip (h : NInv n as r j ov s) (ho : ArcsOk as n) (hx : as[j]? = some x) (hc : ¬ s.can x) : NInv n as r (j + 1) ov s where
  lc := h.lc
  lb := h.lb
  hi := h.hi
  lo := fun v hv => by have := h.lo v hv; omega
  rg := h.rg
  ovm := h.ovm
  nov := fun e i hi y hy => by
    by_cases he : i = j
    · subst he; rw [hx] at hy; cases hy; exact hc
    · exact h.nov e i (by omega) y hy
  fe := fun D hD h0 => by
    obtain ⟨h1, h2, h3, h4⟩ := h.fe D hD h0
    refine ⟨h1, h2, fun i hi y hy hl ht => ?_, h4⟩
    by_cases he : i = j
    · subst he; rw [hx] at hy; cases hy
      obtain ⟨b1, b2, _⟩ := ho.2 x (List.mem_of_getElem? hx)
      have h5 := h2 _ b1 hl
      have h6 := h1 _ b2
      unfold BS.can at hc
      omega
    · exact h3 i (by omega) y hy hl ht
  rd := by
    obtain ⟨R, h1, h2, h3, h4⟩ := h.rd
    refine ⟨R, h1, fun i hi y hy => ?_, h3, h4⟩
    by_cases he : i = j
    · subst he; rw [hx] at hy; cases hy; exact .inl hc
    · exact h2 i (by omega) y hy
  cyc := h.cyc
theorem Back.cost {b : List Arc} {C : List Int} {n : Nat} (h : ∀ v < n, 0 ≤ (ga b v).l → (ga b v).f < n ∧ gi C (ga b v).f + (ga b v).c ≤ gi C v) {v u : Nat} {k : Nat} {c : Int} (hb : Back b v k c u) (hv : v < n) : gi C u + c ≤ gi C v := by
  induction hb with
  | nil => omega
  | cons hl t ih =>
    obtain ⟨h1, h2⟩ := h _ hv hl
    have := ih h1
    omega
theorem NInv.relax (h : NInv n as r j ov s) (ho : ArcsOk as n) (hx : as[j]? = some x) (hc : s.can x) : NInv n as r (j + 1) (some x) (s.rlx x) := by
  have hm := List.mem_of_getElem? hx
  obtain ⟨b1, b2, b3, b4, b5, b6⟩ := ho.2 x hm
  have hg : ∀ v, gi (s.rlx x).cost v = if v = x.t then gi s.cost x.f + x.c else gi s.cost v := fun v => gi_set (by rw [h.lc]; exact b2) _ v
  have hb : ∀ v, ga (s.rlx x).by_ v = if v = x.t then x else ga s.by_ v := fun v => ga_set (by rw [h.lb]; exact b2) _ v
  have hle : ∀ v, gi (s.rlx x).cost v ≤ gi s.cost v := fun v => by
    rw [hg]; unfold BS.can at hc; split
    · rename_i e; subst e; omega
    · omega
  -- along the arcs costs do not rise; the arc's own end is not its beginning, and no way leads back
  have hmon : ∀ v < n, 0 ≤ (ga s.by_ v).l → (ga s.by_ v).f < n ∧ gi s.cost (ga s.by_ v).f + (ga s.by_ v).c ≤ gi s.cost v := fun v hv hl => by
    obtain ⟨R, h1, _⟩ := h.rd
    refine ⟨(h.rg v hv).1, ?_⟩
    rcases h1 v hv with ⟨_, e⟩ | ⟨_, _, _, _, h2, _⟩
    · rw [e] at hl; simp at hl
    · exact h2
  refine ⟨by simp [BS.rlx, h.lc], by simp [BS.rlx, h.lb], fun v hv => Int.le_trans (hle v) (h.hi v hv), fun v hv => ?_, fun v hv => ?_, fun y hy => (by cases hy; exact hm), fun e => (by cases e), fun D hD h0 => ?_, ?_, ?_⟩
  · have h1 := h.lo v hv
    have h2 := h.lo x.f b1
    rw [hg]; split <;> omega
  · rw [hb]; split
    · exact ⟨b1, b2, b3, b4⟩
    · exact h.rg v hv
  · obtain ⟨h1, h2, h3, h4⟩ := h.fe D hD h0
    have hlow : D x.t ≤ gi s.cost x.f + x.c := by have := hD x hm; have := h1 _ b1; omega
    have hnl : ¬ Lev as D r x.t := fun hl => by
      have := h2 _ b2 hl
      unfold BS.can at hc; omega
    refine ⟨fun v hv => ?_, fun v hv hl => ?_, fun i hi y hy hl ht => ?_, fun _ => ⟨_, b2, hnl⟩⟩
    · rw [hg]; split
      · rename_i e; subst e; exact hlow
      · exact h1 v hv
    · rw [hg, if_neg (fun e : v = x.t => hnl (e ▸ hl))]; exact h2 v hv hl
    · obtain ⟨c1, c2, _⟩ := ho.2 y (List.mem_of_getElem? hy)
      by_cases he : i = j
      · subst he; rw [hx] at hy; cases hy
        rw [hg, if_pos rfl, h2 _ b1 hl, ht]
      · have h5 := h3 i (by omega) y hy hl ht
        rw [hg]; split
        · rename_i e
          rw [e] at h5
          unfold BS.can at hc; rw [e]; omega
        · exact h5
  · obtain ⟨R, h1, h2, h3, h4⟩ := h.rd
    have hxr : r ≤ R x.f := by
      rcases h3 x hm with e | e
      · exact (e hc).elim
      · exact e
    have hR : ∀ v < n, R v ≤ r + 1 := fun v hv => by
      rcases h1 v hv with ⟨e, _⟩ | ⟨_, e, _⟩ <;> omega
    refine ⟨fun v => if v = x.t then r + 1 else R v, fun v hv => ?_, fun i hi y hy => ?_, fun y hy => ?_, fun y hy => ?_⟩
    · by_cases e : v = x.t
      · subst e
        refine .inr ⟨?_, ?_, ?_, ?_, ?_, ?_⟩
        · simp
        · simp
        · rw [hb, if_pos rfl]; exact hm
        · rw [hb, if_pos rfl]
        · rw [hb, if_pos rfl, hg, hg, if_neg b6, if_pos rfl]; exact Int.le_refl _
        · simp only [hb, if_true, if_neg b6]; omega
      · simp only [hb, if_neg e]
        rcases h1 v hv with e1 | ⟨e1, e2, e3, e4, e5, e6⟩
        · exact .inl e1
        · refine .inr ⟨e1, e2, e3, e4, ?_, ?_⟩
          · have := hle (ga s.by_ v).f
            rw [hg v, if_neg e]; omega
          · split
            · omega
            · exact e6
    · by_cases he : i = j
      · subst he; rw [hx] at hy; cases hy
        refine .inl fun hc' => ?_
        unfold BS.can at hc'
        rw [hg, hg, if_neg b6, if_pos rfl] at hc'; omega
      · dsimp only
        by_cases e : y.f = x.t
        · exact .inr (by rw [if_pos e])
        · rw [if_neg e]
          rcases h2 i (by omega) y hy with e1 | e1
          · refine .inl fun hc' => e1 ?_
            unfold BS.can at hc' ⊢
            have := hle y.t
            rw [hg y.f, if_neg e] at hc'; omega
          · exact .inr e1
    · dsimp only
      by_cases e : y.f = x.t
      · exact .inr (by rw [if_pos e]; omega)
      · rw [if_neg e]
        rcases h3 y hy with e1 | e1
        · refine .inl fun hc' => e1 ?_
          unfold BS.can at hc' ⊢
          have := hle y.t
          rw [hg y.f, if_neg e] at hc'; omega
        · exact .inr e1
    · cases hy; simp
  · have hbk : ∀ {u w : Nat} {k : Nat} {c : Int}, Back (s.rlx x).by_ u k c w → Back s.by_ u k c w ∨ ∃ i d j e, Back s.by_ u i d x.t ∧ Back (s.rlx x).by_ x.t j e w ∧ i + j = k ∧ d + e = c :=
      Back.turn (fun u hu => by rw [hb, if_neg hu])
    have hroad : ∀ {k : Nat} {c : Int}, Back s.by_ x.f k c x.t → x.c + c < 0 := fun h => by
      have := Back.cost hmon h b1
      unfold BS.can at hc; omega
    have key : ∀ (m j : Nat) (e : Int) (v i : Nat) (d : Int), j ≤ m → Back s.by_ v i d x.t → Back (s.rlx x).by_ x.t j e v → v < n → 1 ≤ i + j → d + e < 0 := by
      intro m
      induction m with
      | zero =>
        intro j e v i d hj h1 h2 hv h3
        obtain rfl : j = 0 := by omega
        cases h2
        obtain ⟨i', rfl⟩ : ∃ i', i = i' + 1 := ⟨i - 1, by omega⟩
        have := h.cyc _ hv _ _ h1
        omega
      | succ m ih =>
        intro j e v i d hj h1 h2 hv h3
        cases h2 with
        | nil =>
          obtain ⟨i', rfl⟩ : ∃ i', i = i' + 1 := ⟨i - 1, by omega⟩
          have := h.cyc _ hv _ _ h1
          omega
        | @cons _ _ k c hl t =>
          have hxt : ga (s.rlx x).by_ x.t = x := by rw [hb, if_pos rfl]
          rw [hxt] at t ⊢
          rcases hbk t with g | ⟨i2, d2, j2, e2, g1, g2, g3, g4⟩
          · have := hroad (g.trans h1)
            omega
          · have h5 := hroad g1
            by_cases h6 : 1 ≤ i + j2
            · have := ih j2 e2 v i d (by omega) h1 g2 hv h6
              omega
            · obtain rfl : i = 0 := by omega
              obtain rfl : j2 = 0 := by omega
              cases h1
              cases g2
              omega
    intro v hv k c hcy
    rcases hbk hcy with g | ⟨i, d, j2, e, g1, g2, g3, g4⟩
    · exact h.cyc v hv k c g
    · have := key j2 j2 e v i d (Nat.le_refl _) g1 g2 hv (by omega)
      omega
/-- a round is over: the next one begins -/
theorem NInv.next (h : NInv n as r as.length ov s) (ho : ArcsOk as n) : NInv n as (r + 1) 0 none s where
  lc := h.lc
  lb := h.lb
  hi := h.hi
  lo := fun v hv => by have := h.lo v hv; have := ho.1; push_cast; omega
  rg := h.rg
  ovm := fun x e => by cases e
  nov := fun _ i hi => by omega
  fe := fun D hD h0 => by
    obtain ⟨h1, h2, h3, _⟩ := h.fe D hD h0
    refine ⟨h1, fun v hv hl => ?_, fun i hi => by omega, fun e => (e rfl).elim⟩
    rcases hl with hl | ⟨x, hx, rfl, hl, ht⟩
    · exact h2 v hv hl
    · obtain ⟨i, hi⟩ := List.getElem?_of_mem hx
      exact h3 i (List.getElem?_eq_some_iff.1 hi).1 x hi hl ht
  rd := by
    obtain ⟨R, h1, h2, h3, _⟩ := h.rd
    refine ⟨R, fun v hv => ?_, fun i hi => by omega, fun x hx => ?_, fun x e => by cases e⟩
    · rcases h1 v hv with e | ⟨e1, e2, e3⟩
      · exact .inl e
      · exact .inr ⟨e1, by omega, e3⟩
    · obtain ⟨i, hi⟩ := List.getElem?_of_mem hx
      rcases h2 i (List.getElem?_eq_some_iff.1 hi).1 x hi with e | e
      · exact .inl e
      · exact .inr (by omega)
  cyc := h.cyc
/-- nothing was taken in a round: the costs are a solution -/
theorem NInv.sol (h : NInv n as r as.length none s) (ho : ArcsOk as n) (hn : 0 < n) : Feas as (gi s.cost) ∧ ∀ v < n, -(((n - 1 : Nat) : Int) * 20000) ≤ gi s.cost v ∧ gi s.cost v ≤ 0 := by
  have hf : Feas as (gi s.cost) := fun x hx => by
    obtain ⟨i, hi⟩ := List.getElem?_of_mem hx
    have := h.nov rfl i (List.getElem?_eq_some_iff.1 hi).1 x hi
    unfold BS.can at this; omega
  refine ⟨hf, fun v hv => ⟨?_, h.hi v hv⟩⟩
  obtain ⟨D, h1, h2, h3⟩ := hf.bounded (C := 20000) hn (by omega) fun x hx => by
    obtain ⟨b1, b2, b3, _⟩ := ho.2 x hx; exact ⟨b1, b2, b3⟩
  have h4 := (h.fe D h1 h2).1 v hv
  have h5 := h3 v hv
  omega
/-- something was taken in each of so many rounds: there is no solution -/
theorem NInv.none (h : NInv n as r j (some x) s) (ho : ArcsOk as n) (hn : 0 < n) (hr : n ≤ r + 1) : ¬ ∃ p, Feas as p := by
  rintro ⟨p, hp⟩
  obtain ⟨D, h1, h2, h3⟩ := hp.greatest hn fun x hx => by obtain ⟨b1, b2, _⟩ := ho.2 x hx; exact ⟨b1, b2⟩
  obtain ⟨v, hv, hl⟩ := (h.fe D h1 h2).2.2.2 (by simp)
  exact hl ((h3 v hv).up (by omega))
end Go.MW

/-
  Shortest ways from whoever has to give: what is known while they are looked for. Plain Lean; no program is named here.
-/
namespace Go.MW
theorem Back.turn2 {b b' : List Arc} {v : Nat} (hb : ∀ u, u ≠ v → ga b' u = ga b u) {u w : Nat} {k : Nat} {c : Int} (h : Back b u k c w) :
    Back b' u k c w ∨ ∃ i d j e, Back b u i d v ∧ Back b' u i d v ∧ Back b v j e w ∧ i + j = k ∧ d + e = c := by
  induction h with
  | nil => exact .inl .nil
  | @cons x w k c h t ih =>
    by_cases e : x = v
    · subst e; exact .inr ⟨0, 0, _, _, .nil, .nil, .cons h t, by omega, by omega⟩
    · have e2 := hb x e
      rcases ih with g | ⟨i, d, j, e', g1, g2, g3, g4, g5⟩
      · refine .inl ?_
        have := Back.cons (b := b') (v := x) (k := k) (c := c) (u := w) (by rw [e2]; exact h) (by rw [e2]; exact g)
        rwa [e2] at this
      · refine .inr ⟨i + 1, _, j, e', .cons h g1, ?_, g3, by omega, (?_ : (ga b x).c + d + e' = (ga b x).c + c)⟩
        · have := Back.cons (b := b') (v := x) (k := i) (c := d) (u := v) (by rw [e2]; exact h) (by rw [e2]; exact g2)
          rwa [e2] at this
        · omega
theorem Back.uniq {b : List Arc} {v u : Nat} {k m : Nat} {c d : Int} (hu : (ga b u).l < 0) (h : Back b v k c u) (g : Back b v m d u) : k = m := by
  induction h generalizing m d with
  | nil =>
    cases g with
    | nil => rfl
    | cons h _ => omega
  | cons h t ih =>
    cases g with
    | nil => omega
    | cons _ g => rw [ih hu g]
theorem Back.split {b : List Arc} {v u : Nat} {k : Nat} {c : Int} (h : Back b v k c u) {i : Nat} (hi : i ≤ k) : ∃ w d e, Back b v (k - i) d w ∧ Back b w i e u := by
  induction h with
  | nil => obtain rfl : i = 0 := by omega
           exact ⟨_, 0, 0, .nil, .nil⟩
  | @cons x w k c h t ih =>
    by_cases e : i = k + 1
    · subst e; exact ⟨x, 0, _, by simpa using .nil, .cons h t⟩
    · obtain ⟨w', d, e', g1, g2⟩ := ih (by omega)
      refine ⟨w', (ga b x).c + d, e', ?_, g2⟩
      have := Back.cons h g1
      rwa [show k - i + 1 = k + 1 - i from by omega] at this
/-- a way back to where none goes on has fewer arcs than there are unknowns -/
theorem Back.short {b : List Arc} {n : Nat} {v u : Nat} {k : Nat} {c : Int} {A : Nat → Prop} (hA : ∀ v, A v → v < n) (hn : ∀ v, A v → 0 ≤ (ga b v).l → A (ga b v).f) (hu : (ga b u).l < 0) (h : Back b v k c u) (hv : A v) : k < n := by
  have hin : ∀ {v w : Nat} {k : Nat} {c : Int}, Back b v k c w → A v → A w := fun h => by
    induction h with
    | nil => exact id
    | cons h t ih => exact fun hv => ih (hn _ hv h)
  have key : ∀ m, m ≤ k → m + 1 ≤ (Classical.choose cnt_ex) (fun x => ∃ i c, i ≤ m ∧ Back b x i c u) n := by
    intro m
    induction m with
    | zero => intro _; exact cnt_pos (hA _ (hin h hv)) ⟨0, 0, Nat.le_refl _, .nil⟩
    | succ m ih =>
      intro hm
      have h1 := ih (by omega)
      obtain ⟨w, d, e, g1, g2⟩ := h.split (i := m + 1) hm
      have := cnt_lt (p := fun x => ∃ i c, i ≤ m ∧ Back b x i c u) (q := fun x => ∃ i c, i ≤ m + 1 ∧ Back b x i c u) (n := n) (fun v _ ⟨i, c, hi, hb⟩ => ⟨i, c, by omega, hb⟩) (hA _ (hin g1 hv)) ⟨m + 1, e, Nat.le_refl _, g2⟩
        (fun ⟨i, c, hi, hb⟩ => by have := hb.uniq hu g2; omega)
      omega
  have h1 := key k (Nat.le_refl _)
  have h2 := cnt_le (fun x => ∃ i c, i ≤ k ∧ Back b x i c u) n
  omega

abbrev far : Int := 1152921504606846976
/-- what is known on the search, when j arcs of a round have been looked at -/
structure WInv (n : Nat) (as : List Arc) (S : Nat → Prop) (D : Nat → Int) (j : Nat) (again : Bool) (s : BS) : Prop where
  lc : s.cost.length = n
  lb : s.by_.length = n
  lo : ∀ v < n, D v ≤ gi s.cost v
  top : ∀ v < n, gi s.cost v ≤ far
  up : ∀ v < n, gi s.cost v < far → gi s.cost v ≤ 20000 * (Classical.choose cnt_ex) (fun v => gi s.cost v < far) n
  src : ∀ v < n, S v → gi s.cost v ≤ 0
  by1 : ∀ v < n, gi s.cost v < far → ((ga s.by_ v).l = -1 ∧ S v ∧ gi s.cost v = 0) ∨
    (0 ≤ (ga s.by_ v).l ∧ ga s.by_ v ∈ as ∧ (ga s.by_ v).t = v ∧ gi s.cost (ga s.by_ v).f < far ∧ gi s.cost (ga s.by_ v).f + (ga s.by_ v).c ≤ gi s.cost v)
  dep : ∀ v < n, gi s.cost v < far → ∃ k c u, Back s.by_ v k c u ∧ (ga s.by_ u).l < 0
  nov : again = false → ∀ i < j, ∀ x, as[i]? = some x → ¬ (gi s.cost x.f < far ∧ s.can x)
/-- the ground: few unknowns, arcs in their bounds, a solution in its bounds -/
structure WG (n : Nat) (as : List Arc) (D : Nat → Int) : Prop where
  n0 : 0 < n
  n1 : n ≤ 65
  ok : ∀ x ∈ as, x.f < n ∧ x.t < n ∧ -20000 ≤ x.c ∧ x.c ≤ 20000 ∧ 0 ≤ x.l ∧ x.f ≠ x.t
  fe : Feas as D
  d0 : ∀ v, D v ≤ 0
  d1 : ∀ v < n, -1280000 ≤ D v
variable {n : Nat} {as : List Arc} {S : Nat → Prop} {D : Nat → Int} {j : Nat} {again : Bool} {s : BS} {x : Arc}
theorem WInv.low (h : WInv n as S D j again s) (hg : WG n as D) {v : Nat} (hv : v < n) (hr : gi s.cost v < far) : gi s.cost v ≤ 1300000 := by
  have h1 := h.up v hv hr
  have h2 := cnt_le (fun v => gi s.cost v < far) n
  have := hg.n1
  omega
theorem WInv.next (h : WInv n as S D j again s) : WInv n as S D 0 false s := ⟨h.lc, h.lb, h.lo, h.top, h.up, h.src, h.by1, h.dep, fun _ i hi => by omega⟩
theorem WInv.skip (h : WInv n as S D j again s) (hx : as[j]? = some x) (hc : ¬ (gi s.cost x.f < far ∧ s.can x)) : WInv n as S D (j + 1) again s :=
  ⟨h.lc, h.lb, h.lo, h.top, h.up, h.src, h.by1, h.dep, fun e i hi y hy => by
    by_cases he : i = j
    · subst he; rw [hx] at hy; cases hy; exact hc
    · exact h.nov e i (by omega) y hy⟩
theorem WInv.relax (h : WInv n as S D j again s) (hg : WG n as D) (hx : as[j]? = some x) (hf : gi s.cost x.f < far) (hc : s.can x) : WInv n as S D (j + 1) true (s.rlx x) := by
  have hm := List.mem_of_getElem? hx
  obtain ⟨b1, b2, b3, b4, b5, b6⟩ := hg.ok x hm
  have hgi : ∀ v, gi (s.rlx x).cost v = if v = x.t then gi s.cost x.f + x.c else gi s.cost v := fun v => gi_set (by rw [h.lc]; exact b2) _ v
  have hb : ∀ v, ga (s.rlx x).by_ v = if v = x.t then x else ga s.by_ v := fun v => ga_set (by rw [h.lb]; exact b2) _ v
  have hle : ∀ v, gi (s.rlx x).cost v ≤ gi s.cost v := fun v => by
    rw [hgi]; unfold BS.can at hc; split
    · rename_i e; subst e; omega
    · omega
  have hlow := h.low hg b1 hf
  have hxt : gi (s.rlx x).cost x.t < far := by rw [hgi, if_pos rfl]; simp only [far]; omega
  -- along the arcs, among those that are reached
  have hstep : ∀ v, (v < n ∧ gi s.cost v < far) → 0 ≤ (ga s.by_ v).l → ga s.by_ v ∈ as ∧ (ga s.by_ v).t = v ∧ gi s.cost (ga s.by_ v).f + (ga s.by_ v).c ≤ gi s.cost v ∧ ((ga s.by_ v).f < n ∧ gi s.cost (ga s.by_ v).f < far) := fun v ⟨hv, hr⟩ hl => by
    rcases h.by1 v hv hr with ⟨e, _⟩ | ⟨_, e1, e2, e3, e4⟩
    · omega
    · exact ⟨e1, e2, e4, (hg.ok _ e1).1, e3⟩
  have hcost : ∀ {v u : Nat} {k : Nat} {c : Int}, Back s.by_ v k c u → (v < n ∧ gi s.cost v < far) → gi s.cost u + c ≤ gi s.cost v ∧ D v ≤ D u + c := fun hb => by
    induction hb with
    | nil => intro _; omega
    | @cons v u k c hl t ih =>
      intro hv
      obtain ⟨h1, h2, h3, h4⟩ := hstep _ hv hl
      obtain ⟨h5, h6⟩ := ih h4
      have h7 := hg.fe _ h1
      rw [h2] at h7
      omega
  have hroad : ∀ {k : Nat} {c : Int}, ¬ Back s.by_ x.f k c x.t := fun hbk => by
    have h1 := hcost hbk ⟨b1, hf⟩
    have h2 := hg.fe x hm
    unfold BS.can at hc; omega
  have hcnt : (Classical.choose cnt_ex) (fun v => gi s.cost v < far) n ≤ (Classical.choose cnt_ex) (fun v => gi (s.rlx x).cost v < far) n := cnt_mono fun v _ hv => by have := hle v; omega
  have hturn : ∀ u, u ≠ x.t → ga (s.rlx x).by_ u = ga s.by_ u := fun u hu => by rw [hb, if_neg hu]
  refine ⟨by simp [BS.rlx, h.lc], by simp [BS.rlx, h.lb], fun v hv => ?_, fun v hv => Int.le_trans (hle v) (h.top v hv), fun v hv hr => ?_, fun v hv hs => Int.le_trans (hle v) (h.src v hv hs), fun v hv hr => ?_, ?_, fun e => (by cases e)⟩
  · rw [hgi]; split
    · rename_i e; subst e
      have := hg.fe x hm; have := h.lo _ b1; omega
    · exact h.lo v hv
  · by_cases e : v = x.t
    · subst e
      rw [hgi, if_pos rfl]
      have h1 := h.up _ b1 hf
      by_cases hr0 : gi s.cost x.t < far
      · have := h.up _ b2 hr0
        unfold BS.can at hc
        omega
      · have := cnt_lt (p := fun v => gi s.cost v < far) (q := fun v => gi (s.rlx x).cost v < far) (n := n) (fun v _ hv => by have := hle v; omega) b2 hxt hr0
        omega
    · rw [hgi, if_neg e] at hr ⊢
      have := h.up v hv hr
      omega
  · by_cases e : v = x.t
    · subst e
      refine .inr ?_
      simp only [hb, if_true]
      refine ⟨b5, hm, trivial, ?_, ?_⟩
      · rw [hgi, if_neg b6]; exact hf
      · rw [hgi, hgi, if_neg b6, if_pos rfl]; exact Int.le_refl _
    · rw [hgi, if_neg e] at hr ⊢
      rw [hb, if_neg e]
      rcases h.by1 v hv hr with e1 | ⟨e1, e2, e3, e4, e5⟩
      · exact .inl e1
      · have := hle (ga s.by_ v).f
        exact .inr ⟨e1, e2, e3, by omega, by omega⟩
  · -- from the arc's beginning back to where it began: not over its end
    obtain ⟨k0, c0, u0, g1, g2⟩ := h.dep _ b1 hf
    have hnot : ∀ {k : Nat} {c : Int} {u : Nat}, Back s.by_ x.f k c u → Back (s.rlx x).by_ x.f k c u ∧ u ≠ x.t := fun g => by
      refine ⟨?_, fun e => by subst e; exact hroad g⟩
      rcases Back.turn2 hturn g with g | ⟨i, d, j, e, g, _⟩
      · exact g
      · exact (hroad g).elim
    obtain ⟨g3, g4⟩ := hnot g1
    have hroot : (ga (s.rlx x).by_ u0).l < 0 := by rw [hb, if_neg g4]; exact g2
    have hfrom : Back (s.rlx x).by_ x.t (k0 + 1) (x.c + c0) u0 := by
      have := Back.cons (b := (s.rlx x).by_) (v := x.t) (k := k0) (c := c0) (u := u0) (by rw [hb, if_pos rfl]; exact b5) (by rw [hb, if_pos rfl]; exact g3)
      rwa [hb, if_pos rfl] at this
    intro v hv hr
    by_cases e : v = x.t
    · subst e; exact ⟨_, _, _, hfrom, hroot⟩
    · rw [hgi, if_neg e] at hr
      obtain ⟨k, c, u, f1, f2⟩ := h.dep v hv hr
      rcases Back.turn2 hturn f1 with f | ⟨i, d, j, e', _, f, _⟩
      · by_cases e2 : u = x.t
        · subst e2; exact ⟨_, _, _, f.trans hfrom, hroot⟩
        · exact ⟨_, _, _, f, by rw [hb, if_neg e2]; exact f2⟩
      · exact ⟨_, _, _, f.trans hfrom, hroot⟩
/-- what each arc that is taken lessens -/
def WM (n : Nat) (D : Nat → Int) (s : BS) : Nat := (sumTo (fun v => gi s.cost v - D v) n).toNat
theorem WInv.less (h : WInv n as S D j again s) (hg : WG n as D) (hx : as[j]? = some x) (hf : gi s.cost x.f < far) (hc : s.can x) : WM n D (s.rlx x) < WM n D s := by
  have hm := List.mem_of_getElem? hx
  obtain ⟨b1, b2, _⟩ := hg.ok x hm
  have h2 := h.relax hg hx hf hc
  have hgi : ∀ v, gi (s.rlx x).cost v = if v = x.t then gi s.cost x.f + x.c else gi s.cost v := fun v => gi_set (by rw [h.lc]; exact b2) _ v
  unfold BS.can at hc
  have h3 : sumTo (fun v => gi (s.rlx x).cost v - D v) n < sumTo (fun v => gi s.cost v - D v) n := sumTo_lt (u := x.t) (fun v _ => by
    rw [hgi]; split
    · rename_i e; subst e; omega
    · omega) b2 (by rw [hgi, if_pos rfl]; omega)
  have h4 : 0 ≤ sumTo (fun v => gi (s.rlx x).cost v - D v) n := sumTo_nonneg fun v hv => by have := h2.lo v hv; omega
  unfold WM; omega
/-- at the end: the costs, and far ones for those that are not reached, solve all -/
def after (D : Nat → Int) (s : BS) (v : Nat) : Int := if gi s.cost v < far then gi s.cost v else D v + far
theorem WInv.after (h : WInv n as S D as.length false s) (hg : WG n as D) : Feas as (after D s) := fun x hx => by
  obtain ⟨b1, b2, b3, b4, b5, b6⟩ := hg.ok x hx
  obtain ⟨i, hi⟩ := List.getElem?_of_mem hx
  have h1 := h.nov rfl i (List.getElem?_eq_some_iff.1 hi).1 x hi
  unfold MW.after
  by_cases hf : gi s.cost x.f < far
  · have h2 := h.low hg b1 hf
    have h3 : gi s.cost x.t ≤ gi s.cost x.f + x.c := by
      have : ¬ s.can x := fun e => h1 ⟨hf, e⟩
      unfold BS.can at this; omega
    have h4 : gi s.cost x.t < far := by simp only [far]; omega
    rw [if_pos hf, if_pos h4]; exact h3
  · rw [if_neg hf]
    have h5 := hg.fe x hx
    have h6 := hg.d1 _ b1
    split
    · rename_i ht
      have := h.low hg b2 ht
      simp only [far]; omega
    · omega
theorem WInv.closed (h : WInv n as S D as.length false s) (hg : WG n as D) : ∀ x ∈ as, gi s.cost x.f < far → gi s.cost x.t < far := fun x hx hf => by
  obtain ⟨b1, b2, b3, b4, b5, b6⟩ := hg.ok x hx
  obtain ⟨i, hi⟩ := List.getElem?_of_mem hx
  have h1 := h.nov rfl i (List.getElem?_eq_some_iff.1 hi).1 x hi
  have h2 := h.low hg b1 hf
  have : ¬ s.can x := fun e => h1 ⟨hf, e⟩
  unfold BS.can at this
  simp only [far] at *; omega
/-- so many arcs back from v -/
def trail (b : List Arc) : Nat → Nat → List Arc
  | _, 0 => []
  | v, k + 1 => ga b v :: trail b (ga b v).f k
end Go.MW

/-
  Flows over arcs: what may still be changed, what flows into each, cost and duality; one step of sending. Plain Lean; no program is named here.
-/
namespace Go.MW
/-! ### sums over arcs with so many times each -/
def dot : List Arc → List Int → (Arc → Int) → Int
  | x :: es, z :: ts, g => z * g x + dot es ts g
  | _, _, _ => 0
theorem dot_congr {g h : Arc → Int} : ∀ {es : List Arc} {ts : List Int}, (∀ x ∈ es, g x = h x) → dot es ts g = dot es ts h := by
  intro es
  induction es with
  | nil => intro ts _; simp [dot]
  | cons x es ih =>
    intro ts h
    cases ts with
    | nil => simp [dot]
    | cons z ts => simp only [dot, h x (.head _), ih fun y hy => h y (.tail _ hy)]
theorem dot_set {g : Arc → Int} : ∀ {es : List Arc} {ts : List Int} {i : Nat} {x : Arc}, es[i]? = some x → i < ts.length → ∀ z, dot es (ts.set i z) g = dot es ts g + (z - gi ts i) * g x := by
  intro es
  induction es with
  | nil => intro ts i x h; simp at h
  | cons y es ih =>
    intro ts i x h hi z
    cases ts with
    | nil => simp at hi
    | cons t ts =>
      cases i with
      | zero =>
        simp only [List.getElem?_cons_zero, Option.some.injEq] at h
        subst h
        simp only [List.set_cons_zero, dot, gi, List.getD_cons_zero]
        rw [Int.sub_mul]; omega
      | succ i =>
        simp only [List.getElem?_cons_succ] at h
        have h2 := ih h (by simpa using hi) z
        simp only [List.set_cons_succ, dot, h2]
        have : gi (t :: ts) (i + 1) = gi ts i := rfl
        rw [this]; omega
theorem dot_zero {g : Arc → Int} : ∀ (es : List Arc) (m : Nat), dot es (List.replicate m 0) g = 0 := by
  intro es
  induction es with
  | nil => intro m; simp [dot]
  | cons x es ih =>
    intro m
    cases m with
    | zero => simp [dot]
    | succ m => simp only [List.replicate_succ, dot, ih]; omega
def ind (a v : Nat) : Int := if a = v then 1 else 0
/-- what flows into v, less what flows out of it -/
def net (es : List Arc) (ts : List Int) (v : Nat) : Int := dot es ts fun x => ind x.t v - ind x.f v
theorem ind_sum {a n : Nat} (h : a < n) (p : Nat → Int) : sumTo (fun v => ind a v * p v) n = p a := by
  rw [sumTo_one h fun v _ hv => by simp [ind, Ne.symm hv]]
  simp [ind]
theorem sumTo_mulr (f p : Nat → Int) (c : Int) (n : Nat) : sumTo (fun v => c * f v * p v) n = c * sumTo (fun v => f v * p v) n := by
  rw [← sumTo_mul]
  exact sumTo_congr fun v _ => by rw [Int.mul_assoc]
/-- duality: what the arcs' differences add up to is what flows into each, by its number -/
theorem dot_dual {n : Nat} (p : Nat → Int) : ∀ {es : List Arc} {ts : List Int}, (∀ x ∈ es, x.f < n ∧ x.t < n) → dot es ts (fun x => p x.t - p x.f) = sumTo (fun v => net es ts v * p v) n := by
  intro es
  induction es with
  | nil => intro ts _; simp only [dot, net]; rw [sumTo_congr (g := fun _ => 0) (fun v _ => by simp), sumTo_zero]
  | cons x es ih =>
    intro ts h
    cases ts with
    | nil => simp only [dot, net]; rw [sumTo_congr (g := fun _ => 0) (fun v _ => by simp), sumTo_zero]
    | cons z ts =>
      have h1 := ih (ts := ts) fun y hy => h y (.tail _ hy)
      obtain ⟨h2, h3⟩ := h x (.head _)
      simp only [dot]
      rw [h1]
      have : sumTo (fun v => net (x :: es) (z :: ts) v * p v) n = sumTo (fun v => z * (ind x.t v - ind x.f v) * p v + net es ts v * p v) n :=
        sumTo_congr fun v _ => by simp only [net, dot]; rw [Int.add_mul]
      have e : sumTo (fun v => (ind x.t v - ind x.f v) * p v) n = p x.t - p x.f := by
        rw [sumTo_congr (g := fun v => ind x.t v * p v - ind x.f v * p v) (fun v _ => by rw [Int.sub_mul]), sumTo_sub, ind_sum h3, ind_sum h2]
      rw [this, sumTo_add, sumTo_mulr, e]
theorem net_sum {n : Nat} {es : List Arc} {ts : List Int} (h : ∀ x ∈ es, x.f < n ∧ x.t < n) : sumTo (net es ts) n = 0 := by
  have := dot_dual (n := n) (fun _ => 1) (ts := ts) h
  rw [dot_congr (h := fun _ => 0) (fun _ _ => by omega)] at this
  have h0 : ∀ (es : List Arc) (ts : List Int), dot es ts (fun _ => 0) = 0 := by
    intro es
    induction es with
    | nil => intro ts; simp [dot]
    | cons x es ih => intro ts; cases ts <;> simp [dot, ih]
  rw [h0] at this
  rw [this]
  exact sumTo_congr fun v _ => by simp
theorem net_set {es : List Arc} {ts : List Int} {i : Nat} {x : Arc} (h : es[i]? = some x) (hi : i < ts.length) (z : Int) (v : Nat) : net es (ts.set i z) v = net es ts v + (z - gi ts i) * (ind x.t v - ind x.f v) := dot_set h hi z
theorem dot_le {g h : Arc → Int} : ∀ {es : List Arc} {ts : List Int}, (∀ i x, es[i]? = some x → i < ts.length → gi ts i * g x ≤ gi ts i * h x) → dot es ts g ≤ dot es ts h := by
  intro es
  induction es with
  | nil => intro ts _; simp [dot]
  | cons x es ih =>
    intro ts hh
    cases ts with
    | nil => simp [dot]
    | cons z ts =>
      have h1 := ih (ts := ts) fun i y hy hi => by have := hh (i + 1) y hy (by simpa using hi); simpa [gi] using this
      have h2 := hh 0 x rfl (by simp)
      simp only [dot]
      simp only [gi, List.getD_cons_zero] at h2
      omega
theorem dot_eq {g h : Arc → Int} {es : List Arc} {ts : List Int} (hh : ∀ i x, es[i]? = some x → i < ts.length → gi ts i * g x = gi ts i * h x) : dot es ts g = dot es ts h :=
  Int.le_antisymm (dot_le fun i x a b => by rw [hh i x a b]; exact Int.le_refl _) (dot_le fun i x a b => by rw [hh i x a b]; exact Int.le_refl _)
/-! ### what may still be changed -/
def Arc.back (x : Arc) : Arc := ⟨x.t, x.f, -x.c, x.l⟩
def item (x : Arc) (z : Int) : List Arc := x :: if 0 < z then [x.back] else []
def resid : List Arc → List Int → List Arc
  | x :: es, z :: ts => item x z ++ resid es ts
  | _, _ => []
theorem mem_resid {y : Arc} : ∀ {es : List Arc} {ts : List Int}, es.length = ts.length → (y ∈ resid es ts ↔ ∃ (i : Nat) (x : Arc), es[i]? = some x ∧ (y = x ∨ (0 < gi ts i ∧ y = x.back))) := by
  intro es
  induction es with
  | nil => intro ts _; cases ts <;> simp [resid]
  | cons x es ih =>
    intro ts h
    cases ts with
    | nil => simp at h
    | cons z ts =>
      simp only [resid, List.mem_append, ih (by simpa using h)]
      constructor
      · rintro (h1 | ⟨i, x', h1, h2⟩)
        · simp only [item, List.mem_cons] at h1
          rcases h1 with h1 | h1
          · exact ⟨0, x, rfl, .inl h1⟩
          · split at h1
            · rename_i hz; exact ⟨0, x, rfl, .inr ⟨hz, by simpa using h1⟩⟩
            · simp at h1
        · exact ⟨i + 1, x', h1, h2⟩
      · rintro ⟨i, x', h1, h2⟩
        cases i with
        | zero =>
          simp only [List.getElem?_cons_zero, Option.some.injEq] at h1
          subst h1
          rcases h2 with h2 | ⟨h2, h3⟩
          · exact .inl (by simp [item, h2])
          · have h2 : 0 < z := h2
            exact .inl (by simp [item, h2, h3])
        | succ i => exact .inr ⟨i, x', h1, h2⟩
theorem resid_length : ∀ {es : List Arc} {ts : List Int}, (resid es ts).length ≤ 2 * es.length := by
  intro es
  induction es with
  | nil => intro ts; cases ts <;> simp [resid]
  | cons x es ih =>
    intro ts
    cases ts with
    | nil => simp [resid]
    | cons z ts =>
      simp only [resid, List.length_append, List.length_cons, item]
      have := ih (ts := ts)
      split <;> simp <;> omega
/-- how many stand ahead of those of the k-th arc -/
def preN (es : List Arc) (ts : List Int) (k : Nat) : Nat := (resid (es.take k) (ts.take k)).length
theorem resid_at : ∀ {es : List Arc} {ts : List Int} {k : Nat} {x : Arc}, es[k]? = some x → k < ts.length → resid es ts = resid (es.take k) (ts.take k) ++ (item x (gi ts k) ++ resid (es.drop (k + 1)) (ts.drop (k + 1))) ∧ resid (es.take (k + 1)) (ts.take (k + 1)) = resid (es.take k) (ts.take k) ++ item x (gi ts k) := by
  intro es
  induction es with
  | nil => intro ts k x h; simp at h
  | cons y es ih =>
    intro ts k x h hk
    cases ts with
    | nil => simp at hk
    | cons z ts =>
      cases k with
      | zero =>
        simp only [List.getElem?_cons_zero, Option.some.injEq] at h
        subst h
        simp [resid, gi]
      | succ k =>
        simp only [List.getElem?_cons_succ] at h
        obtain ⟨h1, h2⟩ := ih h (by simpa using hk)
        have e : gi (z :: ts) (k + 1) = gi ts k := rfl
        constructor
        · simp only [resid, List.take_succ_cons, List.drop_succ_cons, e]
          rw [h1, List.append_assoc]
        · simp only [resid, List.take_succ_cons, e] at h2 ⊢
          rw [h2, List.append_assoc]
theorem resid_get {es : List Arc} {ts : List Int} {k : Nat} {x : Arc} (h : es[k]? = some x) (hk : k < ts.length) : (resid es ts)[preN es ts k]? = some x ∧ (0 < gi ts k → (resid es ts)[preN es ts k + 1]? = some x.back ∧ preN es ts (k + 1) = preN es ts k + 2) ∧ (¬ 0 < gi ts k → preN es ts (k + 1) = preN es ts k + 1) := by
  obtain ⟨h1, h2⟩ := resid_at h hk
  unfold preN
  rw [h1, h2]
  refine ⟨?_, fun hz => ⟨?_, ?_⟩, fun hz => ?_⟩
  · rw [List.getElem?_append_right (Nat.le_refl _)]; simp [item]
  · rw [List.getElem?_append_right (by omega)]; simp [item, hz]
  · simp [item, hz]
  · simp [item, hz]
theorem preN_end {es : List Arc} {ts : List Int} (h : es.length = ts.length) : preN es ts es.length = (resid es ts).length := by
  unfold preN
  rw [List.take_length, h, List.take_length]
theorem preN_zero (es : List Arc) (ts : List Int) : preN es ts 0 = 0 := by simp [preN, resid]
/-- a limit that is used has no room, by a solution of all that may be changed -/
theorem slack {es : List Arc} {ts : List Int} {p : Nat → Int} (hl : es.length = ts.length) (hn : ∀ i, i < ts.length → 0 ≤ gi ts i) (h : Feas (resid es ts) p) : dot es ts (·.c) = dot es ts (fun x => p x.t - p x.f) := by
  refine dot_eq fun i x hx hi => ?_
  have h1 := h x ((mem_resid hl).2 ⟨i, x, hx, .inl rfl⟩)
  by_cases h0 : gi ts i = 0
  · rw [h0]; simp
  · have h2 := h x.back ((mem_resid hl).2 ⟨i, x, hx, .inr ⟨by have := hn i hi; omega, rfl⟩⟩)
    simp only [Arc.back] at h2
    congr 1
    omega
/-- any solution of the arcs has a sum by what flows into each of at most the flow's cost -/
theorem weak {es : List Arc} {ts : List Int} {p : Nat → Int} {n : Nat} (hin : ∀ x ∈ es, x.f < n ∧ x.t < n) (hn : ∀ i, i < ts.length → 0 ≤ gi ts i) (h : Feas es p) : sumTo (fun v => net es ts v * p v) n ≤ dot es ts (·.c) := by
  rw [← dot_dual p hin]
  refine dot_le fun i x hx hi => ?_
  have := h x (List.mem_of_getElem? hx)
  exact Int.mul_le_mul_of_nonneg_left (by omega) (hn i hi)
/-- a set that no arc leaves: what flows into the others is not above 0 -/
theorem cut_le {es : List Arc} {ts : List Int} {n : Nat} {R : Nat → Prop} (hin : ∀ x ∈ es, x.f < n ∧ x.t < n) (hn : ∀ i, i < ts.length → 0 ≤ gi ts i) (hR : ∀ x ∈ es, R x.f → R x.t) (q : Nat → Int) (hq : ∀ v, (R v → q v = 0) ∧ (¬ R v → q v = 1)) :
    sumTo (fun v => net es ts v * q v) n ≤ 0 := by
  rw [← dot_dual q hin]
  have : dot es ts (fun x => q x.t - q x.f) ≤ dot es ts (fun _ => 0) := by
    refine dot_le fun i x hx hi => ?_
    have h1 := hR x (List.mem_of_getElem? hx)
    refine Int.mul_le_mul_of_nonneg_left ?_ (hn i hi)
    by_cases hf : R x.f
    · rw [(hq x.f).1 hf, (hq x.t).1 (h1 hf)]; omega
    · rw [(hq x.f).2 hf]
      by_cases ht : R x.t
      · rw [(hq x.t).1 ht]; omega
      · rw [(hq x.t).2 ht]; omega
  refine Int.le_trans this ?_
  have h0 : ∀ (es : List Arc) (ts : List Int), dot es ts (fun _ => 0) = 0 := by
    intro es
    induction es with
    | nil => intro ts; simp [dot]
    | cons x es ih => intro ts; cases ts <;> simp [dot, ih]
  rw [h0]; exact Int.le_refl _
/-! ### ways -/
/-- arcs one behind the other -/
inductive Chain : List Arc → Nat → Nat → Prop
  | nil {v : Nat} : Chain [] v v
  | cons {x : Arc} {p : List Arc} {v : Nat} (h : Chain p x.t v) : Chain (x :: p) x.f v
theorem Chain.append {p q : List Arc} {u v w : Nat} (h : Chain p u v) (g : Chain q v w) : Chain (p ++ q) u w := by
  induction h with
  | nil => exact g
  | cons _ ih => exact .cons (ih g)
theorem Chain.snoc {p : List Arc} {x : Arc} {u : Nat} (h : Chain p u x.f) : Chain (p ++ [x]) u x.t := h.append (.cons .nil)
/-- so many arcs back from v -/
theorem trail_succ {b : List Arc} : ∀ {k : Nat} {v w : Nat} {c : Int}, Back b v k c w → trail b v (k + 1) = trail b v k ++ [ga b w] := by
  intro k
  induction k with
  | zero => intro v w c h; cases h; rfl
  | succ k ih =>
    intro v w c h
    cases h with
    | cons _ t => rw [trail, ih t]; rfl
theorem trail_length (b : List Arc) (v k : Nat) : (trail b v k).length = k := by
  induction k generalizing v with
  | zero => rfl
  | succ k ih => simp [trail, ih]
theorem trail_chain {b : List Arc} {v u : Nat} {k : Nat} {c : Int} {A : Nat → Prop} (hA : ∀ v, A v → 0 ≤ (ga b v).l → (ga b v).t = v ∧ A (ga b v).f) (h : Back b v k c u) (hv : A v) : Chain (trail b v k).reverse u v := by
  induction h with
  | nil => exact .nil
  | @cons v u k c hl t ih =>
    obtain ⟨h1, h2⟩ := hA v hv hl
    simp only [trail, List.reverse_cons]
    have := (ih h2).snoc
    rwa [h1] at this
theorem trail_mem {b : List Arc} {v u : Nat} {k : Nat} {c : Int} {A : Nat → Prop} {B : Arc → Prop} (hA : ∀ v, A v → 0 ≤ (ga b v).l → B (ga b v) ∧ A (ga b v).f) (h : Back b v k c u) (hv : A v) : ∀ x ∈ trail b v k, B x := by
  induction h with
  | nil => intro x hx; cases hx
  | @cons v u k c hl t ih =>
    obtain ⟨h1, h2⟩ := hA v hv hl
    intro x hx
    simp only [trail, List.mem_cons] at hx
    rcases hx with rfl | hx
    · exact h1
    · exact ih h2 x hx
/-- their ends are all different -/
theorem trail_nodup {b : List Arc} {v u : Nat} {k : Nat} {c : Int} {A : Nat → Prop} (hA : ∀ v, A v → 0 ≤ (ga b v).l → (ga b v).t = v ∧ A (ga b v).f) (hu : (ga b u).l < 0) (h : Back b v k c u) (hv : A v) : ((trail b v k).map (·.t)).Nodup := by
  have key : ∀ {v u : Nat} {k : Nat} {c : Int}, Back b v k c u → A v → ∀ x ∈ (trail b v k).map (·.t), ∃ j d, j ≤ k ∧ 0 < j ∧ Back b x j d u := by
    intro v u k c h
    induction h with
    | nil => intro _ x hx; cases hx
    | @cons v u k c hl t ih =>
      intro hv x hx
      obtain ⟨h1, h2⟩ := hA v hv hl
      simp only [trail, List.map_cons, List.mem_cons] at hx
      rcases hx with rfl | hx
      · rw [h1]; exact ⟨k + 1, _, Nat.le_refl _, by omega, .cons hl t⟩
      · obtain ⟨j, d, h3, h4, h5⟩ := ih h2 x hx
        exact ⟨j, d, by omega, h4, h5⟩
  induction h with
  | nil => simp [trail]
  | @cons v u k c hl t ih =>
    obtain ⟨h1, h2⟩ := hA v hv hl
    simp only [trail, List.map_cons, List.nodup_cons]
    refine ⟨fun hx => ?_, ih hu h2⟩
    obtain ⟨j, d, h3, h4, h5⟩ := key t h2 _ hx
    rw [h1] at h5
    have := h5.uniq hu (.cons hl t)
    omega
end Go.MW

/-
  One step of sending along a way; what stays so. Plain Lean; no program is named here.
-/
namespace Go.MW
def fwd (es : List Arc) (x : Arc) : Prop := (ga es x.l.toNat).f = x.f
instance (es : List Arc) (x : Arc) : Decidable (fwd es x) := by unfold fwd; infer_instance
def push (es : List Arc) (m : Int) (ts : List Int) (x : Arc) : List Int :=
  if fwd es x then ts.set x.l.toNat (gi ts x.l.toNat + m) else ts.set x.l.toNat (gi ts x.l.toNat - m)
def pushes (es : List Arc) (m : Int) (ts : List Int) (p : List Arc) : List Int := p.foldl (push es m) ts
def least (es : List Arc) (ts : List Int) (n : Int) (p : List Arc) : Int := p.foldl (fun n x => if fwd es x then n else min n (gi ts x.l.toNat)) n
/-- each arc's number is its place -/
def Numb (es : List Arc) : Prop := ∀ (i : Nat) (x : Arc), es[i]? = some x → x.l = i ∧ x.f ≠ x.t
theorem Numb.ga {es : List Arc} (h : Numb es) {i : Nat} {x : Arc} (hx : es[i]? = some x) : x.l.toNat = i ∧ ga es i = x := by
  refine ⟨by rw [(h i x hx).1]; rfl, ?_⟩
  simp [MW.ga, hx]
theorem push_length (es : List Arc) (m : Int) (ts : List Int) (x : Arc) : (push es m ts x).length = ts.length := by unfold push; split <;> simp
theorem pushes_length (es : List Arc) (m : Int) (p : List Arc) : ∀ ts : List Int, (pushes es m ts p).length = ts.length := by
  induction p with
  | nil => intro ts; rfl
  | cons x p ih => intro ts; simp only [pushes, List.foldl_cons] at ih ⊢; rw [ih, push_length]
/-- an arc of es, or one back -/
def OfEs (es : List Arc) (x : Arc) : Prop := ∃ (i : Nat) (y : Arc), es[i]? = some y ∧ (x = y ∨ x = y.back)
theorem OfEs.fwd {es : List Arc} (h : Numb es) {x : Arc} {i : Nat} {y : Arc} (hy : es[i]? = some y) (hx : x = y ∨ x = y.back) : x.l.toNat = i ∧ (fwd es x ↔ x = y) := by
  obtain ⟨h1, h2⟩ := h.ga hy
  have h3 := (h i y hy).2
  rcases hx with rfl | rfl
  · exact ⟨h1, by simp [MW.fwd, h1, h2]⟩
  · refine ⟨h1, ?_⟩
    simp only [MW.fwd, Arc.back, h1, h2]
    constructor
    · intro e; exact (h3 e).elim
    · intro e; have := congrArg Arc.f e; simp only at this; exact this.symm
theorem push_net {es : List Arc} (h : Numb es) {ts : List Int} (hl : ts.length = es.length) {x : Arc} (hx : OfEs es x) (m : Int) (v : Nat) : net es (push es m ts x) v = net es ts v + m * (ind x.t v - ind x.f v) := by
  obtain ⟨i, y, hy, hxy⟩ := hx
  obtain ⟨h1, h2⟩ := OfEs.fwd h hy hxy
  have hi : i < ts.length := by rw [hl]; exact (List.getElem?_eq_some_iff.1 hy).1
  unfold push
  rw [h1]
  split
  · rename_i hf
    obtain rfl := h2.1 hf
    rw [net_set hy hi]
    congr 2; omega
  · rename_i hf
    have hb : x = y.back := hxy.resolve_left fun e => hf (h2.2 e)
    subst hb
    rw [net_set hy hi]
    congr 1
    simp only [Arc.back]
    have e1 : gi ts i - m - gi ts i = -m := by omega
    rw [e1, Int.neg_mul, ← Int.mul_neg, Int.neg_sub]
theorem pushes_net {es : List Arc} (h : Numb es) {p : List Arc} {u v : Nat} (hp : Chain p u v) : ∀ {ts : List Int}, ts.length = es.length → (∀ x ∈ p, OfEs es x) → ∀ (m : Int) (w : Nat), net es (pushes es m ts p) w = net es ts w + m * (ind v w - ind u w) := by
  induction hp with
  | nil => intro ts _ _ m w; simp [pushes]
  | @cons x p v hc ih =>
    intro ts hl hx m w
    have h1 := ih (ts := push es m ts x) (by rw [push_length, hl]) (fun y hy => hx y (.tail _ hy)) m w
    simp only [pushes, List.foldl_cons] at h1 ⊢
    rw [h1, push_net h hl (hx x (.head _))]
    rw [Int.add_assoc, ← Int.mul_add]
    congr 2; omega
/-! ### how often each is used -/
def cntF (es : List Arc) (i : Nat) (p : List Arc) : Nat := p.countP fun x => decide (x.l.toNat = i ∧ fwd es x)
def cntB (es : List Arc) (i : Nat) (p : List Arc) : Nat := p.countP fun x => decide (x.l.toNat = i ∧ ¬ fwd es x)
theorem push_get {es : List Arc} {ts : List Int} {x : Arc} (hx : x.l.toNat < ts.length) (m : Int) (i : Nat) : gi (push es m ts x) i = gi ts i + (if x.l.toNat = i ∧ fwd es x then m else 0) - (if x.l.toNat = i ∧ ¬ fwd es x then m else 0) := by
  unfold push
  by_cases hf : fwd es x
  · rw [if_pos hf, gi_set hx]
    by_cases e : i = x.l.toNat
    · subst e; simp [hf]
    · simp [e, Ne.symm e]
  · rw [if_neg hf, gi_set hx]
    by_cases e : i = x.l.toNat
    · subst e; simp [hf]
    · simp [e, Ne.symm e]
theorem pushes_get {es : List Arc} {p : List Arc} : ∀ {ts : List Int}, (∀ x ∈ p, x.l.toNat < ts.length) → ∀ (m : Int) (i : Nat), gi (pushes es m ts p) i = gi ts i + m * cntF es i p - m * cntB es i p := by
  induction p with
  | nil => intro ts _ m i; simp [pushes, cntF, MW.cntB]
  | cons x p ih =>
    intro ts hx m i
    have h1 := ih (ts := push es m ts x) (fun y hy => by rw [push_length]; exact hx y (.tail _ hy)) m i
    simp only [pushes, List.foldl_cons] at h1 ⊢
    rw [h1, push_get (hx x (.head _))]
    simp only [cntF, MW.cntB, List.countP_cons, decide_eq_true_eq]
    by_cases e : x.l.toNat = i
    · by_cases hf : fwd es x
      · simp only [e, hf, and_self, if_true, not_true, and_false, if_false, Int.natCast_add, Int.mul_add, Nat.add_zero]; simp; omega
      · simp only [e, hf, and_false, if_false, not_false_iff, and_self, if_true, Int.natCast_add, Int.mul_add, Nat.add_zero]; simp; omega
    · simp only [e, false_and, if_false, Nat.add_zero]; omega
theorem countP_le_one {α : Type} {P : α → Bool} {g : α → Nat} {c : Nat} : ∀ {p : List α}, (p.map g).Nodup → (∀ x ∈ p, P x = true → g x = c) → p.countP P ≤ 1 := by
  intro p
  induction p with
  | nil => intro _ _; simp
  | cons x p ih =>
    intro h1 h2
    simp only [List.map_cons, List.nodup_cons] at h1
    rw [List.countP_cons]
    by_cases hx : P x = true
    · have h0 : p.countP P = 0 := by
        rw [List.countP_eq_zero]
        intro y hy hpy
        refine h1.1 ?_
        rw [h2 x (.head _) hx, ← h2 y (.tail _ hy) hpy]
        exact List.mem_map_of_mem hy
      rw [if_pos hx, h0]; omega
    · rw [if_neg hx]
      have := ih h1.2 fun y hy => h2 y (.tail _ hy)
      omega
theorem least_le {es : List Arc} {ts : List Int} {p : List Arc} : ∀ {n : Int}, least es ts n p ≤ n ∧ (∀ x ∈ p, ¬ fwd es x → least es ts n p ≤ gi ts x.l.toNat) := by
  induction p with
  | nil => intro n; exact ⟨Int.le_refl _, fun x hx => by cases hx⟩
  | cons x p ih =>
    intro n
    obtain ⟨h1, h2⟩ := ih (n := if fwd es x then n else min n (gi ts x.l.toNat))
    simp only [least, List.foldl_cons] at h1 h2 ⊢
    refine ⟨?_, fun y hy hf => ?_⟩
    · by_cases hf : fwd es x
      · rw [if_pos hf] at h1 ⊢; exact h1
      · rw [if_neg hf] at h1 ⊢; omega
    · cases hy with
      | head => rw [if_neg hf] at h1 ⊢; omega
      | tail _ hy => exact h2 y hy hf
theorem least_pos {es : List Arc} {ts : List Int} {p : List Arc} : ∀ {n : Int}, 0 < n → (∀ x ∈ p, ¬ fwd es x → 0 < gi ts x.l.toNat) → 0 < least es ts n p := by
  induction p with
  | nil => intro n h _; exact h
  | cons x p ih =>
    intro n hn h
    simp only [least, List.foldl_cons]
    refine ih ?_ fun y hy => h y (.tail _ hy)
    split
    · exact hn
    · rename_i hf
      have := h x (.head _) hf
      omega
/-! ### a flow under way -/
def rem (n : Nat) (lf : List Int) : Int := sumTo (fun v => max (gi lf v) 0) n
abbrev FF : Int := 3600000000000
structure FInv (n : Nat) (es : List Arc) (wt : Nat → Int) (ts lf : List Int) : Prop where
  lt : ts.length = es.length
  ll : lf.length = n
  nn : ∀ i < es.length, 0 ≤ gi ts i
  cons : ∀ v < n, net es ts v = wt v - gi lf v
  fe : ∃ p, Feas (resid es ts) p
  tb : ∀ i < es.length, gi ts i + rem n lf ≤ FF
  sg : ∀ v < n, gi lf v ≤ FF ∧ -FF ≤ gi lf v
  tot : dot es ts (fun _ => 1) + 64 * rem n lf ≤ 64 * FF
/-- a way that can be used -/
structure WayP (es : List Arc) (ts lf : List Int) (n : Nat) (p : List Arc) (u v : Nat) : Prop where
  ch : Chain p u v
  mem : ∀ x ∈ p, x ∈ resid es ts
  nd : (p.map (·.t)).Nodup
  un : u < n
  vn : v < n
  lu : gi lf u < 0
  lv : 0 < gi lf v
  tight : ∃ q, Feas (resid es ts) q ∧ ∀ x ∈ p, q x.t = q x.f + x.c
/-- how much is sent -/
def much (es : List Arc) (ts lf : List Int) (p : List Arc) (u v : Nat) : Int := least es ts (min (-gi lf u) (gi lf v)) p
def lfTo (lf : List Int) (m : Int) (u v : Nat) : List Int := (lf.set u (gi lf u + m)).set v (gi (lf.set u (gi lf u + m)) v - m)
variable {n : Nat} {es : List Arc} {wt : Nat → Int} {ts lf : List Int} {p : List Arc} {u v : Nat}
theorem of_resid (hl : es.length = ts.length) (hN : Numb es) {x : Arc} (hx : x ∈ resid es ts) : OfEs es x ∧ x.l.toNat < ts.length ∧ (¬ fwd es x → 0 < gi ts x.l.toNat) := by
  obtain ⟨i, y, h1, h2⟩ := (mem_resid hl).1 hx
  obtain ⟨h3, h4⟩ := OfEs.fwd hN h1 (h2.imp id (·.2))
  refine ⟨⟨i, y, h1, h2.imp id (·.2)⟩, by rw [h3, ← hl]; exact (List.getElem?_eq_some_iff.1 h1).1, fun hf => ?_⟩
  rw [h3]
  exact (h2.resolve_left fun e => hf (h4.2 e)).1
theorem much_pos (hl : es.length = ts.length) (hN : Numb es) (hw : WayP es ts lf n p u v) : 0 < much es ts lf p u v ∧ much es ts lf p u v ≤ -gi lf u ∧ much es ts lf p u v ≤ gi lf v ∧ ∀ x ∈ p, ¬ fwd es x → much es ts lf p u v ≤ gi ts x.l.toNat := by
  have h1 := hw.lu
  have h2 := hw.lv
  have h3 := least_pos (es := es) (ts := ts) (p := p) (n := min (-gi lf u) (gi lf v)) (by omega) fun x hx => (of_resid hl hN (hw.mem x hx)).2.2
  obtain ⟨h4, h5⟩ := least_le (es := es) (ts := ts) (p := p) (n := min (-gi lf u) (gi lf v))
  unfold much
  exact ⟨h3, by omega, by omega, h5⟩
/-- each limit is used at most once each way -/
theorem once (hl : es.length = ts.length) (hN : Numb es) (hw : WayP es ts lf n p u v) (i : Nat) : cntF es i p ≤ 1 ∧ cntB es i p ≤ 1 ∧ (0 < cntB es i p → much es ts lf p u v ≤ gi ts i) ∧ (0 < cntF es i p → ∃ x ∈ p, x.l.toNat = i ∧ fwd es x) := by
  have hof : ∀ x ∈ p, x.l.toNat = i → ∃ y, es[i]? = some y ∧ (x = y ∨ x = y.back) ∧ (fwd es x ↔ x = y) := fun x hx hi => by
    obtain ⟨j, y, h1, h2⟩ := (of_resid hl hN (hw.mem x hx)).1
    obtain ⟨h3, h4⟩ := OfEs.fwd hN h1 h2
    obtain rfl : j = i := h3.symm.trans hi
    exact ⟨y, h1, h2, h4⟩
  refine ⟨?_, ?_, fun h => ?_, fun h => ?_⟩
  · refine countP_le_one (c := (ga es i).t) hw.nd fun x hx hp => ?_
    simp only [decide_eq_true_eq] at hp
    obtain ⟨y, h1, h2, h3⟩ := hof x hx hp.1
    rw [(hN.ga h1).2, h3.1 hp.2]
  · refine countP_le_one (c := (ga es i).f) hw.nd fun x hx hp => ?_
    simp only [decide_eq_true_eq] at hp
    obtain ⟨y, h1, h2, h3⟩ := hof x hx hp.1
    rw [(hN.ga h1).2, h2.resolve_left fun e => hp.2 (h3.2 e)]
    rfl
  · obtain ⟨x, hx, hp⟩ := List.countP_pos_iff.1 h
    simp only [decide_eq_true_eq] at hp
    have := (much_pos hl hN hw).2.2.2 x hx hp.2
    rwa [hp.1] at this
  · obtain ⟨x, hx, hp⟩ := List.countP_pos_iff.1 h
    simp only [decide_eq_true_eq] at hp
    exact ⟨x, hx, hp⟩
theorem lfTo_get (hu : u < lf.length) (hv : v < lf.length) (huv : u ≠ v) (m : Int) (x : Nat) : gi (lfTo lf m u v) x = gi lf x + m * (ind u x - ind v x) := by
  unfold lfTo
  rw [gi_set (by simpa using hv), gi_set hu, gi_set hu]
  unfold ind
  by_cases e1 : x = v
  · subst e1
    rw [if_pos rfl, if_neg (Ne.symm huv), if_neg huv, if_pos rfl]
    omega
  · rw [if_neg e1, if_neg (Ne.symm e1)]
    by_cases e2 : x = u
    · subst e2; simp
    · rw [if_neg e2, if_neg (Ne.symm e2)]; simp
theorem pushes_tot {es : List Arc} (h : Numb es) {m : Int} (hm : 0 ≤ m) : ∀ {p : List Arc} {ts : List Int}, ts.length = es.length → (∀ x ∈ p, OfEs es x) → dot es (pushes es m ts p) (fun _ => 1) ≤ dot es ts (fun _ => 1) + m * p.length := by
  intro p
  induction p with
  | nil => intro ts _ _; simp [pushes]
  | cons x p ih =>
    intro ts hl hx
    have h1 := ih (ts := push es m ts x) (by rw [push_length, hl]) (fun y hy => hx y (.tail _ hy))
    simp only [pushes, List.foldl_cons] at h1 ⊢
    have h2 : dot es (push es m ts x) (fun _ => 1) ≤ dot es ts (fun _ => 1) + m := by
      obtain ⟨i, y, hy, hxy⟩ := hx x (.head _)
      obtain ⟨h3, _⟩ := OfEs.fwd h hy hxy
      have hi : i < ts.length := by rw [hl]; exact (List.getElem?_eq_some_iff.1 hy).1
      unfold push
      rw [h3]
      split <;> rw [dot_set hy hi] <;> omega
    rw [List.length_cons, Int.natCast_succ, Int.mul_add, Int.mul_one]
    omega
theorem FInv.send (h : FInv n es wt ts lf) (hN : Numb es) (hw : WayP es ts lf n p u v) (hpl : p.length ≤ 64) : FInv n es wt (pushes es (much es ts lf p u v) ts p) (lfTo lf (much es ts lf p u v) u v) ∧ rem n (lfTo lf (much es ts lf p u v) u v) < rem n lf := by
  have hl := h.lt.symm
  obtain ⟨m0, m1, m2, m3⟩ := much_pos hl hN hw
  have huv : u ≠ v := fun e => by have := hw.lu; have := hw.lv; rw [e] at *; omega
  have hon := fun i => once hl hN hw i
  generalize much es ts lf p u v = m at *
  have hget := lfTo_get (lf := lf) (by rw [h.ll]; exact hw.un) (by rw [h.ll]; exact hw.vn) huv m
  have iu : ∀ x, ind u x = if x = u then 1 else 0 := fun x => by unfold ind; by_cases e : u = x <;> simp [e, Ne.symm]
  have iv : ∀ x, ind v x = if x = v then 1 else 0 := fun x => by unfold ind; by_cases e : v = x <;> simp [e, Ne.symm]
  have hgu : gi (lfTo lf m u v) u = gi lf u + m := by rw [hget, iu, iv, if_pos rfl, if_neg huv]; omega
  have hgv : gi (lfTo lf m u v) v = gi lf v - m := by rw [hget, iu, iv, if_pos rfl, if_neg (Ne.symm huv)]; omega
  have hgo : ∀ x, x ≠ u → x ≠ v → gi (lfTo lf m u v) x = gi lf x := fun x h1 h2 => by rw [hget, iu, iv, if_neg h1, if_neg h2]; omega
  have hrem : rem n (lfTo lf m u v) = rem n lf - m := by
    unfold rem
    have h1 : sumTo (fun x => max (gi (lfTo lf m u v) x) 0 - max (gi lf x) 0) n = -m := by
      rw [sumTo_one hw.vn]
      · have := hw.lv
        rw [hgv]; omega
      · intro x hx hxv
        by_cases e : x = u
        · subst e
          have := hw.lu
          rw [hgu]; omega
        · rw [hgo x e hxv]; omega
    rw [sumTo_sub] at h1
    omega
  have hpg := fun i => pushes_get (es := es) (p := p) (ts := ts) (fun x hx => (of_resid hl hN (hw.mem x hx)).2.1) m i
  have hmul : ∀ {c : Nat}, c ≤ 1 → (c = 0 ∧ m * (c : Int) = 0) ∨ (c = 1 ∧ m * (c : Int) = m) := fun {c} hc => by
    have : c = 0 ∨ c = 1 := by omega
    rcases this with e | e <;> subst e <;> simp
  refine ⟨⟨by rw [pushes_length, h.lt], by simp [lfTo, h.ll], fun i hi => ?_, fun x hx => ?_, ?_, fun i hi => ?_, fun x hx => ?_, ?_⟩, by omega⟩
  · obtain ⟨o1, o2, o3, _⟩ := hon i
    rw [hpg]
    have := h.nn i hi
    rcases hmul o1 with ⟨_, e1⟩ | ⟨_, e1⟩ <;> rcases hmul o2 with ⟨_, e2⟩ | ⟨c2, e2⟩ <;> rw [e1, e2]
    · omega
    · have := o3 (by omega); omega
    · omega
    · omega
  · rw [pushes_net hN hw.ch h.lt (fun y hy => (of_resid hl hN (hw.mem y hy)).1), h.cons x hx, hget]
    rw [Int.mul_sub, Int.mul_sub]; omega
  · obtain ⟨q, q1, q2⟩ := hw.tight
    refine ⟨q, fun y hy => ?_⟩
    obtain ⟨i, x, h1, h2⟩ := (mem_resid (by rw [pushes_length]; exact hl)).1 hy
    have hin : x ∈ resid es ts := (mem_resid hl).2 ⟨i, x, h1, .inl rfl⟩
    rcases h2 with rfl | ⟨h2, rfl⟩
    · exact q1 y hin
    · by_cases h0 : 0 < gi ts i
      · exact q1 _ ((mem_resid hl).2 ⟨i, x, h1, .inr ⟨h0, rfl⟩⟩)
      · obtain ⟨o1, o2, o3, o4⟩ := hon i
        have hi : i < es.length := (List.getElem?_eq_some_iff.1 h1).1
        have hnn := h.nn i hi
        rw [hpg] at h2
        have hF : 0 < cntF es i p := by
          rcases hmul o1 with ⟨_, e1⟩ | ⟨c1, e1⟩
          · rcases hmul o2 with ⟨_, e2⟩ | ⟨_, e2⟩ <;> rw [e1, e2] at h2 <;> omega
          · omega
        obtain ⟨z, z1, z2, z3⟩ := o4 hF
        obtain ⟨j, y, y1, y2⟩ := (of_resid hl hN (hw.mem z z1)).1
        obtain ⟨y3, y4⟩ := OfEs.fwd hN y1 y2
        obtain rfl : j = i := y3.symm.trans z2
        rw [h1] at y1
        cases y1
        obtain rfl := y4.1 z3
        have := q2 z z1
        simp only [Arc.back]; omega
  · obtain ⟨o1, o2, _⟩ := hon i
    rw [hpg, hrem]
    have := h.tb i hi
    rcases hmul o1 with ⟨_, e1⟩ | ⟨_, e1⟩ <;> rcases hmul o2 with ⟨_, e2⟩ | ⟨_, e2⟩ <;> rw [e1, e2] <;> omega
  · have h1 := h.sg x hx
    have := hw.lu
    have := hw.lv
    by_cases e : x = u
    · subst e; rw [hgu]; simp only [FF] at *; omega
    · by_cases e2 : x = v
      · subst e2; rw [hgv]; simp only [FF] at *; omega
      · rw [hgo x e e2]; exact h1
  · have h1 := pushes_tot hN (m := m) (by omega) (p := p) h.lt (fun y hy => (of_resid hl hN (hw.mem y hy)).1)
    have h2 := h.tot
    have h3 : m * (p.length : Int) ≤ m * 64 := Int.mul_le_mul_of_nonneg_left (by omega) (by omega)
    rw [hrem]
    omega
end Go.MW

/-
  Greatest sums: when a flow is full it shows one; when none goes on there is none. Plain Lean; no program is named here.
-/
namespace Go.MW
/-- the greatest sum of solutions by weights that add up to 0 -/
def OptS (es : List Arc) (wt : Nat → Int) (n : Nat) (m : Int) : Prop :=
  (∃ p, Feas es p ∧ sumTo (fun v => wt v * p v) n = m) ∧ ∀ p, Feas es p → sumTo (fun v => wt v * p v) n ≤ m
/-- a set that may be raised for ever -/
def OpenS (es : List Arc) (wt : Nat → Int) (n : Nat) : Prop :=
  ∃ q : Nat → Int, (∀ v, q v = 0 ∨ q v = 1) ∧ (∀ x ∈ es, q x.f = 0 → q x.t = 0) ∧ 0 < sumTo (fun v => wt v * q v) n
theorem OptS.uniq {es : List Arc} {wt : Nat → Int} {n : Nat} {a b : Int} (h : OptS es wt n a) (g : OptS es wt n b) : a = b := by
  obtain ⟨⟨p, p1, p2⟩, h2⟩ := h
  obtain ⟨⟨q, q1, q2⟩, g2⟩ := g
  have := h2 q q1
  have := g2 p p1
  omega
variable {n : Nat} {es : List Arc} {wt : Nat → Int} {ts lf : List Int}
theorem resid_feas (hl : es.length = ts.length) {p : Nat → Int} (h : Feas (resid es ts) p) : Feas es p := fun x hx => by
  obtain ⟨i, hi⟩ := List.getElem?_of_mem hx
  exact h x ((mem_resid hl).2 ⟨i, x, hi, .inl rfl⟩)
/-- what flows into each is what is asked -/
def FullS (n : Nat) (es : List Arc) (wt : Nat → Int) (ts : List Int) : Prop := ∀ v < n, net es ts v = wt v
theorem full_opt (hin : ∀ x ∈ es, x.f < n ∧ x.t < n) (hl : ts.length = es.length) (hn : ∀ i < es.length, 0 ≤ gi ts i) (hf : FullS n es wt ts) {p : Nat → Int} (hp : Feas (resid es ts) p) :
    OptS es wt n (dot es ts (·.c)) ∧ sumTo (fun v => wt v * p v) n = dot es ts (·.c) ∧ ¬ OpenS es wt n := by
  have hn' : ∀ i, i < ts.length → 0 ≤ gi ts i := fun i hi => hn i (by omega)
  have h1 : ∀ p : Nat → Int, sumTo (fun v => wt v * p v) n = sumTo (fun v => net es ts v * p v) n := fun p => sumTo_congr fun v hv => by rw [hf v hv]
  have h2 : sumTo (fun v => wt v * p v) n = dot es ts (·.c) := by rw [h1, slack hl.symm hn' hp, dot_dual p hin]
  refine ⟨⟨⟨p, resid_feas hl.symm hp, h2⟩, fun q hq => by rw [h1]; exact weak hin hn' hq⟩, h2, fun ⟨q, q1, q2, q3⟩ => ?_⟩
  rw [h1] at q3
  have := cut_le (R := fun v => q v = 0) hin hn' q2 q fun v => ⟨id, fun h => (q1 v).resolve_left h⟩
  omega
theorem net_total (hin : ∀ x ∈ es, x.f < n ∧ x.t < n) (h : FInv n es wt ts lf) (h0 : sumTo wt n = 0) : sumTo (gi lf) n = 0 := by
  have h1 := net_sum (ts := ts) hin
  rw [sumTo_congr (g := fun v => wt v - gi lf v) h.cons, sumTo_sub, h0] at h1
  omega
/-- nobody still has to get anything -/
theorem FInv.full (h : FInv n es wt ts lf) (hin : ∀ x ∈ es, x.f < n ∧ x.t < n) (h0 : sumTo wt n = 0) (hle : ∀ v < n, gi lf v ≤ 0) : FullS n es wt ts := fun v hv => by
  have h1 := net_total hin h h0
  have h2 : gi lf v = 0 := by
    refine Classical.byContradiction fun hne => ?_
    have h3 := hle v hv
    have := sumTo_lt (f := gi lf) (g := fun _ => 0) (n := n) hle hv (by omega)
    rw [sumTo_zero] at this
    omega
  rw [h.cons v hv, h2]; omega
/-- whoever has to get something and cannot be reached -/
theorem FInv.open (h : FInv n es wt ts lf) (hin : ∀ x ∈ es, x.f < n ∧ x.t < n) {R : Nat → Prop} (hS : ∀ v < n, gi lf v < 0 → R v) (hR : ∀ x ∈ resid es ts, R x.f → R x.t) {to : Nat} (ht : to < n) (hto : ¬ R to) (hlt : 0 < gi lf to) : OpenS es wt n := by
  open Classical in
  refine ⟨fun v => if R v then 0 else 1, fun v => ?_, fun x hx hq => ?_, ?_⟩
  · by_cases e : R v <;> simp [e]
  · obtain ⟨i, hi⟩ := List.getElem?_of_mem hx
    have := hR x ((mem_resid h.lt.symm).2 ⟨i, x, hi, .inl rfl⟩)
    by_cases e : R x.f
    · simp [this e]
    · simp [e] at hq
  · have hq : ∀ v, (fun v => if R v then (0 : Int) else 1) v = if R v then 0 else 1 := fun _ => rfl
    generalize (fun v => if R v then (0 : Int) else 1) = q at *
    have h1 : sumTo (fun v => wt v * q v) n = sumTo (fun v => net es ts v * q v) n + sumTo (fun v => gi lf v * q v) n := by
      rw [← sumTo_add]
      refine sumTo_congr fun v hv => ?_
      rw [h.cons v hv, Int.sub_mul]; omega
    have h2 : 0 = sumTo (fun v => net es ts v * q v) n := by
      rw [← dot_dual q hin]
      have h0 : ∀ (es : List Arc) (ts : List Int), dot es ts (fun _ => 0) = 0 := by
        intro es
        induction es with
        | nil => intro ts; simp [dot]
        | cons x es ih => intro ts; cases ts <;> simp [dot, ih]
      rw [← h0 es ts]
      refine dot_eq fun i x hx hi => ?_
      by_cases hz : gi ts i = 0
      · rw [hz]; simp
      · have hp : 0 < gi ts i := by have := h.nn i (by rw [← h.lt]; exact hi); omega
        have r1 := hR x ((mem_resid h.lt.symm).2 ⟨i, x, hx, .inl rfl⟩)
        have r2 := hR x.back ((mem_resid h.lt.symm).2 ⟨i, x, hx, .inr ⟨hp, rfl⟩⟩)
        have : q x.t = q x.f := by
          rw [hq, hq]
          by_cases e : R x.f
          · simp [e, r1 e]
          · have : ¬ R x.t := fun h => e (r2 h)
            simp [e, this]
        rw [this, Int.sub_self]
    have h3 : 0 < sumTo (fun v => gi lf v * q v) n := by
      have := sumTo_lt (f := fun _ => 0) (g := fun v => gi lf v * q v) (n := n) (fun v hv => by
        rw [hq]
        by_cases e : R v
        · simp [e]
        · have := hS v hv
          have : ¬ gi lf v < 0 := fun h => e (this h)
          simp [e]; omega) ht (by rw [hq]; simp [hto]; exact hlt)
      rw [sumTo_zero] at this
      exact this
    omega
/-! ### weights -/
def wtOf (w : List Int) (n : Nat) (v : Nat) : Int := if v = 0 then gi w 0 - sumTo (gi w) n else gi w v
theorem wt_split {n : Nat} (hn : 0 < n) (f : Nat → Int) : sumTo f n = f 0 + sumTo (fun v => if v = 0 then 0 else f v) n := by
  have : sumTo (fun v => f v - if v = 0 then 0 else f v) n = f 0 := by
    rw [sumTo_one hn]
    · simp
    · intro v _ hv; simp [hv]
  rw [sumTo_sub] at this
  omega
theorem wt_sum (w : List Int) {n : Nat} (hn : 0 < n) : sumTo (wtOf w n) n = 0 := by
  rw [wt_split hn (wtOf w n), sumTo_congr (g := fun v => if v = 0 then 0 else gi w v) (fun v _ => by unfold wtOf; split <;> rfl)]
  have := wt_split hn (gi w)
  simp only [wtOf, if_true]; omega
/-- by weights, of a solution that is moved so that the unknown 0 is 0 -/
theorem wt_val (w : List Int) {n : Nat} (hn : 0 < n) (p : Nat → Int) : sumTo (fun v => wtOf w n v * p v) n = sumTo (fun v => gi w v * (p v - p 0)) n := by
  have h1 := wt_split hn (fun v => wtOf w n v * p v)
  have h2 := wt_split hn (fun v => gi w v * (p v - p 0))
  simp only [wtOf, if_true, Int.sub_self, Int.mul_zero, Int.zero_add] at h1 h2
  have e1 : sumTo (fun v => if v = 0 then 0 else (if v = 0 then gi w 0 - sumTo (gi w) n else gi w v) * p v) n = sumTo (fun v => if v = 0 then 0 else gi w v * p v) n :=
    sumTo_congr fun v _ => by by_cases e : v = 0 <;> simp [e]
  have e2 : sumTo (fun v => if v = 0 then 0 else gi w v * (p v - p 0)) n = sumTo (fun v => (if v = 0 then 0 else gi w v * p v) - p 0 * (if v = 0 then 0 else gi w v)) n :=
    sumTo_congr fun v _ => by
      by_cases e : v = 0
      · simp [e]
      · simp only [e, if_false]; rw [Int.mul_sub, Int.mul_comm (p 0)]
  rw [sumTo_sub, sumTo_mul] at e2
  have h3 := wt_split hn (gi w)
  rw [e1] at h1
  rw [e2] at h2
  have : wtOf w n = fun v => if v = 0 then gi w 0 - sumTo (gi w) n else gi w v := by funext v; rfl
  rw [h2]
  simp only [wtOf]
  rw [h1]
  have e3 : gi w 0 - sumTo (gi w) n = - sumTo (fun v => if v = 0 then 0 else gi w v) n := by omega
  rw [e3, Int.neg_mul, Int.mul_comm]
  omega
end Go.MW

/-
  The search's beginning, and what it hands back. Plain Lean; no program is named here.
-/
namespace Go.MW
/-- what the first k are set to -/
structure WInit (n : Nat) (lf : List Int) (k : Nat) (s : BS) : Prop where
  lc : s.cost.length = n
  lb : s.by_.length = n
  c : ∀ v < n, gi s.cost v = if v < k ∧ gi lf v < 0 then 0 else far
  b : ∀ v < n, ga s.by_ v = if v < k ∧ gi lf v < 0 then ⟨0, 0, 0, -1⟩ else ⟨0, 0, 0, 0⟩
variable {n : Nat} {es as : List Arc} {wt D : Nat → Int} {ts lf : List Int} {s : BS} {k : Nat}
theorem WInit.start (n : Nat) (lf : List Int) : WInit n lf 0 ⟨List.replicate n far, List.replicate n ⟨0, 0, 0, 0⟩⟩ :=
  ⟨by simp, by simp, fun v hv => by rw [gi_replicate n far hv, if_neg (by omega)], fun v hv => by rw [ga_replicate n _ hv, if_neg (by omega)]⟩
theorem WInit.skip (h : WInit n lf k s) (hk : ¬ gi lf k < 0) : WInit n lf (k + 1) s :=
  ⟨h.lc, h.lb, fun v hv => by
    rw [h.c v hv]
    by_cases e : v = k
    · subst e; rw [if_neg (by omega), if_neg (by omega)]
    · congr 1; apply propext; omega, fun v hv => by
    rw [h.b v hv]
    by_cases e : v = k
    · subst e; rw [if_neg (by omega), if_neg (by omega)]
    · congr 1; apply propext; omega⟩
theorem WInit.take (h : WInit n lf k s) (hkn : k < n) (hk : gi lf k < 0) : WInit n lf (k + 1) ⟨s.cost.set k 0, s.by_.set k ⟨(ga s.by_ k).f, (ga s.by_ k).t, (ga s.by_ k).c, -1⟩⟩ :=
  ⟨by simp [h.lc], by simp [h.lb], fun v hv => by
    rw [gi_set (by rw [h.lc]; exact hkn)]
    by_cases e : v = k
    · subst e; rw [if_pos rfl, if_pos (by omega)]
    · rw [if_neg e, h.c v hv]; congr 1; apply propext; omega, fun v hv => by
    rw [ga_set (by rw [h.lb]; exact hkn)]
    by_cases e : v = k
    · subst e; rw [if_pos rfl, if_pos (by omega), h.b v hv, if_neg (by omega)]
    · rw [if_neg e, h.b v hv]; congr 1; apply propext; omega⟩
theorem WInit.inv (h : WInit n lf n s) (hg : WG n as D) : WInv n as (fun v => gi lf v < 0) D 0 true s where
  lc := h.lc
  lb := h.lb
  lo := fun v hv => by
    have := hg.d0 v
    have : far = 1152921504606846976 := rfl
    rw [h.c v hv]; split <;> omega
  top := fun v hv => by
    have : far = 1152921504606846976 := rfl
    rw [h.c v hv]; split <;> omega
  up := fun v hv hr => by
    rw [h.c v hv] at hr ⊢
    split
    · omega
    · rename_i e; rw [if_neg e] at hr; omega
  src := fun v hv hs => by rw [h.c v hv, if_pos ⟨hv, hs⟩]; omega
  by1 := fun v hv hr => by
    rw [h.c v hv] at hr
    by_cases e : v < n ∧ gi lf v < 0
    · refine .inl ⟨by rw [h.b v hv, if_pos e], e.2, by rw [h.c v hv, if_pos e]⟩
    · rw [if_neg e] at hr; omega
  dep := fun v hv hr => by
    rw [h.c v hv] at hr
    by_cases e : v < n ∧ gi lf v < 0
    · exact ⟨0, 0, v, .nil, by rw [h.b v hv, if_pos e]; simp⟩
    · rw [if_neg e] at hr; omega
  nov := fun e => by cases e
/-- what the search hands back -/
def WayR (n : Nat) (es : List Arc) (ts lf : List Int) (p : List Arc) (to : Nat) : Prop :=
  (p = [] ∧ ∃ R : Nat → Prop, (∀ v < n, gi lf v < 0 → R v) ∧ (∀ x ∈ resid es ts, R x.f → R x.t) ∧ ¬ R to) ∨
  (p ≠ [] ∧ p.length < n ∧ ∃ u, WayP es ts lf n p u to)
theorem resid_WG (hn : 0 < n) (hn1 : n ≤ 65) (ho : ArcsOk es n) (hl : es.length = ts.length) (hf : ∃ p, Feas (resid es ts) p) : ∃ D, WG n (resid es ts) D := by
  obtain ⟨p, hp⟩ := hf
  have hok : ∀ x ∈ resid es ts, x.f < n ∧ x.t < n ∧ -20000 ≤ x.c ∧ x.c ≤ 20000 ∧ 0 ≤ x.l ∧ x.f ≠ x.t := fun x hx => by
    obtain ⟨i, y, h1, h2⟩ := (mem_resid hl).1 hx
    have h3 := ho.2 y (List.mem_of_getElem? h1)
    rcases h2 with rfl | ⟨_, rfl⟩
    · exact h3
    · simp only [Arc.back]; omega
  obtain ⟨D, h1, h2, h3⟩ := hp.bounded (n := n) (C := 20000) hn (by omega) fun x hx => by have := hok x hx; exact ⟨this.1, this.2.1, this.2.2.1⟩
  refine ⟨D, hn, hn1, hok, h1, h2, fun v hv => ?_⟩
  have := h3 v hv
  have h4 : (((n - 1 : Nat) : Int)) ≤ 64 := by omega
  omega
theorem WInv.none (h : WInv n (resid es ts) (fun v => gi lf v < 0) D (resid es ts).length false s) (hg : WG n (resid es ts) D) {to : Nat} (ht : gi s.cost to = far) : WayR n es ts lf [] to :=
  .inl ⟨rfl, fun v => gi s.cost v < far, fun v hv hs => by have := h.src v hv hs; simp only [far]; omega, h.closed hg, by dsimp only; rw [ht]; omega⟩
/-- from whoever is reached back to a root -/
theorem WInv.back (h : WInv n (resid es ts) (fun v => gi lf v < 0) D (resid es ts).length false s) (hg : WG n (resid es ts) D) {to : Nat} (hto : to < n) (ht : gi s.cost to < far) (hp : 0 < gi lf to) :
    ∃ k c u, Back s.by_ to k c u ∧ (ga s.by_ u).l < 0 ∧ k < n ∧ 0 < k ∧ (∀ v, v < n → gi s.cost v < far → 0 ≤ (ga s.by_ v).l → (ga s.by_ v).f < n ∧ gi s.cost (ga s.by_ v).f < far) ∧ ∀ p, p = (trail s.by_ to k).reverse → WayR n es ts lf p to := by
  have hstep : ∀ v, (v < n ∧ gi s.cost v < far) → 0 ≤ (ga s.by_ v).l → ga s.by_ v ∈ resid es ts ∧ (ga s.by_ v).t = v ∧ gi s.cost (ga s.by_ v).f + (ga s.by_ v).c ≤ gi s.cost v ∧ ((ga s.by_ v).f < n ∧ gi s.cost (ga s.by_ v).f < far) := fun v ⟨hv, hr⟩ hl => by
    rcases h.by1 v hv hr with ⟨e, _⟩ | ⟨_, e1, e2, e3, e4⟩
    · omega
    · exact ⟨e1, e2, e4, (hg.ok _ e1).1, e3⟩
  obtain ⟨k, c, u, h1, h2⟩ := h.dep to hto ht
  have hin : ∀ {v w : Nat} {k : Nat} {c : Int}, Back s.by_ v k c w → (v < n ∧ gi s.cost v < far) → (w < n ∧ gi s.cost w < far) := fun h => by
    induction h with
    | nil => exact id
    | cons hl t ih => exact fun hv => ih (hstep _ hv hl).2.2.2
  have hu := hin h1 ⟨hto, ht⟩
  have hSu : gi lf u < 0 := by
    rcases h.by1 u hu.1 hu.2 with ⟨_, e, _⟩ | ⟨e, _⟩
    · exact e
    · omega
  have hk : k < n := h1.short (A := fun v => v < n ∧ gi s.cost v < far) (fun v hv => hv.1) (fun v hv hl => (hstep v hv hl).2.2.2) h2 ⟨hto, ht⟩
  have hk0 : 0 < k := by
    cases h1 with
    | nil => omega
    | cons _ _ => omega
  refine ⟨k, c, u, h1, h2, hk, hk0, fun v hv hr hl => (hstep v ⟨hv, hr⟩ hl).2.2.2, fun p hp' => ?_⟩
  subst hp'
  refine .inr ⟨?_, by simpa [trail_length] using hk, u, ?_, ?_, ?_, hu.1, hto, hSu, hp, MW.after D s, h.after hg, ?_⟩
  · intro e
    have := congrArg List.length e
    simp [trail_length] at this
    omega
  · exact trail_chain (A := fun v => v < n ∧ gi s.cost v < far) (fun v hv hl => ⟨(hstep v hv hl).2.1, (hstep v hv hl).2.2.2⟩) h1 ⟨hto, ht⟩
  · intro x hx
    rw [List.mem_reverse] at hx
    exact trail_mem (A := fun v => v < n ∧ gi s.cost v < far) (B := fun x => x ∈ resid es ts) (fun v hv hl => ⟨(hstep v hv hl).1, (hstep v hv hl).2.2.2⟩) h1 ⟨hto, ht⟩ x hx
  · rw [List.map_reverse]
    have := trail_nodup (A := fun v => v < n ∧ gi s.cost v < far) (fun v hv hl => ⟨(hstep v hv hl).2.1, (hstep v hv hl).2.2.2⟩) h2 h1 ⟨hto, ht⟩
    exact (List.reverse_perm _).nodup_iff.2 this
  · intro x hx
    rw [List.mem_reverse] at hx
    have := trail_mem (A := fun v => v < n ∧ gi s.cost v < far) (B := fun x => x ∈ resid es ts ∧ gi s.cost x.f < far ∧ gi s.cost x.t < far ∧ gi s.cost x.f + x.c ≤ gi s.cost x.t) (fun v hv hl => by
      obtain ⟨g1, g2, g3, g4⟩ := hstep v hv hl
      exact ⟨⟨g1, g4.2, by rw [g2]; exact hv.2, by rw [g2]; exact g3⟩, g4⟩) h1 ⟨hto, ht⟩ x hx
    obtain ⟨g1, g2, g3, g4⟩ := this
    have g5 := h.after hg x g1
    unfold MW.after at g5 ⊢
    rw [if_pos g2, if_pos g3] at g5 ⊢
    omega
theorem Chain.head {p : List Arc} {u v : Nat} (h : Chain p u v) {x : Arc} (hx : p[0]? = some x) : x.f = u := by
  cases h with
  | nil => simp at hx
  | cons _ => simp at hx; rw [hx]
theorem Chain.last {p : List Arc} {u v : Nat} (h : Chain p u v) {x : Arc} (hx : p[p.length - 1]? = some x) : x.t = v := by
  induction h with
  | nil => simp at hx
  | @cons y p v hc ih =>
    cases p with
    | nil =>
      cases hc
      simp at hx; rw [hx]
    | cons z p =>
      refine ih ?_
      simpa using hx
theorem take_snoc {α : Type} {p : List α} {k : Nat} {x : α} (hx : p[k]? = some x) : p.take (k + 1) = p.take k ++ [x] := by
  rw [List.take_add_one, hx]; rfl
theorem least_snoc (es : List Arc) (ts : List Int) (m : Int) (p : List Arc) (x : Arc) : least es ts m (p ++ [x]) = if fwd es x then least es ts m p else min (least es ts m p) (gi ts x.l.toNat) := by
  simp [least, List.foldl_append]
theorem pushes_snoc (es : List Arc) (m : Int) (ts : List Int) (p : List Arc) (x : Arc) : pushes es m ts (p ++ [x]) = push es m (pushes es m ts p) x := by
  simp [pushes, List.foldl_append]
theorem pushes_bd {es : List Arc} {m : Int} {ts : List Int} {p : List Arc} (h0 : 0 ≤ m) (h1 : m ≤ FF) (hl : p.length ≤ 65) (hx : ∀ x ∈ p, x.l.toNat < ts.length) (i : Nat) :
    gi (pushes es m ts p) i ≤ gi ts i + 234000000000000 ∧ gi ts i - 234000000000000 ≤ gi (pushes es m ts p) i := by
  rw [pushes_get hx]
  have hF : cntF es i p ≤ 65 := Nat.le_trans List.countP_le_length hl
  have hB : cntB es i p ≤ 65 := Nat.le_trans List.countP_le_length hl
  have key : ∀ c : Nat, c ≤ 65 → 0 ≤ m * (c : Int) ∧ m * (c : Int) ≤ 234000000000000 := fun c hc => by
    refine ⟨Int.mul_nonneg h0 (by omega), ?_⟩
    have : m * (c : Int) ≤ FF * 65 := Int.mul_le_mul h1 (by omega) (by omega) (by simp [FF])
    simp only [FF] at this
    omega
  have k1 := key _ hF
  have k2 := key _ hB
  omega
end Go.MW

/-
  Sizes of weights; a flow at its beginning. Plain Lean; no program is named here.
-/
namespace Go.MW
/-- the sizes of the first k weights -/
def sizesTo (w : List Int) (k : Nat) : Int := sumTo (fun v => max (gi w v) (-gi w v)) k
def SizedW (w : List Int) : Prop := sizesTo w w.length ≤ FF
instance (w : List Int) : Decidable (SizedW w) := by unfold SizedW; infer_instance
theorem sumTo_mono {f : Nat → Int} (h : ∀ v, 0 ≤ f v) {k n : Nat} (hk : k ≤ n) : sumTo f k ≤ sumTo f n := by
  induction hk with
  | refl => exact Int.le_refl _
  | @step m _ ih => simp only [sumTo]; have := h m; omega
theorem sumTo_ge {f : Nat → Int} (h : ∀ v, 0 ≤ f v) {v n : Nat} (hv : v < n) : f v ≤ sumTo f n := by
  have h1 := sumTo_mono h (k := v + 1) (n := n) hv
  have h2 : 0 ≤ sumTo f v := sumTo_nonneg fun u _ => h u
  simp only [sumTo] at h1; omega
theorem sizes_at (w : List Int) {v n : Nat} (hv : v < n) : gi w v ≤ sizesTo w n ∧ -gi w v ≤ sizesTo w n := by
  have := sumTo_ge (f := fun v => max (gi w v) (-gi w v)) (fun v => by omega) hv
  unfold sizesTo
  omega
/-- the numbers behind the first one -/
def tailTo (w : List Int) (k : Nat) : Int := sumTo (fun v => gi w (v + 1)) k
theorem sumTo_shift (f : Nat → Int) (k : Nat) : sumTo f (k + 1) = f 0 + sumTo (fun v => f (v + 1)) k := by
  induction k with
  | zero => simp [sumTo]
  | succ k ih => rw [sumTo, ih]; simp only [sumTo]; omega
theorem tail_bound (w : List Int) (k : Nat) : tailTo w k ≤ sizesTo w (k + 1) ∧ -tailTo w k ≤ sizesTo w (k + 1) := by
  unfold sizesTo tailTo
  rw [sumTo_shift]
  have h1 := sumTo_le (f := fun v => gi w (v + 1)) (g := fun v => max (gi w (v + 1)) (-gi w (v + 1))) (n := k) (fun v _ => by omega)
  have h2 := sumTo_le (f := fun v => -gi w (v + 1)) (g := fun v => max (gi w (v + 1)) (-gi w (v + 1))) (n := k) (fun v _ => by omega)
  rw [sumTo_neg] at h2
  omega
theorem wt_zero (w : List Int) (k : Nat) : wtOf w (k + 1) 0 = -tailTo w k := by
  simp only [wtOf, if_true, sumTo_shift (gi w), tailTo]; omega
theorem wt_succ (w : List Int) (n v : Nat) : wtOf w n (v + 1) = gi w (v + 1) := by simp [wtOf]
theorem FInv.start {es : List Arc} {w lf : List Int} {k : Nat} (hw : sizesTo w (k + 1) ≤ FF) (hl : lf.length = k + 1) (hlf : ∀ v < k + 1, gi lf v = wtOf w (k + 1) v) (hf : ∃ p, Feas es p) :
    FInv (k + 1) es (wtOf w (k + 1)) (List.replicate es.length 0) lf := by
  have h0 : ∀ i < es.length, gi (List.replicate es.length (0 : Int)) i = 0 := fun i hi => gi_replicate _ _ hi
  have ht := tail_bound w k
  have hrem : rem (k + 1) lf ≤ FF := by
    unfold rem
    rw [sumTo_congr (g := fun v => max (wtOf w (k + 1) v) 0) (fun v hv => by rw [hlf v hv]), sumTo_shift, wt_zero]
    unfold sizesTo at hw
    rw [sumTo_shift] at hw
    rw [sumTo_congr (g := fun v => max (gi w (v + 1)) 0) (fun v _ => by rw [wt_succ])]
    have e1 : sumTo (fun v => max (gi w (v + 1)) 0) k + sumTo (fun v => max (-gi w (v + 1)) 0) k = sumTo (fun v => max (gi w (v + 1)) (-gi w (v + 1))) k := by
      rw [← sumTo_add]; exact sumTo_congr fun v _ => by omega
    have e2 : sumTo (fun v => max (gi w (v + 1)) 0) k - sumTo (fun v => max (-gi w (v + 1)) 0) k = tailTo w k := by
      rw [← sumTo_sub]; exact sumTo_congr fun v _ => by omega
    have e3 : 0 ≤ sumTo (fun v => max (-gi w (v + 1)) 0) k := sumTo_nonneg fun v _ => by omega
    have e4 : 0 ≤ sumTo (fun v => max (gi w (v + 1)) 0) k := sumTo_nonneg fun v _ => by omega
    omega
  refine ⟨by simp, hl, fun i hi => by rw [h0 i hi]; omega, fun v hv => ?_, ?_, fun i hi => by rw [h0 i hi]; omega, fun v hv => ?_, by rw [dot_zero]; omega⟩
  · unfold net
    rw [dot_zero, hlf v hv]; omega
  · obtain ⟨p, hp⟩ := hf
    refine ⟨p, fun x hx => ?_⟩
    obtain ⟨i, y, h1, h2⟩ := (mem_resid (by simp)).1 hx
    rcases h2 with rfl | ⟨h2, _⟩
    · exact hp x (List.mem_of_getElem? h1)
    · rw [h0 i (List.getElem?_eq_some_iff.1 h1).1] at h2; omega
  · rw [hlf v hv]
    cases v with
    | zero => rw [wt_zero]; omega
    | succ v =>
      rw [wt_succ]
      have := sizes_at w hv
      omega
/-- a flow that is full, and a solution of all that may be changed -/
structure FlowOk (n : Nat) (es : List Arc) (wt : Nat → Int) (ts : List Int) : Prop where
  lt : ts.length = es.length
  nn : ∀ i < es.length, 0 ≤ gi ts i ∧ gi ts i ≤ FF
  full : FullS n es wt ts
  fe : ∃ p, Feas (resid es ts) p
  tot : dot es ts (fun _ => 1) ≤ 64 * FF
theorem FInv.ok {n : Nat} {es : List Arc} {wt : Nat → Int} {ts lf : List Int} (h : FInv n es wt ts lf) (hin : ∀ x ∈ es, x.f < n ∧ x.t < n) (h0 : sumTo wt n = 0) (hle : ∀ v < n, gi lf v ≤ 0) : FlowOk n es wt ts := by
  have h3 : 0 ≤ rem n lf := sumTo_nonneg fun v _ => by omega
  refine ⟨h.lt, fun i hi => ⟨h.nn i hi, ?_⟩, h.full hin h0 hle, h.fe, ?_⟩
  · have h1 := h.tb i hi
    omega
  · have h1 := h.tot
    omega
end Go.MW

/-
  A full flow's sum: how great it may be. Plain Lean; no program is named here.
-/
namespace Go.MW
/-- the sum over the first k arcs -/
def dotTo (es : List Arc) (ts : List Int) (k : Nat) : Int := sumTo (fun i => gi ts i * (ga es i).c) k
theorem dot_dotTo : ∀ {es : List Arc} {ts : List Int}, ts.length = es.length → dot es ts (·.c) = dotTo es ts es.length := by
  intro es
  induction es with
  | nil => intro ts _; simp [dot, dotTo, sumTo]
  | cons x es ih =>
    intro ts h
    cases ts with
    | nil => simp at h
    | cons t ts =>
      have h1 := ih (ts := ts) (by simpa using h)
      simp only [dot, h1, dotTo, List.length_cons]
      rw [sumTo_shift]
      rfl
abbrev BB : Int := 4608000000000000000
theorem value_bound {w : List Int} {n : Nat} {p : Nat → Int} (hw : sizesTo w n ≤ FF) (hp : ∀ v < n, p v - p 0 ≤ 1280000 ∧ -1280000 ≤ p v - p 0) : sumTo (fun v => gi w v * (p v - p 0)) n ≤ BB ∧ -BB ≤ sumTo (fun v => gi w v * (p v - p 0)) n := by
  have key : ∀ a b : Int, b ≤ 1280000 → -1280000 ≤ b → a * b ≤ 1280000 * max a (-a) ∧ -(a * b) ≤ 1280000 * max a (-a) := by
    intro a b h1 h2
    rcases Int.le_total 0 a with h | h
    · have e : max a (-a) = a := by omega
      have g1 : a * b ≤ a * 1280000 := Int.mul_le_mul_of_nonneg_left h1 h
      have g2 : a * (-1280000) ≤ a * b := Int.mul_le_mul_of_nonneg_left h2 h
      rw [e]; omega
    · have e : max a (-a) = -a := by omega
      have g1 : (-a) * b ≤ (-a) * 1280000 := Int.mul_le_mul_of_nonneg_left h1 (by omega)
      have g2 : (-a) * (-1280000) ≤ (-a) * b := Int.mul_le_mul_of_nonneg_left h2 (by omega)
      rw [e]
      simp only [Int.neg_mul] at g1 g2
      omega
  have h1 : sumTo (fun v => gi w v * (p v - p 0)) n ≤ sumTo (fun v => 1280000 * max (gi w v) (-gi w v)) n := sumTo_le fun v hv => (key _ _ (hp v hv).1 (hp v hv).2).1
  have h2 : sumTo (fun v => -(gi w v * (p v - p 0))) n ≤ sumTo (fun v => 1280000 * max (gi w v) (-gi w v)) n := sumTo_le fun v hv => (key _ _ (hp v hv).1 (hp v hv).2).2
  rw [sumTo_mul] at h1 h2
  rw [sumTo_neg] at h2
  unfold sizesTo at hw
  simp only [FF, BB] at *
  omega
theorem FlowOk.value {n : Nat} {es : List Arc} {w ts : List Int} (h : FlowOk n es (wtOf w n) ts) (hn : 0 < n) (hn1 : n ≤ 65) (ho : ArcsOk es n) (hw : sizesTo w n ≤ FF) :
    OptS es (wtOf w n) n (dot es ts (·.c)) ∧ ¬ OpenS es (wtOf w n) n ∧ dot es ts (·.c) ≤ BB ∧ -BB ≤ dot es ts (·.c) := by
  have hin : ∀ x ∈ es, x.f < n ∧ x.t < n := fun x hx => by have := ho.2 x hx; omega
  obtain ⟨D, hg⟩ := resid_WG hn hn1 ho h.lt.symm h.fe
  obtain ⟨h1, h2, h3⟩ := full_opt hin h.lt (fun i hi => (h.nn i hi).1) h.full hg.fe
  refine ⟨h1, h3, ?_⟩
  rw [← h2, wt_val w hn]
  exact value_bound hw fun v hv => by
    have a1 := hg.d0 v
    have a2 := hg.d1 v hv
    have a3 := hg.d0 0
    have a4 := hg.d1 0 hn
    omega
/-- the same of any solution's point, where the flow's arcs are tight -/
theorem FlowOk.point {n : Nat} {es : List Arc} {w ts : List Int} (h : FlowOk n es (wtOf w n) ts) (hn : 0 < n) (ho : ArcsOk es n) {p : Nat → Int} (hp : Feas (resid es ts) p) : sumTo (fun v => gi w v * (p v - p 0)) n = dot es ts (·.c) ∧ Feas es p := by
  have hin : ∀ x ∈ es, x.f < n ∧ x.t < n := fun x hx => by have := ho.2 x hx; omega
  obtain ⟨_, h2, _⟩ := full_opt hin h.lt (fun i hi => (h.nn i hi).1) h.full hp
  rw [wt_val w hn] at h2
  exact ⟨h2, resid_feas h.lt.symm hp⟩
theorem resid_arcs {n : Nat} {es : List Arc} {ts : List Int} (ho : ArcsOk es n) (hl : es.length = ts.length) (h400 : es.length ≤ 400) : ArcsOk (resid es ts) n := by
  refine ⟨by have := resid_length (es := es) (ts := ts); omega, fun x hx => ?_⟩
  obtain ⟨i, y, h1, h2⟩ := (mem_resid hl).1 hx
  have h3 := ho.2 y (List.mem_of_getElem? h1)
  rcases h2 with rfl | ⟨_, rfl⟩
  · exact h3
  · simp only [Arc.back]; omega
end Go.MW

/-
  The search for ways along the arcs of a table: the same as before with other bounds, and the arcs in any order. Plain Lean; no program is named here.
-/
namespace Go.MW
abbrev free : Int := 1000000000
/-- what is known on the search, when some arcs of a round have been looked at -/
structure VInv (n : Nat) (as : List Arc) (S : Nat → Prop) (D : Nat → Int) (Dn : Arc → Prop) (again : Bool) (s : BS) : Prop where
  lc : s.cost.length = n
  lb : s.by_.length = n
  lo : ∀ v < n, D v ≤ gi s.cost v
  top : ∀ v < n, gi s.cost v ≤ free
  up : ∀ v < n, gi s.cost v < free → gi s.cost v ≤ 1400000 * (Classical.choose cnt_ex) (fun v => gi s.cost v < free) n
  src : ∀ v < n, S v → gi s.cost v ≤ 0
  by1 : ∀ v < n, gi s.cost v < free → ((ga s.by_ v).l = -1 ∧ S v ∧ gi s.cost v = 0) ∨
    (0 ≤ (ga s.by_ v).l ∧ ga s.by_ v ∈ as ∧ (ga s.by_ v).t = v ∧ gi s.cost (ga s.by_ v).f < free ∧ gi s.cost (ga s.by_ v).f + (ga s.by_ v).c ≤ gi s.cost v)
  dep : ∀ v < n, gi s.cost v < free → ∃ k c u, Back s.by_ v k c u ∧ (ga s.by_ u).l < 0
  nov : again = false → ∀ x ∈ as, Dn x → ¬ (gi s.cost x.f < free ∧ s.can x)
/-- the ground: few unknowns, arcs in their bounds, a solution in its bounds -/
structure VG (n : Nat) (as : List Arc) (D : Nat → Int) : Prop where
  n0 : 0 < n
  n1 : n ≤ 65
  ok : ∀ x ∈ as, x.f < n ∧ x.t < n ∧ -1400000 ≤ x.c ∧ x.c ≤ 1400000 ∧ 0 ≤ x.l ∧ x.f ≠ x.t
  fe : Feas as D
  d0 : ∀ v, D v ≤ 0
  d1 : ∀ v < n, -89600000 ≤ D v
variable {n : Nat} {as : List Arc} {S : Nat → Prop} {D : Nat → Int} {Dn Dn' : Arc → Prop} {again : Bool} {s : BS} {x : Arc}
theorem VInv.low (h : VInv n as S D Dn again s) (hg : VG n as D) {v : Nat} (hv : v < n) (hr : gi s.cost v < free) : gi s.cost v ≤ 91000000 := by
  have h1 := h.up v hv hr
  have h2 := cnt_le (fun v => gi s.cost v < free) n
  have := hg.n1
  omega
theorem VInv.next (h : VInv n as S D Dn again s) : VInv n as S D (fun _ => False) false s := ⟨h.lc, h.lb, h.lo, h.top, h.up, h.src, h.by1, h.dep, fun _ _ _ hi => hi.elim⟩
theorem VInv.skip (h : VInv n as S D Dn again s) (hc : again = false → ∀ y ∈ as, Dn' y → ¬ Dn y → ¬ (gi s.cost y.f < free ∧ s.can y)) : VInv n as S D Dn' again s :=
  ⟨h.lc, h.lb, h.lo, h.top, h.up, h.src, h.by1, h.dep, fun e y hy hd => by
    by_cases he : Dn y
    · exact h.nov e y hy he
    · exact hc e y hy hd he⟩
theorem VInv.relax (h : VInv n as S D Dn again s) (hg : VG n as D) (hm : x ∈ as) (hf : gi s.cost x.f < free) (hc : s.can x) : VInv n as S D Dn' true (s.rlx x) := by
  obtain ⟨b1, b2, b3, b4, b5, b6⟩ := hg.ok x hm
  have hgi : ∀ v, gi (s.rlx x).cost v = if v = x.t then gi s.cost x.f + x.c else gi s.cost v := fun v => gi_set (by rw [h.lc]; exact b2) _ v
  have hb : ∀ v, ga (s.rlx x).by_ v = if v = x.t then x else ga s.by_ v := fun v => ga_set (by rw [h.lb]; exact b2) _ v
  have hle : ∀ v, gi (s.rlx x).cost v ≤ gi s.cost v := fun v => by
    rw [hgi]; unfold BS.can at hc; split
    · rename_i e; subst e; omega
    · omega
  have hlow := h.low hg b1 hf
  have hxt : gi (s.rlx x).cost x.t < free := by rw [hgi, if_pos rfl]; simp only [free]; omega
  -- along the arcs, among those that are reached
  have hstep : ∀ v, (v < n ∧ gi s.cost v < free) → 0 ≤ (ga s.by_ v).l → ga s.by_ v ∈ as ∧ (ga s.by_ v).t = v ∧ gi s.cost (ga s.by_ v).f + (ga s.by_ v).c ≤ gi s.cost v ∧ ((ga s.by_ v).f < n ∧ gi s.cost (ga s.by_ v).f < free) := fun v ⟨hv, hr⟩ hl => by
    rcases h.by1 v hv hr with ⟨e, _⟩ | ⟨_, e1, e2, e3, e4⟩
    · omega
    · exact ⟨e1, e2, e4, (hg.ok _ e1).1, e3⟩
  have hcost : ∀ {v u : Nat} {k : Nat} {c : Int}, Back s.by_ v k c u → (v < n ∧ gi s.cost v < free) → gi s.cost u + c ≤ gi s.cost v ∧ D v ≤ D u + c := fun hb => by
    induction hb with
    | nil => intro _; omega
    | @cons v u k c hl t ih =>
      intro hv
      obtain ⟨h1, h2, h3, h4⟩ := hstep _ hv hl
      obtain ⟨h5, h6⟩ := ih h4
      have h7 := hg.fe _ h1
      rw [h2] at h7
      omega
  have hroad : ∀ {k : Nat} {c : Int}, ¬ Back s.by_ x.f k c x.t := fun hbk => by
    have h1 := hcost hbk ⟨b1, hf⟩
    have h2 := hg.fe x hm
    unfold BS.can at hc; omega
  have hcnt : (Classical.choose cnt_ex) (fun v => gi s.cost v < free) n ≤ (Classical.choose cnt_ex) (fun v => gi (s.rlx x).cost v < free) n := cnt_mono fun v _ hv => by have := hle v; omega
  have hturn : ∀ u, u ≠ x.t → ga (s.rlx x).by_ u = ga s.by_ u := fun u hu => by rw [hb, if_neg hu]
  refine ⟨by simp [BS.rlx, h.lc], by simp [BS.rlx, h.lb], fun v hv => ?_, fun v hv => Int.le_trans (hle v) (h.top v hv), fun v hv hr => ?_, fun v hv hs => Int.le_trans (hle v) (h.src v hv hs), fun v hv hr => ?_, ?_, fun e => (by cases e)⟩
  · rw [hgi]; split
    · rename_i e; subst e
      have := hg.fe x hm; have := h.lo _ b1; omega
    · exact h.lo v hv
  · by_cases e : v = x.t
    · subst e
      rw [hgi, if_pos rfl]
      have h1 := h.up _ b1 hf
      by_cases hr0 : gi s.cost x.t < free
      · have := h.up _ b2 hr0
        unfold BS.can at hc
        omega
      · have := cnt_lt (p := fun v => gi s.cost v < free) (q := fun v => gi (s.rlx x).cost v < free) (n := n) (fun v _ hv => by have := hle v; omega) b2 hxt hr0
        omega
    · rw [hgi, if_neg e] at hr ⊢
      have := h.up v hv hr
      omega
  · by_cases e : v = x.t
    · subst e
      refine .inr ?_
      simp only [hb, if_true]
      refine ⟨b5, hm, trivial, ?_, ?_⟩
      · rw [hgi, if_neg b6]; exact hf
      · rw [hgi, hgi, if_neg b6, if_pos rfl]; exact Int.le_refl _
    · rw [hgi, if_neg e] at hr ⊢
      rw [hb, if_neg e]
      rcases h.by1 v hv hr with e1 | ⟨e1, e2, e3, e4, e5⟩
      · exact .inl e1
      · have := hle (ga s.by_ v).f
        exact .inr ⟨e1, e2, e3, by omega, by omega⟩
  · -- from the arc's beginning back to where it began: not over its end
    obtain ⟨k0, c0, u0, g1, g2⟩ := h.dep _ b1 hf
    have hnot : ∀ {k : Nat} {c : Int} {u : Nat}, Back s.by_ x.f k c u → Back (s.rlx x).by_ x.f k c u ∧ u ≠ x.t := fun g => by
      refine ⟨?_, fun e => by subst e; exact hroad g⟩
      rcases Back.turn2 hturn g with g | ⟨i, d, j, e, g, _⟩
      · exact g
      · exact (hroad g).elim
    obtain ⟨g3, g4⟩ := hnot g1
    have hroot : (ga (s.rlx x).by_ u0).l < 0 := by rw [hb, if_neg g4]; exact g2
    have hfrom : Back (s.rlx x).by_ x.t (k0 + 1) (x.c + c0) u0 := by
      have := Back.cons (b := (s.rlx x).by_) (v := x.t) (k := k0) (c := c0) (u := u0) (by rw [hb, if_pos rfl]; exact b5) (by rw [hb, if_pos rfl]; exact g3)
      rwa [hb, if_pos rfl] at this
    intro v hv hr
    by_cases e : v = x.t
    · subst e; exact ⟨_, _, _, hfrom, hroot⟩
    · rw [hgi, if_neg e] at hr
      obtain ⟨k, c, u, f1, f2⟩ := h.dep v hv hr
      rcases Back.turn2 hturn f1 with f | ⟨i, d, j, e', _, f, _⟩
      · by_cases e2 : u = x.t
        · subst e2; exact ⟨_, _, _, f.trans hfrom, hroot⟩
        · exact ⟨_, _, _, f, by rw [hb, if_neg e2]; exact f2⟩
      · exact ⟨_, _, _, f.trans hfrom, hroot⟩
def WMv (n : Nat) (D : Nat → Int) (s : BS) : Nat := (sumTo (fun v => gi s.cost v - D v) n).toNat
theorem VInv.less (h : VInv n as S D Dn again s) (hg : VG n as D) (hm : x ∈ as) (hf : gi s.cost x.f < free) (hc : s.can x) : WMv n D (s.rlx x) < WMv n D s := by
  obtain ⟨b1, b2, _⟩ := hg.ok x hm
  have h2 := h.relax (Dn' := Dn) hg hm hf hc
  have hgi : ∀ v, gi (s.rlx x).cost v = if v = x.t then gi s.cost x.f + x.c else gi s.cost v := fun v => gi_set (by rw [h.lc]; exact b2) _ v
  unfold BS.can at hc
  have h3 : sumTo (fun v => gi (s.rlx x).cost v - D v) n < sumTo (fun v => gi s.cost v - D v) n := sumTo_lt (u := x.t) (fun v _ => by
    rw [hgi]; split
    · rename_i e; subst e; omega
    · omega) b2 (by rw [hgi, if_pos rfl]; omega)
  have h4 : 0 ≤ sumTo (fun v => gi (s.rlx x).cost v - D v) n := sumTo_nonneg fun v hv => by have := h2.lo v hv; omega
  unfold WMv; omega
/-- at the end: the costs, and free ones for those that are not reached, solve all -/
def afterV (D : Nat → Int) (s : BS) (v : Nat) : Int := if gi s.cost v < free then gi s.cost v else D v + free
theorem VInv.after (h : VInv n as S D (fun _ => True) false s) (hg : VG n as D) : Feas as (afterV D s) := fun x hx => by
  obtain ⟨b1, b2, b3, b4, b5, b6⟩ := hg.ok x hx
  have h1 := h.nov rfl x hx trivial
  unfold MW.afterV
  by_cases hf : gi s.cost x.f < free
  · have h2 := h.low hg b1 hf
    have h3 : gi s.cost x.t ≤ gi s.cost x.f + x.c := by
      have : ¬ s.can x := fun e => h1 ⟨hf, e⟩
      unfold BS.can at this; omega
    have h4 : gi s.cost x.t < free := by simp only [free]; omega
    rw [if_pos hf, if_pos h4]; exact h3
  · rw [if_neg hf]
    have h5 := hg.fe x hx
    have h6 := hg.d1 _ b1
    split
    · rename_i ht
      have := h.low hg b2 ht
      simp only [free]; omega
    · omega
theorem VInv.closed (h : VInv n as S D (fun _ => True) false s) (hg : VG n as D) : ∀ x ∈ as, gi s.cost x.f < free → gi s.cost x.t < free := fun x hx hf => by
  obtain ⟨b1, b2, b3, b4, b5, b6⟩ := hg.ok x hx
  have h1 := h.nov rfl x hx trivial
  have h2 := h.low hg b1 hf
  have : ¬ s.can x := fun e => h1 ⟨hf, e⟩
  unfold BS.can at this
  simp only [free] at *; omega
end Go.MW

/-
  Flows over a table of ways: its entries as arcs, a table of flows, and the search. Plain Lean; no program is named here.
-/
namespace Go.MW
/-- the arcs of a table: its entries that are not free, off the diagonal -/
structure Tab (n : Nat) (M : Nat → Nat → Int) (es : List Arc) : Prop where
  numb : Numb es
  ok : ∀ x ∈ es, x.f < n ∧ x.t < n ∧ x.f ≠ x.t ∧ M x.f x.t = x.c ∧ x.c ≠ free
  all : ∀ a b, a < n → b < n → a ≠ b → M a b ≠ free → ∃ x ∈ es, x.f = a ∧ x.t = b
  inj : ∀ x ∈ es, ∀ y ∈ es, x.f = y.f → x.t = y.t → x = y
theorem nodup_idx {α : Type} {l : List α} (h : l.Nodup) {i j : Nat} {x : α} (hi : l[i]? = some x) (hj : l[j]? = some x) : i = j := by
  obtain ⟨h1, e1⟩ := List.getElem?_eq_some_iff.1 hi
  obtain ⟨h2, e2⟩ := List.getElem?_eq_some_iff.1 hj
  exact (List.getElem_inj h).1 (e1.trans e2.symm)
theorem tab_exists (n : Nat) (M : Nat → Nat → Int) : ∃ es, Tab n M es := by
  let ks := (List.range (n * n)).filter fun k => decide (k / n ≠ k % n ∧ M (k / n) (k % n) ≠ free)
  let es := ks.mapIdx fun i k => (⟨k / n, k % n, M (k / n) (k % n), i⟩ : Arc)
  have hnd : ks.Nodup := List.Pairwise.filter _ List.nodup_range
  have hget : ∀ (i : Nat) (x : Arc), es[i]? = some x → ∃ k, ks[i]? = some k ∧ x = ⟨k / n, k % n, M (k / n) (k % n), i⟩ := fun i x h => by
    rw [List.getElem?_mapIdx] at h
    cases hk : ks[i]? with
    | none => rw [hk] at h; cases h
    | some k => rw [hk] at h; exact ⟨k, rfl, by simpa using h.symm⟩
  have hks : ∀ k ∈ ks, k < n * n ∧ k / n ≠ k % n ∧ M (k / n) (k % n) ≠ free := fun k h => by
    have := List.mem_filter.1 h
    simpa using this
  have hlt : ∀ k, k < n * n → k / n < n ∧ k % n < n := fun k h => by
    have hn : 0 < n := by
      rcases Nat.eq_zero_or_pos n with e | e
      · subst e; omega
      · exact e
    exact ⟨Nat.div_lt_of_lt_mul h, Nat.mod_lt _ hn⟩
  refine ⟨es, fun i x h => ?_, fun x hx => ?_, fun a b ha hb hab hM => ?_, fun x hx y hy e1 e2 => ?_⟩
  · obtain ⟨k, h1, rfl⟩ := hget i x h
    exact ⟨rfl, (hks k (List.mem_of_getElem? h1)).2.1⟩
  · obtain ⟨i, h⟩ := List.getElem?_of_mem hx
    obtain ⟨k, h1, rfl⟩ := hget i x h
    obtain ⟨h2, h3, h4⟩ := hks k (List.mem_of_getElem? h1)
    exact ⟨(hlt k h2).1, (hlt k h2).2, h3, rfl, h4⟩
  · have hn : 0 < n := by omega
    have hd : (a * n + b) / n = a := by rw [Nat.mul_comm, Nat.mul_add_div hn, Nat.div_eq_of_lt hb, Nat.add_zero]
    have hm : (a * n + b) % n = b := by rw [Nat.mul_comm, Nat.mul_add_mod, Nat.mod_eq_of_lt hb]
    have h1 : a * n + b ∈ ks := List.mem_filter.2 ⟨List.mem_range.2 (by
      have : (a + 1) * n ≤ n * n := Nat.mul_le_mul_right n ha
      rw [Nat.add_mul] at this; omega), by rw [hd, hm]; simpa using ⟨hab, hM⟩⟩
    obtain ⟨i, hi⟩ := List.getElem?_of_mem h1
    refine ⟨⟨a, b, M a b, i⟩, List.mem_of_getElem? (i := i) ?_, rfl, rfl⟩
    rw [List.getElem?_mapIdx, hi]
    simp [hd, hm]
  · obtain ⟨i, h⟩ := List.getElem?_of_mem hx
    obtain ⟨j, g⟩ := List.getElem?_of_mem hy
    obtain ⟨k, h1, rfl⟩ := hget i x h
    obtain ⟨m, g1, rfl⟩ := hget j y g
    simp only at e1 e2
    have : k = m := by rw [← Nat.div_add_mod k n, ← Nat.div_add_mod m n, e1, e2]
    subst this
    have := nodup_idx hnd h1 g1
    subst this; rfl
variable {n : Nat} {M F : Nat → Nat → Int} {es : List Arc} {ts lf : List Int} {x y : Arc} {a b : Nat}
theorem Tab.at (h : Tab n M es) (hx : x ∈ es) : es[x.l.toNat]? = some x ∧ x.l = (x.l.toNat : Int) := by
  obtain ⟨i, hi⟩ := List.getElem?_of_mem hx
  have := (h.numb i x hi).1
  rw [this, Int.toNat_natCast]; exact ⟨hi, rfl⟩
theorem Tab.free_iff (h : Tab n M es) (ha : a < n) (hb : b < n) (hab : a ≠ b) : M a b ≠ free ↔ ∃ x ∈ es, x.f = a ∧ x.t = b :=
  ⟨h.all a b ha hb hab, fun ⟨x, hx, e1, e2⟩ => by
    obtain ⟨_, _, _, h1, h2⟩ := h.ok x hx
    rw [← e1, ← e2, h1]; exact h2⟩
/-- a table of flows, and the times of the arcs -/
structure Corr (n : Nat) (es : List Arc) (ts : List Int) (F : Nat → Nat → Int) : Prop where
  len : ts.length = es.length
  arc : ∀ x ∈ es, gi ts x.l.toNat = F x.f x.t
  no : ∀ a b, a < n → b < n → (¬ ∃ x ∈ es, x.f = a ∧ x.t = b) → F a b = 0
theorem Corr.zero (n : Nat) (h : Tab n M es) : Corr n es (List.replicate es.length 0) (fun _ _ => 0) :=
  ⟨by simp, fun x hx => gi_replicate _ _ (by have := (h.at hx).1; exact (List.getElem?_eq_some_iff.1 this).1), fun _ _ _ _ _ => rfl⟩
theorem Corr.pos (h : Corr n es ts F) (ha : a < n) (hb : b < n) (hF : 0 < F a b) : ∃ x ∈ es, x.f = a ∧ x.t = b := by
  false_or_by_contra
  rename_i g
  have := h.no a b ha hb g
  omega
/-- the steps of the search are the arcs that are left -/
theorem resid_iff (hT : Tab n M es) (hC : Corr n es ts F) {y : Arc} : y ∈ resid es ts ↔ (y ∈ es ∨ ∃ x ∈ es, 0 < F x.f x.t ∧ y = x.back) := by
  rw [mem_resid hC.len.symm]
  constructor
  · rintro ⟨i, x, h1, h2⟩
    have hm := List.mem_of_getElem? h1
    have hi := (hT.numb i x h1).1
    have h3 := hC.arc x hm
    rw [hi, Int.toNat_natCast] at h3
    rcases h2 with rfl | ⟨h2, rfl⟩
    · exact .inl hm
    · exact .inr ⟨x, hm, by rw [← h3]; exact h2, rfl⟩
  · rintro (h | ⟨x, h1, h2, rfl⟩)
    · exact ⟨_, y, (hT.at h).1, .inl rfl⟩
    · exact ⟨_, x, (hT.at h1).1, .inr ⟨by rw [hC.arc x h1]; exact h2, rfl⟩⟩
/-- a step that is no back step is an arc -/
theorem Tab.fwd_iff (hT : Tab n M es) (hx : x ∈ es) : fwd es x ∧ ¬ fwd es x.back := by
  obtain ⟨h1, h2⟩ := hT.at hx
  have h3 := (hT.ok x hx).2.2.1
  have hg : ga es x.l.toNat = x := by unfold ga List.getD; rw [h1]; rfl
  unfold fwd
  refine ⟨by rw [hg], ?_⟩
  show ¬ (ga es x.l.toNat).f = x.t
  rw [hg]; exact h3
/-- a table changed at one place -/
def tset (F : Nat → Nat → Int) (a b : Nat) (z : Int) : Nat → Nat → Int := fun i j => if i = a ∧ j = b then z else F i j
theorem Corr.push (hT : Tab n M es) (hC : Corr n es ts F) (hy : y ∈ es ∨ ∃ x ∈ es, y = x.back) (m : Int) :
    (fwd es y → Corr n es (push es m ts y) (tset F y.f y.t (F y.f y.t + m))) ∧ (¬ fwd es y → Corr n es (push es m ts y) (tset F y.t y.f (F y.t y.f - m))) := by
  have key : ∀ x ∈ es, ∀ z, Corr n es (ts.set x.l.toNat z) (tset F x.f x.t z) := fun x hx z => by
    have h1 := (hT.at hx).1
    have hlt : x.l.toNat < ts.length := by rw [hC.len]; exact (List.getElem?_eq_some_iff.1 h1).1
    refine ⟨by rw [List.length_set]; exact hC.len, fun w hw => ?_, fun a b ha hb h => ?_⟩
    · rw [gi_set hlt]
      unfold tset
      by_cases e : w.f = x.f ∧ w.t = x.t
      · have := hT.inj w hw x hx e.1 e.2
        subst this
        rw [if_pos rfl, if_pos ⟨rfl, rfl⟩]
      · rw [if_neg e, if_neg, hC.arc w hw]
        intro e2
        have h2 := (hT.at hw).1
        rw [e2, h1] at h2
        cases h2
        exact e ⟨rfl, rfl⟩
    · unfold tset
      rw [if_neg, hC.no a b ha hb h]
      rintro ⟨rfl, rfl⟩
      exact h ⟨x, hx, rfl, rfl⟩
  rcases hy with h | ⟨x, hx, rfl⟩
  · have h3 := hT.fwd_iff h
    refine ⟨fun _ => ?_, fun h => (h h3.1).elim⟩
    unfold MW.push
    rw [if_pos h3.1]
    have := key y h (gi ts y.l.toNat + m)
    rwa [hC.arc y h] at this ⊢
  · have h3 := hT.fwd_iff hx
    refine ⟨fun h => (h3.2 h).elim, fun _ => ?_⟩
    unfold MW.push
    rw [if_neg h3.2]
    have := key x hx (gi ts x.l.toNat - m)
    have h4 := hC.arc x hx
    show Corr n es (ts.set x.l.toNat (gi ts x.l.toNat - m)) (tset F x.f x.t (F x.f x.t - m))
    rwa [h4] at this ⊢
end Go.MW

/-
  The search over a table: its beginning, and what it hands back. Plain Lean; no program is named here.
-/
namespace Go.MW
/-- what the first k are set to -/
structure VInit (n : Nat) (lf : List Int) (k : Nat) (s : BS) : Prop where
  lc : s.cost.length = n
  lb : s.by_.length = n
  c : ∀ v < k, gi s.cost v = if gi lf v < 0 then 0 else free
  b : ∀ v < n, ga s.by_ v = ⟨0, 0, 0, -1⟩
variable {n : Nat} {es as : List Arc} {wt D : Nat → Int} {ts lf : List Int} {s : BS} {k : Nat} {Dn : Arc → Prop}
theorem VInit.start (n : Nat) (lf : List Int) : VInit n lf 0 ⟨List.replicate n 0, List.replicate n ⟨0, 0, 0, -1⟩⟩ :=
  ⟨by simp, by simp, fun v hv => by omega, fun v hv => ga_replicate n _ hv⟩
theorem VInit.put (h : VInit n lf k s) (hk : k < n) {z : Int} (hz : z = if gi lf k < 0 then 0 else free) : VInit n lf (k + 1) ⟨s.cost.set k z, s.by_⟩ :=
  ⟨by simp [h.lc], h.lb, fun v hv => by
    rw [gi_set (by rw [h.lc]; exact hk)]
    by_cases e : v = k
    · subst e; rw [if_pos rfl, hz]
    · rw [if_neg e, h.c v (by omega)], h.b⟩
theorem VInit.inv (h : VInit n lf n s) (hg : VG n as D) : VInv n as (fun v => gi lf v < 0) D Dn true s where
  lc := h.lc
  lb := h.lb
  lo := fun v hv => by
    have := hg.d0 v
    have : free = 1000000000 := rfl
    rw [h.c v hv]; split <;> omega
  top := fun v hv => by
    have : free = 1000000000 := rfl
    rw [h.c v hv]; split <;> omega
  up := fun v hv hr => by
    rw [h.c v hv] at hr ⊢
    split
    · omega
    · rename_i e; rw [if_neg e] at hr; omega
  src := fun v hv hs => by rw [h.c v hv, if_pos hs]; omega
  by1 := fun v hv hr => by
    rw [h.c v hv] at hr
    by_cases e : gi lf v < 0
    · refine .inl ⟨by rw [h.b v hv], e, by rw [h.c v hv, if_pos e]⟩
    · rw [if_neg e] at hr; omega
  dep := fun v hv hr => by
    rw [h.c v hv] at hr
    by_cases e : gi lf v < 0
    · exact ⟨0, 0, v, .nil, by rw [h.b v hv]; simp⟩
    · rw [if_neg e] at hr; omega
  nov := fun e => by cases e
theorem resid_VG (hn : 0 < n) (hn1 : n ≤ 65) (ho : ∀ x ∈ es, x.f < n ∧ x.t < n ∧ -1400000 ≤ x.c ∧ x.c ≤ 1400000 ∧ 0 ≤ x.l ∧ x.f ≠ x.t) (hl : es.length = ts.length) (hf : ∃ p, Feas (resid es ts) p) : ∃ D, VG n (resid es ts) D := by
  obtain ⟨p, hp⟩ := hf
  have hok : ∀ x ∈ resid es ts, x.f < n ∧ x.t < n ∧ -1400000 ≤ x.c ∧ x.c ≤ 1400000 ∧ 0 ≤ x.l ∧ x.f ≠ x.t := fun x hx => by
    obtain ⟨i, y, h1, h2⟩ := (mem_resid hl).1 hx
    have h3 := ho y (List.mem_of_getElem? h1)
    rcases h2 with rfl | ⟨_, rfl⟩
    · exact h3
    · simp only [Arc.back]; omega
  obtain ⟨D, h1, h2, h3⟩ := hp.bounded (n := n) (C := 1400000) hn (by omega) fun x hx => by have := hok x hx; exact ⟨this.1, this.2.1, this.2.2.1⟩
  refine ⟨D, hn, hn1, hok, h1, h2, fun v hv => ?_⟩
  have := h3 v hv
  have h4 : (((n - 1 : Nat) : Int)) ≤ 64 := by omega
  omega
theorem VInv.none (h : VInv n (resid es ts) (fun v => gi lf v < 0) D (fun _ => True) false s) (hg : VG n (resid es ts) D) {to : Nat} (ht : gi s.cost to = free) : WayR n es ts lf [] to :=
  .inl ⟨rfl, fun v => gi s.cost v < free, fun v hv hs => by have := h.src v hv hs; simp only [free]; omega, h.closed hg, by dsimp only; rw [ht]; omega⟩
/-- from whoever is reached back to a root -/
theorem VInv.back (h : VInv n (resid es ts) (fun v => gi lf v < 0) D (fun _ => True) false s) (hg : VG n (resid es ts) D) {to : Nat} (hto : to < n) (ht : gi s.cost to < free) (hp : 0 < gi lf to) :
    ∃ k c u, Back s.by_ to k c u ∧ (ga s.by_ u).l < 0 ∧ k < n ∧ 0 < k ∧ (∀ v, v < n → gi s.cost v < free → 0 ≤ (ga s.by_ v).l → (ga s.by_ v).f < n ∧ gi s.cost (ga s.by_ v).f < free) ∧ ∀ p, p = (trail s.by_ to k).reverse → WayP es ts lf n p u to := by
  have hstep : ∀ v, (v < n ∧ gi s.cost v < free) → 0 ≤ (ga s.by_ v).l → ga s.by_ v ∈ resid es ts ∧ (ga s.by_ v).t = v ∧ gi s.cost (ga s.by_ v).f + (ga s.by_ v).c ≤ gi s.cost v ∧ ((ga s.by_ v).f < n ∧ gi s.cost (ga s.by_ v).f < free) := fun v ⟨hv, hr⟩ hl => by
    rcases h.by1 v hv hr with ⟨e, _⟩ | ⟨_, e1, e2, e3, e4⟩
    · omega
    · exact ⟨e1, e2, e4, (hg.ok _ e1).1, e3⟩
  obtain ⟨k, c, u, h1, h2⟩ := h.dep to hto ht
  have hin : ∀ {v w : Nat} {k : Nat} {c : Int}, Back s.by_ v k c w → (v < n ∧ gi s.cost v < free) → (w < n ∧ gi s.cost w < free) := fun h => by
    induction h with
    | nil => exact id
    | cons hl t ih => exact fun hv => ih (hstep _ hv hl).2.2.2
  have hu := hin h1 ⟨hto, ht⟩
  have hSu : gi lf u < 0 := by
    rcases h.by1 u hu.1 hu.2 with ⟨_, e, _⟩ | ⟨e, _⟩
    · exact e
    · omega
  have hk : k < n := h1.short (A := fun v => v < n ∧ gi s.cost v < free) (fun v hv => hv.1) (fun v hv hl => (hstep v hv hl).2.2.2) h2 ⟨hto, ht⟩
  have hk0 : 0 < k := by
    cases h1 with
    | nil => omega
    | cons _ _ => omega
  refine ⟨k, c, u, h1, h2, hk, hk0, fun v hv hr hl => (hstep v ⟨hv, hr⟩ hl).2.2.2, fun p hp' => ?_⟩
  subst hp'
  refine ⟨?_, ?_, ?_, hu.1, hto, hSu, hp, afterV D s, h.after hg, ?_⟩
  · exact trail_chain (A := fun v => v < n ∧ gi s.cost v < free) (fun v hv hl => ⟨(hstep v hv hl).2.1, (hstep v hv hl).2.2.2⟩) h1 ⟨hto, ht⟩
  · intro x hx
    rw [List.mem_reverse] at hx
    exact trail_mem (A := fun v => v < n ∧ gi s.cost v < free) (B := fun x => x ∈ resid es ts) (fun v hv hl => ⟨(hstep v hv hl).1, (hstep v hv hl).2.2.2⟩) h1 ⟨hto, ht⟩ x hx
  · rw [List.map_reverse]
    have := trail_nodup (A := fun v => v < n ∧ gi s.cost v < free) (fun v hv hl => ⟨(hstep v hv hl).2.1, (hstep v hv hl).2.2.2⟩) h2 h1 ⟨hto, ht⟩
    exact (List.reverse_perm _).nodup_iff.2 this
  · intro x hx
    rw [List.mem_reverse] at hx
    have := trail_mem (A := fun v => v < n ∧ gi s.cost v < free) (B := fun x => x ∈ resid es ts ∧ gi s.cost x.f < free ∧ gi s.cost x.t < free ∧ gi s.cost x.f + x.c ≤ gi s.cost x.t) (fun v hv hl => by
      obtain ⟨g1, g2, g3, g4⟩ := hstep v hv hl
      exact ⟨⟨g1, g4.2, by rw [g2]; exact hv.2, by rw [g2]; exact g3⟩, g4⟩) h1 ⟨hto, ht⟩ x hx
    obtain ⟨g1, g2, g3, g4⟩ := this
    have g5 := h.after hg x g1
    unfold afterV at g5 ⊢
    rw [if_pos g2, if_pos g3] at g5 ⊢
    omega
end Go.MW

/-
  The table of ways of a system: what its making keeps, and what it tells of the system. Plain Lean; no program is named here.
-/
namespace Go.MW
theorem min_exists {S : Int → Prop} {B : Int} (h : ∃ m, S m) (hb : ∀ m, S m → B ≤ m) : ∃ m, S m ∧ ∀ k, S k → m ≤ k := by
  obtain ⟨m0, h0⟩ := h
  have key : ∀ (n : Nat) (m : Int), S m → m - B ≤ n → ∃ m, S m ∧ ∀ k, S k → m ≤ k := by
    intro n
    induction n with
    | zero => exact fun m hm hle => ⟨m, hm, fun k hk => by have := hb k hk; omega⟩
    | succ n ih =>
      intro m hm hle
      by_cases hx : ∃ k, S k ∧ k < m
      · obtain ⟨k, hk, hlt⟩ := hx
        exact ih k hk (by omega)
      · exact ⟨m, hm, fun k hk => Int.not_lt.1 fun hlt => hx ⟨k, hk, hlt⟩⟩
  exact key (m0 - B).toNat m0 h0 (by have := hb m0 h0; omega)
/-- a walk over some unknowns, and its cost -/
def Wk (es : List Arc) : Nat → List Nat → Nat → Int → Prop
  | i, [], j, c => ∃ x ∈ es, x.f = i ∧ x.t = j ∧ x.c = c
  | i, v :: L, j, c => ∃ x ∈ es, x.f = i ∧ x.t = v ∧ Wk es v L j (c - x.c)
variable {n : Nat} {es : List Arc}
theorem Wk.join {A : List Nat} : ∀ {i v j : Nat} {B : List Nat} {c d : Int}, Wk es i A v c → Wk es v B j d → Wk es i (A ++ v :: B) j (c + d) := by
  induction A with
  | nil =>
    rintro i v j B c d ⟨x, h1, h2, h3, h4⟩ h
    exact ⟨x, h1, h2, h3, by rw [h4, show c + d - c = d by omega]; exact h⟩
  | cons u A ih =>
    rintro i v j B c d ⟨x, h1, h2, h3, h4⟩ h
    exact ⟨x, h1, h2, h3, by rw [show c + d - x.c = c - x.c + d by omega]; exact ih h4 h⟩
theorem Wk.split {A : List Nat} : ∀ {i v j : Nat} {B : List Nat} {c : Int}, Wk es i (A ++ v :: B) j c → ∃ d, Wk es i A v d ∧ Wk es v B j (c - d) := by
  induction A with
  | nil =>
    rintro i v j B c ⟨x, h1, h2, h3, h4⟩
    exact ⟨x.c, ⟨x, h1, h2, h3, rfl⟩, h4⟩
  | cons u A ih =>
    rintro i v j B c ⟨x, h1, h2, h3, h4⟩
    obtain ⟨d, g1, g2⟩ := ih h4
    exact ⟨d + x.c, ⟨x, h1, h2, h3, by rw [show d + x.c - x.c = d by omega]; exact g1⟩, by rw [show c - (d + x.c) = c - x.c - d by omega]; exact g2⟩
theorem Wk.bd (hb : ∀ x ∈ es, -20000 ≤ x.c ∧ x.c ≤ 20000) {L : List Nat} : ∀ {i j : Nat} {c : Int}, Wk es i L j c → -(20000 * (L.length + 1 : Int)) ≤ c ∧ c ≤ 20000 * (L.length + 1 : Int) := by
  induction L with
  | nil =>
    rintro i j c ⟨x, h1, h2, h3, rfl⟩
    have := hb x h1
    simpa using this
  | cons v L ih =>
    rintro i j c ⟨x, h1, h2, h3, h4⟩
    have h5 := ih h4
    have := hb x h1
    simp only [List.length_cons]
    omega
theorem Wk.feas {p : Nat → Int} (hp : Feas es p) {L : List Nat} : ∀ {i j : Nat} {c : Int}, Wk es i L j c → p j - p i ≤ c := by
  induction L with
  | nil =>
    rintro i j c ⟨x, h1, rfl, rfl, rfl⟩
    have := hp x h1
    omega
  | cons v L ih =>
    rintro i j c ⟨x, h1, rfl, rfl, h4⟩
    have h5 := ih h4
    have := hp x h1
    omega
/-- a walk that goes over no unknown twice -/
theorem Wk.simple : ∀ (m : Nat) {L : List Nat} {i j : Nat} {c : Int}, L.length ≤ m → Wk es i L j c → ∃ L' c', L'.Nodup ∧ (∀ v ∈ L', v ∈ L) ∧ Wk es i L' j c' := by
  intro m
  induction m with
  | zero =>
    intro L i j c hl h
    obtain rfl : L = [] := List.length_eq_zero_iff.1 (by omega)
    exact ⟨[], c, .nil, fun _ h => h, h⟩
  | succ m ih =>
    intro L i j c hl h
    by_cases hnd : L.Nodup
    · exact ⟨L, c, hnd, fun _ h => h, h⟩
    · -- some unknown stands twice
      have key : ∀ L : List Nat, ¬ L.Nodup → ∃ A v B D, L = A ++ v :: (B ++ v :: D) := by
        intro L
        induction L with
        | nil => exact fun h => (h .nil).elim
        | cons v L ih =>
          intro h
          by_cases hv : v ∈ L
          · obtain ⟨B, D, rfl⟩ := List.append_of_mem hv
            exact ⟨[], v, B, D, rfl⟩
          · have : ¬ L.Nodup := fun g => h (List.nodup_cons.2 ⟨hv, g⟩)
            obtain ⟨A, u, B, D, rfl⟩ := ih this
            exact ⟨v :: A, u, B, D, rfl⟩
      obtain ⟨A, v, B, D, rfl⟩ := key L hnd
      obtain ⟨d, g1, g2⟩ := h.split
      obtain ⟨e, g3, g4⟩ := g2.split
      obtain ⟨L', c', k1, k2, k3⟩ := ih (L := A ++ v :: D) (by simp at hl ⊢; omega) (g1.join g4)
      refine ⟨L', c', k1, fun u hu => ?_, k3⟩
      have := k2 u hu
      simp only [List.mem_append, List.mem_cons] at this ⊢
      rcases this with h | h | h
      · exact .inl h
      · exact .inr (.inl h)
      · exact .inr (.inr (.inr (.inr h)))
theorem nodup_le : ∀ {m : Nat} {L : List Nat}, L.Nodup → (∀ v ∈ L, v < m) → L.length ≤ m
  | 0, L, _, hm => by
    cases L with
    | nil => simp
    | cons v L => have := hm v (.head _); omega
  | m + 1, L, h, hm => by
    by_cases hx : m ∈ L
    · have h1 := nodup_le (m := m) (h.erase m) fun v hv => by
        have h2 := (List.Nodup.mem_erase_iff h).1 hv
        have := hm v h2.2
        have := h2.1
        omega
      rw [List.length_erase_of_mem hx] at h1
      omega
    · have := nodup_le (m := m) h fun v hv => by
        have := hm v hv
        have : v ≠ m := fun e => hx (e ▸ hv)
        omega
      omega
/-- where there is no solution a walk comes back below 0 -/
theorem neg_cycle (hin : ∀ x ∈ es, x.f < n ∧ x.t < n ∧ x.f ≠ x.t ∧ -20000 ≤ x.c ∧ x.c ≤ 20000) (h : ¬ ∃ p, Feas es p) : ∃ i L c, i < n ∧ L.Nodup ∧ (∀ v ∈ L, v < n) ∧ c < 0 ∧ Wk es i L i c := by
  false_or_by_contra
  rename_i hno
  have hcy : ∀ i L c, i < n → L.Nodup → (∀ v ∈ L, v < n) → Wk es i L i c → 0 ≤ c := fun i L c h1 h2 h3 h4 => Int.not_lt.1 fun h5 => hno ⟨i, L, c, h1, h2, h3, h5, h4⟩
  let S : Nat → Int → Prop := fun v c => c = 0 ∨ ∃ i L, (i :: (L ++ [v])).Nodup ∧ (∀ u ∈ i :: L, u < n) ∧ Wk es i L v c
  have hmin : ∀ v, ∃ m, S v m ∧ ∀ k, S v k → m ≤ k := fun v => min_exists (B := -(20000 * (n + 1 : Int))) ⟨0, .inl rfl⟩ fun m hm => by
    rcases hm with rfl | ⟨i, L, h1, h2, h3⟩
    · omega
    · have h4 := (h3.bd fun x hx => (hin x hx).2.2.2).1
      have h5 : L.length ≤ n := nodup_le (List.nodup_append.1 (List.nodup_cons.1 h1).2).1 fun u hu => h2 u (.tail _ hu)
      omega
  have hp := fun v => Classical.choose_spec (hmin v)
  refine h ⟨fun v => Classical.choose (hmin v), fun x hx => ?_⟩
  obtain ⟨b1, b2, b3, b4, b5⟩ := hin x hx
  have hx1 : Wk es x.f [] x.t x.c := ⟨x, hx, rfl, rfl, rfl⟩
  have ht := (hp x.t).2
  show Classical.choose (hmin x.t) ≤ Classical.choose (hmin x.f) + x.c
  generalize hpf : Classical.choose (hmin x.f) = pf
  have hf := (hp x.f).1
  rw [hpf] at hf
  rcases hf with rfl | ⟨i, L, h1, h2, h3⟩
  · have := ht x.c (.inr ⟨x.f, [], by simpa using b3, fun u hu => by simp at hu; subst hu; exact b1, hx1⟩)
    omega
  · have h4 := h3.join hx1
    obtain ⟨n1, n2⟩ := List.nodup_cons.1 h1
    by_cases hm : x.t ∈ i :: (L ++ [x.f])
    · simp only [List.mem_cons, List.mem_append, List.not_mem_nil, or_false] at hm
      rcases hm with e | hm | e
      · -- back at the beginning
        subst e
        have h5 := hcy x.t (L ++ [x.f]) _ b2 n2 (fun u hu => by
          simp only [List.mem_append, List.mem_cons, List.not_mem_nil, or_false] at hu
          rcases hu with hu | rfl
          · exact h2 u (.tail _ hu)
          · exact b1) h4
        have := ht 0 (.inl rfl)
        omega
      · obtain ⟨A, B, rfl⟩ := List.append_of_mem hm
        obtain ⟨d, g1, g2⟩ := h3.split
        have n3 := n2
        rw [List.append_assoc, List.cons_append] at n3
        obtain ⟨m1, m2, m3⟩ := List.nodup_append.1 n3
        have h5 := ht d (.inr ⟨i, A, List.nodup_cons.2 ⟨fun hi => n1 (by
            simp only [List.mem_append, List.mem_cons, List.not_mem_nil, or_false] at hi ⊢
            rcases hi with hi | hi
            · exact .inl (.inl hi)
            · exact .inl (.inr (.inl hi))), List.nodup_append.2 ⟨m1, by simp, fun u hu v hv => by
              simp only [List.mem_cons, List.not_mem_nil, or_false] at hv
              subst hv
              exact m3 u hu x.t (.head _)⟩⟩, fun u hu => h2 u (by
            simp only [List.mem_append, List.mem_cons] at hu ⊢
            rcases hu with hu | hu
            · exact .inl hu
            · exact .inr (.inl hu)), g1⟩)
        have h6 := hcy x.t (B ++ [x.f]) _ b2 (List.nodup_cons.1 m2).2 (fun u hu => by
          simp only [List.mem_append, List.mem_cons, List.not_mem_nil, or_false] at hu
          rcases hu with hu | rfl
          · exact h2 u (by simp only [List.mem_append, List.mem_cons]; exact .inr (.inr (.inr hu)))
          · exact b1) (g2.join hx1)
        omega
      · exact (b3 e.symm).elim
    · have h5 := ht _ (.inr ⟨i, L ++ [x.f], by
          rw [← List.cons_append]
          refine List.nodup_append.2 ⟨h1, by simp, fun u hu v hv => ?_⟩
          simp only [List.mem_cons, List.not_mem_nil, or_false] at hv
          subst hv
          rintro rfl
          exact hm hu, fun u hu => by
          simp only [List.mem_cons, List.mem_append, List.not_mem_nil, or_false] at hu
          rcases hu with rfl | hu | rfl
          · exact h2 _ (.head _)
          · exact h2 u (.tail _ hu)
          · exact b1, h4⟩)
      omega
/-- what the table of ways keeps, while the unknown m is gone over and some pairs are done -/
structure WayI (n : Nat) (es : List Arc) (m : Nat) (Dn : Nat → Nat → Prop) (T : Nat → Nat → Int) : Prop where
  lo : ∀ i j, i < n → j < n → T i j ≠ free → ∀ p, Feas es p → p j - p i ≤ T i j
  dg : ∀ i, i < n → T i i ≤ 0
  cl : ∀ i j, i < n → j < n → -2560000 ≤ T i j
  up : ∀ i j, i < n → j < n → T i j ≠ free → T i j ≤ 3000000
  upm : ∀ i, i < n → (T i m ≠ free → T i m ≤ 1400000) ∧ (T m i ≠ free → T m i ≤ 1400000)
  dom : ∀ i j, i < n → j < n → ∀ L c, L.Nodup → (∀ v ∈ L, v < m ∨ (v = m ∧ Dn i j)) → L.length ≤ 100 → Wk es i L j c → T i j ≤ c
  wit : ∀ i j, i < n → j < n → T i j ≠ free → i = j ∨ ∃ L c, (∀ v ∈ L, v ≤ m) ∧ Wk es i L j c
/-- one pair gone over -/
theorem WayI.step {m : Nat} {Dn Dn' : Nat → Nat → Prop} {T : Nat → Nat → Int} (h : WayI n es m Dn T) (hb : ∀ x ∈ es, -20000 ≤ x.c ∧ x.c ≤ 20000) (hm : m < n) {a b : Nat} (ha : a < n) (hbn : b < n) (hD : ∀ i j, Dn' i j → Dn i j ∨ (i = a ∧ j = b)) (h1 : T a m ≠ free) (h2 : T m b ≠ free) :
    WayI n es m Dn' (tset T a b (max (min (T a b) (T a m + T m b)) (-2560000))) := by
  have hu1 := ((h.upm a ha).1 h1)
  have hu2 := ((h.upm b hbn).2 h2)
  have hc1 := h.cl a m ha hm
  have hc2 := h.cl m b hm hbn
  have hle : ∀ i j, i < n → j < n → tset T a b (max (min (T a b) (T a m + T m b)) (-2560000)) i j ≤ T i j := fun i j hi hj => by
    unfold tset
    split
    · rename_i e; obtain ⟨rfl, rfl⟩ := e
      have := h.cl i j hi hj
      omega
    · omega
  refine ⟨fun i j hi hj hne p hp => ?_, fun i hi => ?_, fun i j hi hj => ?_, fun i j hi hj hne => ?_, fun i hi => ⟨fun hne => ?_, fun hne => ?_⟩, fun i j hi hj L c hnd hL hlen hw => ?_, fun i j hi hj hne => ?_⟩
  · unfold tset at hne ⊢
    split
    · rename_i e; obtain ⟨rfl, rfl⟩ := e
      have g1 := h.lo i m hi hm h1 p hp
      have g2 := h.lo m j hm hj h2 p hp
      by_cases g : T i j = free
      · rw [g]; simp only [free]; omega
      · have := h.lo i j hi hj g p hp
        omega
    · rename_i e; rw [if_neg e] at hne; exact h.lo i j hi hj hne p hp
  · exact Int.le_trans (hle i i hi hi) (h.dg i hi)
  · unfold tset
    split
    · omega
    · exact h.cl i j hi hj
  · unfold tset at hne ⊢
    split
    · omega
    · rename_i e; rw [if_neg e] at hne; exact h.up i j hi hj hne
  · unfold tset at hne ⊢
    split
    · rename_i e; obtain ⟨rfl, rfl⟩ := e; have := (h.upm i hi).1 h1; have := h.dg m hm; omega
    · rename_i e; rw [if_neg e] at hne; exact (h.upm i hi).1 hne
  · unfold tset at hne ⊢
    split
    · rename_i e; obtain ⟨rfl, rfl⟩ := e; have := (h.upm i hi).2 h2; have := h.dg m hm; omega
    · rename_i e; rw [if_neg e] at hne; exact (h.upm i hi).2 hne
  · have hbd := (hw.bd hb).1
    by_cases e : i = a ∧ j = b
    · obtain ⟨rfl, rfl⟩ := e
      unfold tset
      rw [if_pos ⟨rfl, rfl⟩]
      by_cases hmL : m ∈ L
      · obtain ⟨A, B, rfl⟩ := List.append_of_mem hmL
        obtain ⟨d, g1, g2⟩ := hw.split
        obtain ⟨m1, m2, m3⟩ := List.nodup_append.1 hnd
        obtain ⟨m4, m5⟩ := List.nodup_cons.1 m2
        simp only [List.length_append, List.length_cons] at hlen
        have k1 := h.dom i m hi hm A d m1 (fun v hv => by
          rcases hL v (by simp [hv]) with g | ⟨g, _⟩
          · exact .inl g
          · exact (m3 v hv m (.head _) g).elim) (by omega) g1
        have k2 := h.dom m j hm hj B (c - d) m5 (fun v hv => by
          rcases hL v (by simp [hv]) with g | ⟨g, _⟩
          · exact .inl g
          · subst g; exact (m4 hv).elim) (by omega) g2
        simp only [List.length_append, List.length_cons] at hbd
        omega
      · have := h.dom i j hi hj L c hnd (fun v hv => by
          rcases hL v hv with g | ⟨g, _⟩
          · exact .inl g
          · subst g; exact (hmL hv).elim) hlen hw
        omega
    · refine Int.le_trans (hle i j hi hj) (h.dom i j hi hj L c hnd (fun v hv => ?_) hlen hw)
      rcases hL v hv with g | ⟨g, g2⟩
      · exact .inl g
      · rcases hD i j g2 with g3 | g3
        · exact .inr ⟨g, g3⟩
        · exact (e g3).elim
  · by_cases e : i = a ∧ j = b
    · obtain ⟨rfl, rfl⟩ := e
      rcases h.wit i m hi hm h1 with rfl | ⟨A, c, k1, k2⟩
      · exact h.wit i j hi hj h2
      · rcases h.wit m j hm hj h2 with rfl | ⟨B, d, k3, k4⟩
        · exact h.wit i m hi hj h1
        · refine .inr ⟨A ++ m :: B, c + d, fun v hv => ?_, k2.join k4⟩
          simp only [List.mem_append, List.mem_cons] at hv
          rcases hv with hv | rfl | hv
          · exact k1 v hv
          · exact Nat.le_refl _
          · exact k3 v hv
    · unfold tset at hne
      rw [if_neg e] at hne
      exact h.wit i j hi hj hne
/-- a pair that has no way over m -/
theorem WayI.skip {m : Nat} {Dn Dn' : Nat → Nat → Prop} {T : Nat → Nat → Int} (h : WayI n es m Dn T) (hb : ∀ x ∈ es, -20000 ≤ x.c ∧ x.c ≤ 20000) (hm : m < n) {P : Nat → Nat → Prop} (hD : ∀ i j, Dn' i j → Dn i j ∨ P i j) (h1 : ∀ i j, i < n → j < n → P i j → T i m = free ∨ T m j = free) : WayI n es m Dn' T :=
  ⟨h.lo, h.dg, h.cl, h.up, h.upm, fun i j hi hj L c hnd hL hlen hw => by
    by_cases hmL : m ∈ L
    · rcases hL m hmL with g | ⟨_, g⟩
      · omega
      · rcases hD i j g with g2 | g2
        · exact h.dom i j hi hj L c hnd (fun v hv => by
            rcases hL v hv with k | ⟨k, _⟩
            · exact .inl k
            · exact .inr ⟨k, g2⟩) hlen hw
        · obtain ⟨A, B, rfl⟩ := List.append_of_mem hmL
          obtain ⟨d, g3, g4⟩ := hw.split
          obtain ⟨m1, m2, m3⟩ := List.nodup_append.1 hnd
          obtain ⟨m4, m5⟩ := List.nodup_cons.1 m2
          simp only [List.length_append, List.length_cons] at hlen
          have k1 := h.dom i m hi hm A d m1 (fun v hv => by
            rcases hL v (by simp [hv]) with g | ⟨g, _⟩
            · exact .inl g
            · exact (m3 v hv m (.head _) g).elim) (by omega) g3
          have k2 := h.dom m j hm hj B (c - d) m5 (fun v hv => by
            rcases hL v (by simp [hv]) with g | ⟨g, _⟩
            · exact .inl g
            · subst g; exact (m4 hv).elim) (by omega) g4
          have k3 := (g3.bd hb).2
          have k4 := (g4.bd hb).2
          rcases h1 i j hi hj g2 with e | e
          · rw [e] at k1; simp only [free] at k1; omega
          · rw [e] at k2; simp only [free] at k2; omega
    · exact h.dom i j hi hj L c hnd (fun v hv => by
        rcases hL v hv with k | ⟨k, _⟩
        · exact .inl k
        · subst k; exact (hmL hv).elim) hlen hw, h.wit⟩
/-- the entries that are not free are small -/
theorem WayI.small {m : Nat} {T : Nat → Nat → Int} (h : WayI n es m (fun _ _ => True) T) (hb : ∀ x ∈ es, -20000 ≤ x.c ∧ x.c ≤ 20000) (hm : m < 65) {i j : Nat} (hi : i < n) (hj : j < n) (hne : T i j ≠ free) : T i j ≤ 1400000 := by
  rcases h.wit i j hi hj hne with rfl | ⟨L, c, h1, h2⟩
  · have := h.dg i hi; omega
  · obtain ⟨L', c', k1, k2, k3⟩ := Wk.simple L.length (Nat.le_refl _) h2
    have k4 : L'.length ≤ m + 1 := nodup_le k1 fun v hv => by have := h1 v (k2 v hv); omega
    have k5 := h.dom i j hi hj L' c' k1 (fun v hv => by have := h1 v (k2 v hv); by_cases e : v = m; exact .inr ⟨e, trivial⟩; exact .inl (by omega)) (by omega) k3
    have k6 := (k3.bd hb).2
    omega
/-- the next unknown -/
theorem WayI.next {m : Nat} {T : Nat → Nat → Int} (h : WayI n es m (fun _ _ => True) T) (hb : ∀ x ∈ es, -20000 ≤ x.c ∧ x.c ≤ 20000) (hm : m + 1 < n) (hn : n ≤ 65) : WayI n es (m + 1) (fun _ _ => False) T :=
  ⟨h.lo, h.dg, h.cl, h.up, fun i hi => ⟨fun hne => h.small hb (by omega) hi hm hne, fun hne => h.small hb (by omega) hm hi hne⟩, fun i j hi hj L c hnd hL hlen hw => h.dom i j hi hj L c hnd (fun v hv => by
    rcases hL v hv with g | ⟨_, g⟩
    · by_cases e : v = m
      · exact .inr ⟨e, trivial⟩
      · exact .inl (by omega)
    · exact g.elim) hlen hw, fun i j hi hj hne => by
    rcases h.wit i j hi hj hne with g | ⟨L, c, g1, g2⟩
    · exact .inl g
    · exact .inr ⟨L, c, fun v hv => by have := g1 v hv; omega, g2⟩⟩
/-- the table of ways, made -/
structure WaysT (n : Nat) (es : List Arc) (T : Nat → Nat → Int) : Prop where
  lo : ∀ i j, i < n → j < n → T i j ≠ free → ∀ p, Feas es p → p j - p i ≤ T i j
  dg : ∀ i, i < n → T i i ≤ 0
  cl : ∀ i j, i < n → j < n → -2560000 ≤ T i j
  up : ∀ i j, i < n → j < n → T i j ≠ free → T i j ≤ 1400000
  dom : ∀ i j, i < n → j < n → ∀ L c, L.Nodup → (∀ v ∈ L, v < n) → Wk es i L j c → T i j ≤ c
theorem WayI.done {m : Nat} {T : Nat → Nat → Int} (h : WayI n es m (fun _ _ => True) T) (hb : ∀ x ∈ es, -20000 ≤ x.c ∧ x.c ≤ 20000) (hm : n = m + 1) (hn : n ≤ 65) : WaysT n es T :=
  ⟨h.lo, h.dg, h.cl, fun i j hi hj hne => h.small hb (by omega) hi hj hne, fun i j hi hj L c hnd hL hw => h.dom i j hi hj L c hnd (fun v hv => by
    have := hL v hv
    by_cases e : v = m
    · exact .inr ⟨e, trivial⟩
    · exact .inl (by omega)) (by have := nodup_le hnd hL; omega) hw⟩
variable {T : Nat → Nat → Int}
/-- what the diagonal tells -/
theorem WaysT.sound (h : WaysT n es T) (hin : ∀ x ∈ es, x.f < n ∧ x.t < n ∧ x.f ≠ x.t ∧ -20000 ≤ x.c ∧ x.c ≤ 20000) : (∃ p, Feas es p) ↔ ∀ i, i < n → ¬ T i i < 0 := by
  constructor
  · rintro ⟨p, hp⟩ i hi hlt
    have := h.lo i i hi hi (by simp only [free]; omega) p hp
    omega
  · intro hd
    false_or_by_contra
    rename_i hno
    obtain ⟨i, L, c, h1, h2, h3, h4, h5⟩ := neg_cycle hin hno
    have := h.dom i i h1 h1 L c h2 h3 h5
    exact hd i h1 (by omega)
/-- the table's arcs have the system's solutions -/
theorem WaysT.feas (h : WaysT n es T) (hin : ∀ x ∈ es, x.f < n ∧ x.t < n ∧ x.f ≠ x.t ∧ -20000 ≤ x.c ∧ x.c ≤ 20000) {fs : List Arc} (hT : Tab n T fs) {p : Nat → Int} : Feas fs p ↔ Feas es p := by
  constructor
  · intro hp x hx
    obtain ⟨b1, b2, b3, b4, b5⟩ := hin x hx
    have h1 := h.dom x.f x.t b1 b2 [] x.c .nil (fun _ h => by cases h) ⟨x, hx, rfl, rfl, rfl⟩
    obtain ⟨y, hy, e1, e2⟩ := hT.all x.f x.t b1 b2 b3 (by simp only [free]; omega)
    have h2 := hp y hy
    have h3 := (hT.ok y hy).2.2.2.1
    rw [e1, e2] at h2 h3
    omega
  · intro hp x hx
    obtain ⟨b1, b2, b3, b4, b5⟩ := hT.ok x hx
    have := h.lo x.f x.t b1 b2 (by rw [b4]; exact b5) p hp
    omega
theorem WaysT.opt (h : WaysT n es T) (hin : ∀ x ∈ es, x.f < n ∧ x.t < n ∧ x.f ≠ x.t ∧ -20000 ≤ x.c ∧ x.c ≤ 20000) {fs : List Arc} (hT : Tab n T fs) {wt : Nat → Int} {m : Int} : OptS fs wt n m ↔ OptS es wt n m := by
  unfold OptS
  simp only [h.feas hin hT]
theorem WaysT.open (h : WaysT n es T) (hin : ∀ x ∈ es, x.f < n ∧ x.t < n ∧ x.f ≠ x.t ∧ -20000 ≤ x.c ∧ x.c ≤ 20000) {fs : List Arc} (hT : Tab n T fs) {wt : Nat → Int} (ho : OpenS fs wt n) : OpenS es wt n := by
  obtain ⟨q, q1, q2, q3⟩ := ho
  refine ⟨q, q1, fun x hx => ?_, q3⟩
  obtain ⟨b1, b2, b3, b4, b5⟩ := hin x hx
  have h1 := h.dom x.f x.t b1 b2 [] x.c .nil (fun _ h => by cases h) ⟨x, hx, rfl, rfl, rfl⟩
  obtain ⟨y, hy, e1, e2⟩ := hT.all x.f x.t b1 b2 b3 (by simp only [free]; omega)
  have h2 := q2 y hy
  rwa [e1, e2] at h2
/-- where there are solutions the table's entries are not far below -/
theorem WaysT.low (h : WaysT n es T) (hn : 0 < n) (hn1 : n ≤ 65) (hin : ∀ x ∈ es, x.f < n ∧ x.t < n ∧ x.f ≠ x.t ∧ -20000 ≤ x.c ∧ x.c ≤ 20000) (hp : ∃ p, Feas es p) {i j : Nat} (hi : i < n) (hj : j < n) (hne : T i j ≠ free) : -1400000 ≤ T i j := by
  obtain ⟨p, hp⟩ := hp
  obtain ⟨D, h1, h2, h3⟩ := hp.bounded (n := n) (C := 20000) hn (by omega) fun x hx => by have := hin x hx; exact ⟨this.1, this.2.1, this.2.2.2.1⟩
  have h4 := h.lo i j hi hj hne D h1
  have h5 := h2 i
  have h6 := h3 j hj
  have h7 : (((n - 1 : Nat) : Int)) ≤ 64 := by omega
  omega
/-- the table's beginning -/
structure WayB (n : Nat) (es : List Arc) (k : Nat) (T : Nat → Nat → Int) : Prop where
  dg : ∀ i, i < n → T i i = 0
  le : ∀ (i : Nat) (x : Arc), i < k → es[i]? = some x → T x.f x.t ≤ x.c
  of : ∀ i j, i < n → j < n → i ≠ j → T i j = free ∨ ∃ x ∈ es, x.f = i ∧ x.t = j ∧ x.c = T i j
theorem WayB.step {k : Nat} {x : Arc} (h : WayB n es k T) (hin : ∀ x ∈ es, x.f < n ∧ x.t < n ∧ x.f ≠ x.t ∧ -20000 ≤ x.c ∧ x.c ≤ 20000) (hx : es[k]? = some x) : WayB n es (k + 1) (tset T x.f x.t (min (T x.f x.t) x.c)) := by
  have hm := List.mem_of_getElem? hx
  obtain ⟨b1, b2, b3, b4, b5⟩ := hin x hm
  refine ⟨fun i hi => ?_, fun i y hi hy => ?_, fun i j hi hj hij => ?_⟩
  · unfold tset; rw [if_neg (by omega)]; exact h.dg i hi
  · unfold tset
    by_cases e : y.f = x.f ∧ y.t = x.t
    · rw [if_pos e]
      by_cases e2 : i = k
      · subst e2; rw [hx] at hy; cases hy; omega
      · have := h.le i y (by omega) hy
        rw [e.1, e.2] at this; omega
    · rw [if_neg e]
      by_cases e2 : i = k
      · subst e2; rw [hx] at hy; cases hy; exact (e ⟨rfl, rfl⟩).elim
      · exact h.le i y (by omega) hy
  · unfold tset
    split
    · rename_i e
      rcases h.of x.f x.t b1 b2 b3 with g | ⟨y, g1, g2, g3, g4⟩
      · refine .inr ⟨x, hm, e.1.symm, e.2.symm, ?_⟩
        rw [g]; simp only [free]; omega
      · by_cases hle : T x.f x.t ≤ x.c
        · exact .inr ⟨y, g1, by rw [g2, e.1], by rw [g3, e.2], by omega⟩
        · exact .inr ⟨x, hm, e.1.symm, e.2.symm, by omega⟩
    · exact h.of i j hi hj hij
theorem WayB.go (h : WayB n es es.length T) (hin : ∀ x ∈ es, x.f < n ∧ x.t < n ∧ x.f ≠ x.t ∧ -20000 ≤ x.c ∧ x.c ≤ 20000) (hn : 0 < n) : WayI n es 0 (fun _ _ => False) T := by
  have hof : ∀ i j, i < n → j < n → T i j ≠ free → i = j ∨ ∃ x ∈ es, x.f = i ∧ x.t = j ∧ x.c = T i j := fun i j hi hj hne => by
    by_cases e : i = j
    · exact .inl e
    · rcases h.of i j hi hj e with g | g
      · exact (hne g).elim
      · exact .inr g
  have hup : ∀ i j, i < n → j < n → T i j ≠ free → T i j ≤ 20000 := fun i j hi hj hne => by
    rcases hof i j hi hj hne with rfl | ⟨x, g1, g2, g3, g4⟩
    · have := h.dg i hi; omega
    · have := hin x g1; omega
  refine ⟨fun i j hi hj hne p hp => ?_, fun i hi => by rw [h.dg i hi]; omega, fun i j hi hj => ?_, fun i j hi hj hne => by have := hup i j hi hj hne; omega, fun i hi => ⟨fun hne => by have := hup i 0 hi hn hne; omega, fun hne => by have := hup 0 i hn hi hne; omega⟩, fun i j hi hj L c hnd hL hlen hw => ?_, fun i j hi hj hne => ?_⟩
  · rcases hof i j hi hj hne with rfl | ⟨x, g1, g2, g3, g4⟩
    · rw [h.dg i hi]; omega
    · have := hp x g1
      rw [g2, g3, g4] at this; omega
  · by_cases e : T i j = free
    · rw [e]; simp only [free]; omega
    · rcases hof i j hi hj e with rfl | ⟨x, g1, g2, g3, g4⟩
      · rw [h.dg i hi]; omega
      · have := hin x g1; omega
  · cases L with
    | nil =>
      obtain ⟨x, g1, g2, g3, g4⟩ := hw
      obtain ⟨k, hk⟩ := List.getElem?_of_mem g1
      have := h.le k x (List.getElem?_eq_some_iff.1 hk).1 hk
      rw [g2, g3, g4] at this; exact this
    | cons v L =>
      rcases hL v (.head _) with g | ⟨_, g⟩
      · omega
      · exact g.elim
  · rcases hof i j hi hj hne with g | ⟨x, g1, g2, g3, g4⟩
    · exact .inl g
    · exact .inr ⟨[], x.c, ⟨fun _ h => (by cases h), x, g1, g2, g3, rfl⟩⟩
end Go.MW

/-
  Flows exist or nothing bounds the sum; a way gone over from its end; a flow's cost out of a table. Plain Lean; no program is named here.
-/
namespace Go.MW
variable {n : Nat} {es : List Arc} {wt : Nat → Int} {ts lf : List Int} {D : Nat → Int} {s : BS}
/-- the search ends -/
theorem VInv.ends {as : List Arc} {S : Nat → Prop} (hg : VG n as D) : ∀ (m : Nat) {Dn : Arc → Prop} {again : Bool} {s : BS}, VInv n as S D Dn again s → WMv n D s ≤ m → ∃ s', VInv n as S D (fun _ => True) false s' := by
  intro m
  induction m with
  | zero =>
    intro Dn again s h hm
    by_cases hx : ∃ x ∈ as, gi s.cost x.f < free ∧ s.can x
    · obtain ⟨x, h1, h2, h3⟩ := hx
      have := h.less hg h1 h2 h3
      omega
    · exact ⟨s, h.lc, h.lb, h.lo, h.top, h.up, h.src, h.by1, h.dep, fun _ x h1 _ h2 => hx ⟨x, h1, h2⟩⟩
  | succ m ih =>
    intro Dn again s h hm
    by_cases hx : ∃ x ∈ as, gi s.cost x.f < free ∧ s.can x
    · obtain ⟨x, h1, h2, h3⟩ := hx
      have := h.less hg h1 h2 h3
      exact ih (h.relax (Dn' := Dn) hg h1 h2 h3) (by omega)
    · exact ⟨s, h.lc, h.lb, h.lo, h.top, h.up, h.src, h.by1, h.dep, fun _ x h1 _ h2 => hx ⟨x, h1, h2⟩⟩
def ArcsC (es : List Arc) (n : Nat) : Prop := ∀ x ∈ es, x.f < n ∧ x.t < n ∧ -1400000 ≤ x.c ∧ x.c ≤ 1400000 ∧ 0 ≤ x.l ∧ x.f ≠ x.t
theorem way_exists (hn : 0 < n) (hn1 : n ≤ 65) (ho : ArcsC es n) (h : FInv n es wt ts lf) {to : Nat} (hto : to < n) (hp : 0 < gi lf to) : (∃ R : Nat → Prop, (∀ v < n, gi lf v < 0 → R v) ∧ (∀ x ∈ resid es ts, R x.f → R x.t) ∧ ¬ R to) ∨ ∃ p u, p.length < n ∧ WayP es ts lf n p u to := by
  obtain ⟨D, hg⟩ := resid_VG hn hn1 ho h.lt.symm h.fe
  have hinit : VInit n lf n ⟨(List.range n).map fun v => if gi lf v < 0 then 0 else free, List.replicate n ⟨0, 0, 0, -1⟩⟩ :=
    ⟨by simp, by simp, fun v hv => by
      by_cases e : gi lf v < 0 <;> simp only [gi, List.getD] at e ⊢ <;> simp [hv, e], fun v hv => ga_replicate n _ hv⟩
  obtain ⟨s, hs⟩ := VInv.ends hg _ (hinit.inv (Dn := fun _ => False) hg) (Nat.le_refl _)
  by_cases ht : gi s.cost to < free
  · obtain ⟨k, c, u, h1, h2, h3, h4, h5, h6⟩ := hs.back hg hto ht hp
    exact .inr ⟨_, u, by rw [List.length_reverse, trail_length]; exact h3, h6 _ rfl⟩
  · refine .inl ⟨fun v => gi s.cost v < free, fun v hv hl => by have := hs.src v hv hl; simp only [free]; omega, hs.closed hg, ht⟩
theorem flow_exists (hn : 0 < n) (hn1 : n ≤ 65) (ho : ArcsC es n) (hN : Numb es) (h0 : sumTo wt n = 0) : ∀ (m : Nat) {ts lf : List Int}, FInv n es wt ts lf → (rem n lf).toNat ≤ m → (∃ ts, FlowOk n es wt ts) ∨ OpenS es wt n := by
  have hin : ∀ x ∈ es, x.f < n ∧ x.t < n := fun x hx => by have := ho x hx; omega
  intro m
  induction m with
  | zero =>
    intro ts lf h hm
    have h3 : 0 ≤ rem n lf := sumTo_nonneg fun v _ => by omega
    by_cases hx : ∃ v, v < n ∧ 0 < gi lf v
    · obtain ⟨v, hv, hl⟩ := hx
      rcases way_exists hn hn1 ho h hv hl with ⟨R, g1, g2, g3⟩ | ⟨p, u, g1, g2⟩
      · exact .inr (h.open hin g1 g2 hv g3 hl)
      · have g4 := h.send hN g2 (by omega)
        have : 0 ≤ rem n (lfTo lf (much es ts lf p u v) u v) := sumTo_nonneg fun v _ => by omega
        omega
    · exact .inl ⟨ts, h.ok hin h0 fun v hv => Int.not_lt.1 fun hl => hx ⟨v, hv, hl⟩⟩
  | succ m ih =>
    intro ts lf h hm
    by_cases hx : ∃ v, v < n ∧ 0 < gi lf v
    · obtain ⟨v, hv, hl⟩ := hx
      rcases way_exists hn hn1 ho h hv hl with ⟨R, g1, g2, g3⟩ | ⟨p, u, g1, g2⟩
      · exact .inr (h.open hin g1 g2 hv g3 hl)
      · have g4 := h.send hN g2 (by omega)
        have : 0 ≤ rem n (lfTo lf (much es ts lf p u v) u v) := sumTo_nonneg fun v _ => by omega
        exact ih g4.1 (by omega)
    · exact .inl ⟨ts, h.ok hin h0 fun v hv => Int.not_lt.1 fun hl => hx ⟨v, hv, hl⟩⟩
/-! ### a way gone over from its end -/
theorem least_min (z : Int) (p : List Arc) : ∀ m : Int, min z (least es ts m p) = least es ts (min z m) p := by
  induction p with
  | nil => intro m; rfl
  | cons x p ih =>
    intro m
    simp only [least, List.foldl_cons] at ih ⊢
    rw [ih]
    congr 1
    split <;> omega
theorem least_rev (p : List Arc) : ∀ m : Int, least es ts m p.reverse = least es ts m p := by
  induction p with
  | nil => intro m; rfl
  | cons x p ih =>
    intro m
    rw [List.reverse_cons, least_snoc, ih]
    have : least es ts m (x :: p) = least es ts (if fwd es x then m else min m (gi ts x.l.toNat)) p := rfl
    rw [this]
    split
    · rfl
    · rw [show min m (gi ts x.l.toNat) = min (gi ts x.l.toNat) m by omega, ← least_min]; omega
theorem cnt_rev (i : Nat) (p : List Arc) : cntF es i p.reverse = cntF es i p ∧ cntB es i p.reverse = cntB es i p := by
  unfold cntF cntB
  exact ⟨List.countP_reverse, List.countP_reverse⟩
theorem ext_gi' {l m : List Int} (h : l.length = m.length) (h2 : ∀ k < l.length, gi l k = gi m k) : l = m := by
  apply List.ext_getElem? 
  intro k
  by_cases hk : k < l.length
  · rw [gi_get hk, gi_get (by omega), h2 k hk]
  · rw [List.getElem?_eq_none (by omega), List.getElem?_eq_none (by omega)]
theorem pushes_rev {p : List Arc} (hp : ∀ x ∈ p, x.l.toNat < ts.length) (m : Int) : pushes es m ts p.reverse = pushes es m ts p :=
  ext_gi' (by rw [pushes_length, pushes_length]) fun k _ => by
    rw [pushes_get (fun x hx => hp x (List.mem_reverse.1 hx)), pushes_get hp, (cnt_rev k p).1, (cnt_rev k p).2]
/-! ### the cost out of a table -/
theorem dot_add {g h : Arc → Int} : ∀ {es : List Arc} {ts : List Int}, dot es ts (fun x => g x + h x) = dot es ts g + dot es ts h := by
  intro es
  induction es with
  | nil => intro ts; simp [dot]
  | cons x es ih =>
    intro ts
    cases ts with
    | nil => simp [dot]
    | cons z ts => simp only [dot, ih, Int.mul_add]; omega
theorem dot_sumTo {g : Nat → Arc → Int} (k : Nat) {es : List Arc} {ts : List Int} : dot es ts (fun x => sumTo (fun a => g a x) k) = sumTo (fun a => dot es ts (g a)) k := by
  induction k with
  | zero =>
    simp only [sumTo]
    induction es generalizing ts with
    | nil => simp [dot]
    | cons x es ih =>
      cases ts with
      | nil => simp [dot]
      | cons z ts => simp only [dot, ih]; omega
  | succ k ih => simp only [sumTo]; rw [dot_add, ih]
theorem dot_none {g : Arc → Int} : ∀ {es : List Arc} {ts : List Int}, (∀ x ∈ es, g x = 0) → dot es ts g = 0 := by
  intro es
  induction es with
  | nil => intro ts _; simp [dot]
  | cons x es ih =>
    intro ts h
    cases ts with
    | nil => simp [dot]
    | cons z ts => simp only [dot, h x (.head _), ih fun y hy => h y (.tail _ hy)]; omega
theorem dot_one {g : Arc → Int} : ∀ {es : List Arc} {ts : List Int} {i : Nat} {x : Arc}, es[i]? = some x → i < ts.length → (∀ j y, es[j]? = some y → j ≠ i → g y = 0) → dot es ts g = gi ts i * g x := by
  intro es
  induction es with
  | nil => intro ts i x h; simp at h
  | cons y es ih =>
    intro ts i x h hi hz
    cases ts with
    | nil => simp at hi
    | cons t ts =>
      cases i with
      | zero =>
        simp only [List.getElem?_cons_zero, Option.some.injEq] at h
        subst h
        have : dot es ts g = 0 := dot_none fun z hz' => by
          obtain ⟨j, hj⟩ := List.getElem?_of_mem hz'
          exact hz (j + 1) z (by simpa using hj) (by omega)
        simp only [dot, this, gi, List.getD_cons_zero]; omega
      | succ i =>
        simp only [List.getElem?_cons_succ] at h
        have h1 := ih h (by simpa using hi) (fun j z hj hne => hz (j + 1) z (by simpa using hj) (by omega))
        have h2 := hz 0 y (by simp) (by omega)
        have : gi (t :: ts) (i + 1) = gi ts i := rfl
        simp only [dot, h1, h2, this]; omega
theorem ind_mul {a n : Nat} (h : a < n) (z : Int) : sumTo (fun v => ind a v * z) n = z := ind_sum h (fun _ => z)
variable {M F : Nat → Nat → Int}
/-- one place's part of the cost -/
def cell (M F : Nat → Nat → Int) (a b : Nat) : Int := if 0 < F a b then F a b * M a b else 0
theorem dot_cell (hT : Tab n M es) (hC : Corr n es ts F) (hnn : ∀ i < es.length, 0 ≤ gi ts i) : dot es ts (·.c) = sumTo (fun a => sumTo (fun b => cell M F a b) n) n := by
  have h1 : dot es ts (·.c) = dot es ts (fun x => sumTo (fun a => sumTo (fun b => ind x.f a * (ind x.t b * x.c)) n) n) := dot_congr fun x hx => by
    obtain ⟨b1, b2, _⟩ := hT.ok x hx
    have : ∀ a < n, sumTo (fun b => ind x.f a * (ind x.t b * x.c)) n = ind x.f a * x.c := fun a _ => by rw [sumTo_mul, ind_mul b2]
    rw [sumTo_congr this, ind_mul b1]
  rw [h1, dot_sumTo]
  refine sumTo_congr fun a ha => ?_
  rw [dot_sumTo]
  refine sumTo_congr fun b hb => ?_
  by_cases hx : ∃ x ∈ es, x.f = a ∧ x.t = b
  · obtain ⟨x, hx, rfl, rfl⟩ := hx
    have h2 := (hT.at hx).1
    have h3 := (hT.ok x hx).2.2.2.1
    have h4 := (List.getElem?_eq_some_iff.1 h2).1
    rw [dot_one h2 (by rw [hC.len]; exact h4) (fun j y hj hne => by
      have hy := List.mem_of_getElem? hj
      by_cases e : y.f = x.f ∧ y.t = x.t
      · have := hT.inj y hy x hx e.1 e.2
        subst this
        have := (hT.numb j y hj).1
        omega
      · unfold ind
        by_cases e1 : y.f = x.f
        · rw [if_neg (fun e2 => e ⟨e1, e2⟩)]; omega
        · rw [if_neg e1]; omega)]
    have h5 := hC.arc x hx
    have h6 := hnn _ h4
    unfold cell
    rw [h5] at h6 ⊢
    simp only [ind, if_true, h3, Int.one_mul]
    split
    · rfl
    · have : F x.f x.t = 0 := by omega
      rw [this]; omega
  · rw [dot_none fun x h => by
      unfold ind
      by_cases e1 : x.f = a
      · rw [if_neg (fun e2 => hx ⟨x, h, e1, e2⟩)]; omega
      · rw [if_neg e1]; omega]
    unfold cell
    rw [hC.no a b ha hb hx]; simp
end Go.MW
