/-
  Texts of these claims, joined: Mxf Mxg Mxh Mxi Mxk Mxm Mxn.
-/
import Derived.Test.YtiiokdeehlfeeaaDb
import Derived.Sort.Grow
import Derived.Lib.SlicesCompact
namespace Go.MW
def exT : Syst := ⟨3, [⟨0, 1, 10, 1⟩, ⟨1, 0, -4, 1⟩, ⟨1, 2, 3, 2⟩, ⟨2, 1, 0, 2⟩, ⟨0, 3, 7, 3⟩, ⟨3, 0, 0, 3⟩, ⟨0, 2, 12, 4⟩]⟩
def p4 (a b c d : Int) : Nat → Int := fun v => if v = 0 then a else if v = 1 then b else if v = 2 then c else if v = 3 then d else 0
theorem exT_ok : exT.Ok := ⟨by decide, by decide, by decide, by decide⟩
theorem exT_n : exT.n = 4 := rfl
theorem exT_feas {p : Nat → Int} : Feas exT.arcs p ↔ p 1 ≤ p 0 + 10 ∧ p 0 ≤ p 1 + -4 ∧ p 2 ≤ p 1 + 3 ∧ p 1 ≤ p 2 ∧ p 3 ≤ p 0 + 7 ∧ p 0 ≤ p 3 ∧ p 2 ≤ p 0 + 12 := by
  rw [feas_iff]
  simp [exT]
theorem exT_sound : exT.Sound := ⟨p4 0 4 4 0, exT_feas.2 (by decide)⟩
theorem val4 (a b c d : Int) (p : Nat → Int) : valw [a, b, c, d] 4 p = b * (p 1 - p 0) + c * (p 2 - p 0) + d * (p 3 - p 0) := by
  simp [valw, sumTo, gi]
theorem arc_walk {s : Syst} {l : Lim} (k : Nat) (h : s.lims[k]? = some l) : Wk s.arcs l.A.toNat [] l.B.toNat l.M :=
  ⟨l.arc k, List.mem_of_getElem? (arcsOf_get h), rfl, rfl, rfl⟩
theorem exT_ways {T : Nat → Nat → Int} (h : WaysT exT.n exT.arcs T) :
    (T 0 0 = 0 ∧ T 0 1 = 10 ∧ T 0 2 = 12 ∧ T 0 3 = 7) ∧ (T 1 0 = -4 ∧ T 1 1 = 0 ∧ T 1 2 = 3 ∧ T 1 3 = 3) ∧ (T 2 0 = -4 ∧ T 2 1 = 0 ∧ T 2 2 = 0 ∧ T 2 3 = 3) ∧ (T 3 0 = 0 ∧ T 3 1 = 10 ∧ T 3 2 = 12 ∧ T 3 3 = 0) := by
  obtain ⟨p, hp⟩ := exT_sound
  have hin := exT_ok.inn
  rw [exT_n] at h hin
  have w01 := h.le_walk hin hp (by decide) (by decide) (arc_walk (s := exT) (l := ⟨0, 1, 10, 1⟩) 0 rfl)
  have w10 := h.le_walk hin hp (by decide) (by decide) (arc_walk (s := exT) (l := ⟨1, 0, -4, 1⟩) 1 rfl)
  have w12 := h.le_walk hin hp (by decide) (by decide) (arc_walk (s := exT) (l := ⟨1, 2, 3, 2⟩) 2 rfl)
  have w21 := h.le_walk hin hp (by decide) (by decide) (arc_walk (s := exT) (l := ⟨2, 1, 0, 2⟩) 3 rfl)
  have w03 := h.le_walk hin hp (by decide) (by decide) (arc_walk (s := exT) (l := ⟨0, 3, 7, 3⟩) 4 rfl)
  have w30 := h.le_walk hin hp (by decide) (by decide) (arc_walk (s := exT) (l := ⟨3, 0, 0, 3⟩) 5 rfl)
  have w02 := h.le_walk hin hp (by decide) (by decide) (arc_walk (s := exT) (l := ⟨0, 2, 12, 4⟩) 6 rfl)
  change T 0 1 ≤ 10 at w01; change T 1 0 ≤ -4 at w10; change T 1 2 ≤ 3 at w12; change T 2 1 ≤ 0 at w21; change T 0 3 ≤ 7 at w03; change T 3 0 ≤ 0 at w30; change T 0 2 ≤ 12 at w02
  have tri : ∀ i m k, i < 4 → m < 4 → k < 4 → T i m ≤ 100 → T m k ≤ 100 → T i k ≤ T i m + T m k := fun i m k hi hm hk h1 h2 => h.tri hin hp hi hm hk (by simp only [free]; omega) (by simp only [free]; omega)
  have w13 := tri 1 0 3 (by decide) (by decide) (by decide) (by omega) (by omega)
  have w20 := tri 2 1 0 (by decide) (by decide) (by decide) (by omega) (by omega)
  have w23 := tri 2 0 3 (by decide) (by decide) (by decide) (by omega) (by omega)
  have w31 := tri 3 0 1 (by decide) (by decide) (by decide) (by omega) (by omega)
  have w32 := tri 3 0 2 (by decide) (by decide) (by decide) (by omega) (by omega)
  have lo : ∀ i j, i < 4 → j < 4 → T i j ≤ 100 → ∀ p, Feas exT.arcs p → p j - p i ≤ T i j := fun i j hi hj h1 p hp => h.lo i j hi hj (by simp only [free]; omega) p hp
  have r0 := (exT_feas (p := p4 0 10 12 7)).2 (by decide)
  have r1 := (exT_feas (p := p4 (-4) 0 3 3)).2 (by decide)
  have r2 := (exT_feas (p := p4 (-4) 0 0 3)).2 (by decide)
  have r3 := (exT_feas (p := p4 0 10 12 0)).2 (by decide)
  have l01 := lo 0 1 (by decide) (by decide) (by omega) _ r0
  have l02 := lo 0 2 (by decide) (by decide) (by omega) _ r0
  have l03 := lo 0 3 (by decide) (by decide) (by omega) _ r0
  have l10 := lo 1 0 (by decide) (by decide) (by omega) _ r1
  have l12 := lo 1 2 (by decide) (by decide) (by omega) _ r1
  have l13 := lo 1 3 (by decide) (by decide) (by omega) _ r1
  have l20 := lo 2 0 (by decide) (by decide) (by omega) _ r2
  have l21 := lo 2 1 (by decide) (by decide) (by omega) _ r2
  have l23 := lo 2 3 (by decide) (by decide) (by omega) _ r2
  have l30 := lo 3 0 (by decide) (by decide) (by omega) _ r3
  have l31 := lo 3 1 (by decide) (by decide) (by omega) _ r3
  have l32 := lo 3 2 (by decide) (by decide) (by omega) _ r3
  simp only [p4] at l01 l02 l03 l10 l12 l13 l20 l21 l23 l30 l31 l32
  have d0 := h.diag hp (i := 0) (by decide)
  have d1 := h.diag hp (i := 1) (by decide)
  have d2 := h.diag hp (i := 2) (by decide)
  have d3 := h.diag hp (i := 3) (by decide)
  refine ⟨⟨d0, ?_, ?_, ?_⟩, ⟨?_, d1, ?_, ?_⟩, ⟨?_, ?_, d2, ?_⟩, ⟨?_, ?_, ?_, d3⟩⟩ <;> simp at * <;> omega
theorem list4 {α : Type} {l : List α} (h : l.length = 4) : ∃ a b c d, l = [a, b, c, d] := by match l, h with | [a, b, c, d], _ => exact ⟨a, b, c, d, rfl⟩
theorem exT_rows {rs : List (List Int)} (hq : Sq exT.n rs) (hT : WaysT exT.n exT.arcs (gt rs)) : rs = [[0, 10, 12, 7], [-4, 0, 3, 3], [-4, 0, 0, 3], [0, 10, 12, 0]] := by
  have hw := exT_ways hT
  obtain ⟨h1, h2⟩ := hq
  rw [exT_n] at h1 h2
  obtain ⟨r0, r1, r2, r3, rfl⟩ := list4 h1
  obtain ⟨a0, a1, a2, a3, e0⟩ := list4 (h2 0 (by decide))
  obtain ⟨b0, b1, b2, b3, e1⟩ := list4 (h2 1 (by decide))
  obtain ⟨c0, c1, c2, c3, e2⟩ := list4 (h2 2 (by decide))
  obtain ⟨d0, d1, d2, d3, e3⟩ := list4 (h2 3 (by decide))
  change r0 = _ at e0; change r1 = _ at e1; change r2 = _ at e2; change r3 = _ at e3
  subst e0; subst e1; subst e2; subst e3
  obtain ⟨⟨t00, t01, t02, t03⟩, ⟨t10, t11, t12, t13⟩, ⟨t20, t21, t22, t23⟩, ⟨t30, t31, t32, t33⟩⟩ := hw
  change a0 = _ at t00; change a1 = _ at t01; change a2 = _ at t02; change a3 = _ at t03
  change b0 = _ at t10; change b1 = _ at t11; change b2 = _ at t12; change b3 = _ at t13
  change c0 = _ at t20; change c1 = _ at t21; change c2 = _ at t22; change c3 = _ at t23
  change d0 = _ at t30; change d1 = _ at t31; change d2 = _ at t32; change d3 = _ at t33
  subst t00; subst t01; subst t02; subst t03; subst t10; subst t11; subst t12; subst t13; subst t20; subst t21; subst t22; subst t23; subst t30; subst t31; subst t32; subst t33
  rfl
theorem LoI.put' {T : Nat → Nat → Int} {X : List Int} {b k : Nat} {z y : Int} (h : LoI T X b k z) (hf : T b k ≠ free) (hb : -free ≤ gi X k - T b k) (e : y = max z (gi X k - T b k)) : LoI T X b (k + 1) y := e ▸ h.put hf hb
theorem HiI.put' {T : Nat → Nat → Int} {X : List Int} {b k : Nat} {z y : Int} (h : HiI T X b k z) (hf : T k b ≠ free) (hb : gi X k + T k b ≤ free) (e : y = min z (gi X k + T k b)) : HiI T X b (k + 1) y := e ▸ h.put hf hb
theorem exT_point {x : List Int} {e : Int} (h : PointR exT [1, 2, 3] x e) : x = [0, 5, 7, 3] ∧ e = 0 := by
  have key : ∀ T, WaysT exT.n exT.arcs T → PtsR T (pickI [1, 2, 3]) [0, 5, 7, 3] := fun T hT => by
    obtain ⟨⟨t00, t01, t02, t03⟩, ⟨t10, t11, t12, t13⟩, ⟨t20, t21, t22, t23⟩, ⟨t30, t31, t32, t33⟩⟩ := exT_ways hT
    have s1 : PtsR T (pickI [1, 2, 3]) [0, 5] := by
      have l1 : LoI T [0] 1 1 4 := LoI.put' (LoI.start T [0] 1) (by rw [t10]; decide) (by rw [t10]; decide) (by rw [t10]; decide)
      have h1 : HiI T [0] 1 1 10 := HiI.put' (HiI.start T [0] 1) (by rw [t01]; decide) (by rw [t01]; decide) (by rw [t01]; decide)
      have := PtsR.snoc (.start (T := T) (f := pickI [1, 2, 3])) l1 h1
      rwa [show chooseI 4 10 (pickI [1, 2, 3] (([0] : List Int).length - 1) (10 - 4 + 1)) = 5 by decide] at this
    have s2 : PtsR T (pickI [1, 2, 3]) [0, 5, 7] := by
      have l1 : LoI T [0, 5] 2 1 4 := LoI.put' (LoI.start T [0, 5] 2) (by rw [t20]; decide) (by rw [t20]; decide) (by rw [t20]; decide)
      have l2 : LoI T [0, 5] 2 2 5 := LoI.put' l1 (by rw [t21]; decide) (by rw [t21]; decide) (by rw [t21]; decide)
      have h1 : HiI T [0, 5] 2 1 12 := HiI.put' (HiI.start T [0, 5] 2) (by rw [t02]; decide) (by rw [t02]; decide) (by rw [t02]; decide)
      have h2 : HiI T [0, 5] 2 2 8 := HiI.put' h1 (by rw [t12]; decide) (by rw [t12]; decide) (by rw [t12]; decide)
      have := PtsR.snoc s1 l2 h2
      rwa [show chooseI 5 8 (pickI [1, 2, 3] (([0, 5] : List Int).length - 1) (8 - 5 + 1)) = 7 by decide] at this
    have l1 : LoI T [0, 5, 7] 3 1 0 := LoI.put' (LoI.start T [0, 5, 7] 3) (by rw [t30]; decide) (by rw [t30]; decide) (by rw [t30]; decide)
    have l2 : LoI T [0, 5, 7] 3 2 0 := LoI.put' l1 (by rw [t31]; decide) (by rw [t31]; decide) (by rw [t31]; decide)
    have l3 : LoI T [0, 5, 7] 3 3 0 := LoI.put' l2 (by rw [t32]; decide) (by rw [t32]; decide) (by rw [t32]; decide)
    have h1 : HiI T [0, 5, 7] 3 1 7 := HiI.put' (HiI.start T [0, 5, 7] 3) (by rw [t03]; decide) (by rw [t03]; decide) (by rw [t03]; decide)
    have h2 : HiI T [0, 5, 7] 3 2 7 := HiI.put' h1 (by rw [t13]; decide) (by rw [t13]; decide) (by rw [t13]; decide)
    have h3 : HiI T [0, 5, 7] 3 3 7 := HiI.put' h2 (by rw [t23]; decide) (by rw [t23]; decide) (by rw [t23]; decide)
    have := PtsR.snoc s2 l3 h3
    rwa [show chooseI 0 7 (pickI [1, 2, 3] (([0, 5, 7] : List Int).length - 1) (7 - 0 + 1)) = 3 by decide] at this
  cases h with
  | bad h => exact (h (exT.ok_iff.2 exT_ok)).elim
  | clash _ h => exact (h exT_sound).elim
  | ok _ _ h =>
    obtain ⟨T, h1, h2, h3⟩ := h
    exact ⟨h2.uniq (key T h1) h3, rfl⟩
theorem sized4 (a b c d : Int) (h : max a (-a) + max b (-b) + max c (-c) + max d (-d) ≤ 1000) : SizedW [a, b, c, d] := by
  simp only [SizedW, sizesTo, sumTo, gi, FF, List.length_cons, List.length_nil, List.getD_cons_zero, List.getD_cons_succ]
  omega
theorem exT_most {n e : Int} (h : MostR exT [0, 1, 1, -2] n e) : n = 22 ∧ e = 0 :=
  h.uniq (mostR_of (p := p4 0 10 12 0) (askErr_zero exT_ok rfl (sized4 _ _ _ _ (by decide))) (exT_feas.2 (by decide)) (by rw [exT_n, val4]; decide) (fun x hx => by rw [exT_feas] at hx; rw [exT_n, val4]; omega) (by decide))
theorem exT_best {xs : List Int} (h : BestR exT [0, 1, 1, -2] xs) : xs = [0, 10, 12, 0] := by
  have h1 := exT_feas.1 h.feas
  have h2 := h.zero
  have h3 := (opt_val.1 h.sum).2 _ ((exT_feas (p := p4 0 10 12 0)).2 (by decide))
  rw [exT_n, val4] at h3
  have h4 := h.len
  rw [exT_n] at h4
  simp only [p4, sumTo] at h3
  have g0 : gi ([0, 1, 1, -2] : List Int) 0 = 0 := rfl
  have g1 : gi ([0, 1, 1, -2] : List Int) 1 = 1 := rfl
  have g2 : gi ([0, 1, 1, -2] : List Int) 2 = 1 := rfl
  have g3 : gi ([0, 1, 1, -2] : List Int) 3 = -2 := rfl
  rw [g0, g1, g2, g3] at h3
  simp at h3
  refine ext_gi (by rw [h4]; rfl) fun k hk => ?_
  rw [h4] at hk
  match k, hk with
  | 0, _ => exact h2
  | 1, _ => show gi xs 1 = 10; omega
  | 2, _ => show gi xs 2 = 12; omega
  | 3, _ => show gi xs 3 = 0; omega
theorem exT_ask (w : List Int) (hl : w.length = 4) (hz : SizedW w) : askErr exT w = 0 := askErr_zero exT_ok hl hz
theorem exT_range : RangeR exT [0, 0, 1, 0] 4 12 0 :=
  rangeR_of (p := p4 0 4 4 0) (q := p4 0 9 12 0) (askErr_zero exT_ok rfl (sized4 _ _ _ _ (by decide))) (exT_feas.2 (by decide)) (by rw [exT_n, val4]; decide) (exT_feas.2 (by decide)) (by rw [exT_n, val4]; decide)
    (fun x hx => by rw [exT_feas] at hx; rw [exT_n, val4]; omega) (by decide) (by decide)
theorem wo_range {s : Syst} {by_ w : List Int} {lo hi : Int} {p : Nat → Int} (hp : Feas (s.wo by_).arcs p) (hv : valw w s.n p < lo ∨ hi < valw w s.n p) : ¬ RangeR (s.wo by_) w lo hi 0 := fun h => by
  have := h.ends.all p hp
  rw [wo_n] at this
  omega
theorem exT_wo {a : Int} {p : Nat → Int} : Feas (exT.wo [a]).arcs p ↔ (a = 1 ∨ (p 1 ≤ p 0 + 10 ∧ p 0 ≤ p 1 + -4)) ∧ (a = 2 ∨ (p 2 ≤ p 1 + 3 ∧ p 1 ≤ p 2)) ∧ (a = 3 ∨ (p 3 ≤ p 0 + 7 ∧ p 0 ≤ p 3)) ∧ (a = 4 ∨ p 2 ≤ p 0 + 12) := by
  rw [wo_feas]
  simp [exT]
  omega
theorem exT_src {x : Int} : SrcS exT.lims x ↔ x = 1 ∨ x = 2 ∨ x = 3 ∨ x = 4 := by
  simp [SrcS, exT]
  omega
theorem exT_moves {L : List Int} {e : Int} (h : MovesR exT [0, 0, 1, 0] L e) : L = [1, 2, 4] ∧ e = 0 := by
  refine h.uniq (.ok exT_range ⟨by decide, fun x => ?_⟩)
  rw [exT_src]
  have h1 : ¬ RangeR (exT.wo [1]) [0, 0, 1, 0] 4 12 0 := wo_range (p := p4 0 0 0 0) (exT_wo.2 (by decide)) (by rw [exT_n, val4]; decide)
  have h2 : ¬ RangeR (exT.wo [2]) [0, 0, 1, 0] 4 12 0 := wo_range (p := p4 0 4 0 0) (exT_wo.2 (by decide)) (by rw [exT_n, val4]; decide)
  have h3 : RangeR (exT.wo [3]) [0, 0, 1, 0] 4 12 0 :=
    rangeR_of (p := p4 0 4 4 0) (q := p4 0 9 12 0) (askErr_wo (exT_ask _ rfl (sized4 _ _ _ _ (by decide)))) (exT_wo.2 (by decide)) (by rw [wo_n, exT_n, val4]; decide) (exT_wo.2 (by decide)) (by rw [wo_n, exT_n, val4]; decide)
      (fun x hx => by rw [exT_wo] at hx; rw [wo_n, exT_n, val4]; omega) (by decide) (by decide)
  have h4 : ¬ RangeR (exT.wo [4]) [0, 0, 1, 0] 4 12 0 := wo_range (p := p4 0 10 13 0) (exT_wo.2 (by decide)) (by rw [exT_n, val4]; decide)
  simp only [List.mem_cons, List.not_mem_nil, or_false]
  constructor
  · rintro (rfl | rfl | rfl)
    · exact ⟨by omega, h1⟩
    · exact ⟨by omega, h2⟩
    · exact ⟨by omega, h4⟩
  · rintro ⟨rfl | rfl | rfl | rfl, g⟩
    · omega
    · omega
    · exact (g h3).elim
    · omega
def exC : Syst := ⟨3, exT.lims ++ [⟨2, 0, -13, 9⟩]⟩
theorem exC_ok : exC.Ok := ⟨by decide, by decide, by decide, by decide⟩
theorem exC_feas {p : Nat → Int} : Feas exC.arcs p ↔ p 1 ≤ p 0 + 10 ∧ p 0 ≤ p 1 + -4 ∧ p 2 ≤ p 1 + 3 ∧ p 1 ≤ p 2 ∧ p 3 ≤ p 0 + 7 ∧ p 0 ≤ p 3 ∧ p 2 ≤ p 0 + 12 ∧ p 0 ≤ p 2 + -13 := by
  rw [feas_iff]
  simp [exT, exC]
theorem wo_feas1 {s : Syst} {a : Int} {p : Nat → Int} : Feas (s.wo [a]).arcs p ↔ ∀ l ∈ s.lims, l.S = a ∨ p l.B.toNat ≤ p l.A.toNat + l.M := by
  rw [wo_feas]
  refine ⟨fun h l hl => ?_, fun h l hl hn => ?_⟩
  · by_cases e : l.S = a
    · exact .inl e
    · exact .inr (h l hl (by simpa using e))
  · exact (h l hl).resolve_left (by simpa using hn)
theorem wo_lims {s : Syst} {a : Int} {p : Lim → Prop} : (∀ l ∈ (s.wo [a]).lims, p l) ↔ ∀ l ∈ s.lims, l.S = a ∨ p l := by
  simp only [Syst.wo, List.mem_filter, Bool.not_eq_true', decide_eq_false_iff_not, List.mem_singleton]
  refine ⟨fun h l hl => ?_, fun h l ⟨hl, hn⟩ => (h l hl).resolve_left hn⟩
  by_cases e : l.S = a
  · exact .inl e
  · exact .inr (h l ⟨hl, e⟩)
theorem exC_conf {L : List Int} {e : Int} (h : ConfR exC L e) : L = [4, 9] ∧ e = 0 := by
  have hS : RiseOf (SrcS exC.lims) [1, 2, 3, 4, 9] := ⟨by decide, fun x => by simp [SrcS, exC, exT]; omega⟩
  have c5 : ConfI exC [1, 2, 3, 4, 9] 5 exC [1, 2, 3, 4, 9] := .start
  have c4 : ConfI exC [1, 2, 3, 4, 9] 4 exC [1, 2, 3, 4, 9] := .keep c5 ⟨p4 0 4 4 0, wo_feas1.2 (by decide)⟩
  have c3 : ConfI exC [1, 2, 3, 4, 9] 3 exC [1, 2, 3, 4, 9] := .keep c4 ⟨p4 0 10 13 0, wo_feas1.2 (by decide)⟩
  have c2 := ConfI.drop c3 (by
    rintro ⟨p, hp⟩
    rw [show gi ([1, 2, 3, 4, 9] : List Int) 2 = 3 from rfl, wo_feas1] at hp
    simp [exC, exT] at hp; omega)
  have c1 := ConfI.drop c2 (by
    rintro ⟨p, hp⟩
    rw [show gi ([1, 2, 3, 4, 9] : List Int) 2 = 3 from rfl, show gi ([1, 2, 3, 4, 9] : List Int) 1 = 2 from rfl, wo_feas1, wo_lims] at hp
    simp [exC, exT] at hp; omega)
  have c0 := ConfI.drop c1 (by
    rintro ⟨p, hp⟩
    rw [show gi ([1, 2, 3, 4, 9] : List Int) 2 = 3 from rfl, show gi ([1, 2, 3, 4, 9] : List Int) 1 = 2 from rfl, show gi ([1, 2, 3, 4, 9] : List Int) 0 = 1 from rfl, wo_feas1, wo_lims, wo_lims] at hp
    simp [exC, exT] at hp; omega)
  exact h.uniq (.ok exC_ok (fun ⟨p, hp⟩ => by rw [exC_feas] at hp; omega) hS c0)
theorem exT_open {n e : Int} (h : MostR (exT.wo [1, 4]) [0, 1, 0, 0] n e) : e = 22 := by
  have hf : ∀ z : Int, 0 ≤ z → Feas (exT.wo [1, 4]).arcs (p4 0 z z 0) := fun z hz => by
    rw [wo_feas]
    simp [exT, p4]
    omega
  obtain ⟨h1, -, h3⟩ := h
  cases h1 with
  | bad g => exact (g (askErr_wo (exT_ask _ rfl (sized4 _ _ _ _ (by decide))))).elim
  | clash _ g => exact (g ⟨_, hf 0 (by decide)⟩).elim
  | opn => rfl
  | ok _ _ _ =>
    have h4 := (opt_val.1 (h3 rfl).1).2 _ (hf (max 0 (n + 1)) (by omega))
    rw [wo_n, exT_n, val4] at h4
    simp only [p4] at h4
    simp at h4
    omega
end Go.MW

namespace Go.MW
section
variable {P : Program} {ro : Option Nat} {K : FS → World → Prop} {s : FS} {w : World} {H : Heap} {σ τ : List Ent} {ty t : TypeId} {pos : String} {aft : Array Edge} {v : Value} {x y : Operand}
theorem OJ.valN {o : Op} {w' : World} (hdf : ∀ c, o ≠ .defer c) (hx : ∀ a, Sim s a → (execOp a.eval ⟨none, o, ty, pos, aft, none⟩).run P w = .ok (.value v) w') (k : K s w') :
    OJ P ro ⟨none, o, ty, pos, aft, none⟩ K s w := fun a ha => by
  refine ⟨fun _ _ => trivial, ?_⟩
  rw [Oper.semAt_eq _ _ _ hdf, hx a ha]
  exact ⟨_, ha.put_none v, k⟩
theorem setL_mid : ∀ (zs pre post mid : List Value), mid.length = zs.length → setL (pre ++ mid ++ post) pre.length zs = pre ++ zs ++ post := by
  intro zs
  induction zs with
  | nil => intro pre post mid h; have : mid = [] := List.length_eq_zero_iff.1 h; subst this; simp [setL]
  | cons z zs ih =>
    intro pre post mid h
    cases mid with
    | nil => simp at h
    | cons m mid =>
      simp only [setL]
      have e1 : (pre ++ m :: mid ++ post).set pre.length z = (pre ++ [z]) ++ mid ++ post := by
        rw [List.append_assoc, List.set_append_right _ _ (Nat.le_refl _)]; simp
      have e2 : pre.length + 1 = (pre ++ [z]).length := by simp
      rw [e1, e2, ih (pre ++ [z]) post mid (by simpa using h)]
      simp
theorem OJ.clearI {b o len cap : Nat} {c : List Value} {elem : TypeId} (hs : St H w σ) (hx : FS.ev s x = some (.slice (some ⟨b, o, none⟩) len cap)) (hu : ∀ w, (underlying t).run P w = .ok (.slice elem) w) (hz : ∀ w, (zeroValue elem).run P w = .ok (I 0) w) (hl : o + len ≤ c.length)
    (k : ∀ w', St H w' τ → K s w') (hU : Upd σ (.blk b c) (.blk b (setL c o (List.replicate len (I 0)))) τ := by repeat constructor) :
    OJ P ro ⟨none, .call ⟨.builtin .clear, #[x], #[t]⟩, ty, pos, aft, none⟩ K s w := by
  have hzc : (Builtin.zeroCells (I 0).cells len).toList = List.replicate len (I 0) := by
    simp [Builtin.zeroCells, Value.cells]
    apply List.ext_getElem
    · simp
    · intro i h1 h2
      simp [Nat.mod_one]
  obtain ⟨w', h1, h2⟩ := run_storeL (P := P) (List.replicate len (I 0)) o 0 c w σ τ hs (by intro v hv; rw [List.eq_of_mem_replicate hv]; rfl) (by simpa using hl) (by rw [Nat.add_zero]; exact hU)
  refine .valN (v := .tuple #[]) (w' := w') (fun _ => by simp) (fun a ha => ?_) (k w' h2)
  cases len with
  | zero =>
    have e : w' = w := by
      have h3 : (storeCells ⟨b, o, none⟩ (List.replicate 0 (I 0)) 0).run P w = .ok () w := by simp [storeCells]
      rw [h3] at h1; cases h1; rfl
    subst e
    simp only [execOp, resolve, List.map_toArray, List.map_cons, List.map_nil, ha.ev hx, Sem.run_bind, Sem.run_pure, Result.andThen, invoke, builtin, Builtin.clear_]
    simp [hu w']
  | succ m =>
    simp only [execOp, resolve, List.map_toArray, List.map_cons, List.map_nil, ha.ev hx, Sem.run_bind, Sem.run_pure, Result.andThen, invoke, builtin, Builtin.clear_]
    simp only [List.getElem?_toArray, List.getElem?_cons_zero, Sem.run_bind, hu w, Result.andThen, Sem.run_pure, hz w, hzc, h1]
theorem q_field {fs : Array Field} {f : Field} {cs : Array Value} {k : Nat} (hx : FS.ev s x = some (.agg cs)) (hu : ∀ w, (underlying t).run P w = .ok (.struct fs) w) (hf : fs[k]? = some f) (ha : ∀ w, (isAgg f.type).run P w = .ok false w) (hv : cs[f.offset]? = some v) :
    QJ P H σ s (.field t x k) v :=
  ⟨fun _ => by simp, fun a w _ _ _ _ _ hsim _ => by
    simp only [execOp, hsim.ev hx, Instr.field, Sem.run_bind, hu w, Result.andThen, hf, asAgg, Sem.run_pure, run_part ha hv]⟩
theorem run_eqS3 {d : Nat} {f0 f1 f2 : Field} {a0 a1 a2 b0 b1 b2 : Int} {w : World} (hu : ∀ w, (underlying t).run P w = .ok (.struct #[f0, f1, f2]) w) (hh : P.stoodInHeld t = false)
    (hf : ∀ f ∈ [f0, f1, f2], f.name ≠ "_" ∧ (∀ w, (underlying f.type).run P w = .ok (.int .i64) w) ∧ (∀ w, (isAgg f.type).run P w = .ok false w)) (o0 : f0.offset = 0) (o1 : f1.offset = 1) (o2 : f2.offset = 2) :
    (Op.equalIn (d + 2) t (.agg #[I a0, I a1, I a2]) (.agg #[I b0, I b1, I b2])).run P w = .ok (decide (a0 = b0 ∧ a1 = b1 ∧ a2 = b2)) w := by
  obtain ⟨n0, u0, g0⟩ := hf f0 (by simp)
  obtain ⟨n1, u1, g1⟩ := hf f1 (by simp)
  obtain ⟨n2, u2, g2⟩ := hf f2 (by simp)
  unfold Op.equalIn
  simp only [Sem.run_bind, hu w, Result.andThen]
  simp [hh, n0, n1, n2, o0, o1, o2, part, g0, g1, g2, run_eqI u0, run_eqI u1, run_eqI u2]
  by_cases h0 : a0 = b0 <;> by_cases h1 : a1 = b1 <;> by_cases h2 : a2 = b2 <;> simp [h0, h1, h2]
theorem q_eqS3 {ty' : TypeId} {f0 f1 f2 : Field} {a0 a1 a2 b0 b1 b2 : Int} (hx : FS.ev s x = some (.agg #[I a0, I a1, I a2])) (hy : FS.ev s y = some (.agg #[I b0, I b1, I b2])) (hu : ∀ w, (underlying t).run P w = .ok (.struct #[f0, f1, f2]) w) (hh : P.stoodInHeld t = false) (hg : P.eqGuardType P.depth t = false)
    (hf : ∀ f ∈ [f0, f1, f2], f.name ≠ "_" ∧ (∀ w, (underlying f.type).run P w = .ok (.int .i64) w) ∧ (∀ w, (isAgg f.type).run P w = .ok false w)) (o0 : f0.offset = 0 := by rfl) (o1 : f1.offset = 1 := by rfl) (o2 : f2.offset = 2 := by rfl) :
    QJ P H σ s (.binOp .eql t x y ty') (.bool (decide (a0 = b0 ∧ a1 = b1 ∧ a2 = b2))) :=
  ⟨fun _ => by simp, fun a w _ _ _ _ _ ha _ => by
    have h2 : (Op.equal t (.agg #[I a0, I a1, I a2]) (.agg #[I b0, I b1, I b2])).run P w = .ok (decide (a0 = b0 ∧ a1 = b1 ∧ a2 = b2)) w := run_eqS3 (d := 9998) hu hh hf o0 o1 o2
    have hg' : (eqGuard .eql t x y (.agg #[I a0, I a1, I a2]) (.agg #[I b0, I b1, I b2])).run P w = .ok () w := by simp [eqGuard, hg]
    simp only [execOp, ha.ev hx, ha.ev hy, Sem.run_bind, hg', Result.andThen]
    simp [binOp, h2]⟩
end
end Go.MW

namespace Go.MW
theorem St.grow {H : Heap} {w : World} {σ : List Ent} (hs : St H w σ) (os : Array Obj) : St H (Go.Sort.grow w os) σ := by
  have key : ∀ b o, w.heap[b]? = some o → (w.heap ++ os)[b]? = some o := fun b o h => by
    have hlt := (Array.getElem?_eq_some_iff.1 h).1
    rw [Array.getElem?_append_left hlt]; exact h
  refine ⟨fun b o hb => key b o (hs.ro b o hb), fun e he => ?_, hs.nd, hs.dis, hs.io⟩
  have := hs.own e he
  cases e with
  | blk b c => obtain ⟨T, h⟩ := this; exact ⟨T, key _ _ h⟩
  | obj b o => exact key _ _ this
  | nul => trivial
theorem putCells_front (ys xs : List Int) (sp : List Value) (h : ys.length = xs.length) : Go.Sort.putCells (Value.int .i64) 0 ys.toArray (Is xs ++ sp).toArray = (Is ys ++ sp).toArray := by
  unfold Go.Sort.putCells
  apply Array.ext_getElem?
  intro k
  simp only [Array.getElem?_mapIdx, List.getElem?_toArray, List.size_toArray, Nat.zero_add, Nat.zero_le, true_and, Nat.sub_zero]
  by_cases hk : k < ys.length
  · have h1 : (Is xs ++ sp)[k]? = some (I (gi xs k)) := Is_gi_sp (by omega) sp
    have h2 : (Is ys ++ sp)[k]? = some (I (gi ys k)) := Is_gi_sp hk sp
    rw [h1, h2, Option.map_some, if_pos hk]
    simp [gi, hk]
  · have e1 : (Is xs).length ≤ k := by simp; omega
    have e2 : (Is ys).length ≤ k := by simp; omega
    rw [List.getElem?_append_right e1, List.getElem?_append_right e2]
    simp only [List.length_map, h]
    cases h3 : sp[k - xs.length]? with
    | none => rfl
    | some v => rw [Option.map_some, if_neg (by omega)]
theorem St.putRow {H : Heap} {w : World} {σ : List Ent} {b m : Nat} {xs ys : List Int} {sp : List Value} (hs : St H w (.blk b (Is xs ++ sp) :: σ)) (h : ys.length = xs.length) :
    St H (Go.Sort.putRow (Value.int .i64) (Go.Sort.ahead w m) b 0 ys.toArray) (.blk b (Is ys ++ sp) :: σ) := by
  obtain ⟨T, hb⟩ := hs.own _ (.head _)
  have hne : ∀ k, k ≠ b → (Go.Sort.putRow (Value.int .i64) (Go.Sort.ahead w m) b 0 ys.toArray).heap[k]? = w.heap[k]? := fun k hk => by
    show (w.heap.modify b _)[k]? = _
    rw [Array.getElem?_modify]; simp [Ne.symm hk]
  have hsame : (Go.Sort.putRow (Value.int .i64) (Go.Sort.ahead w m) b 0 ys.toArray).heap[b]? = some (.cells (Is ys ++ sp).toArray T (0, 0)) := by
    show (w.heap.modify b _)[b]? = _
    rw [Array.getElem?_modify]
    simp only [if_true, hb, Option.map_some, Go.Sort.onCells]
    rw [putCells_front ys xs sp h]
  have hnd := List.pairwise_cons.1 hs.nd
  refine ⟨fun k o hk => ?_, fun e he => ?_, List.pairwise_cons.2 ⟨fun y hy k h1 h2 => hnd.1 y hy k h1 h2, hnd.2⟩, fun e he k hk => ?_, hs.io⟩
  · rw [hne k]
    · exact hs.ro k o hk
    · intro e; subst e; rw [hs.dis _ (.head _) k rfl] at hk; cases hk
  · cases he with
    | head => exact ⟨T, hsame⟩
    | tail _ he =>
      have h4 := hs.own e (.tail _ he)
      have h5 := hnd.1 e he
      cases e with
      | blk b' c' => obtain ⟨T', h4⟩ := h4; exact ⟨T', by rw [hne b' (fun e => h5 b rfl (by rw [e]; rfl))]; exact h4⟩
      | obj b' o => simp only [Ent.sat] at h4 ⊢; rw [hne b' (fun e => h5 b rfl (by rw [e]; rfl))]; exact h4
      | nul => trivial
  · cases he with
    | head => exact hs.dis _ (.head _) k hk
    | tail _ he => exact hs.dis e (.tail _ he) k hk
theorem St.holds {H : Heap} {w : World} {σ : List Ent} {b : Nat} {xs : List Int} {sp : List Value} (hs : St H w (.blk b (Is xs ++ sp) :: σ)) : Go.Sort.Holds (Value.int .i64) w b 0 xs.toArray := fun j hj => by
  have hj' : j < xs.length := by simpa using hj
  refine ⟨?_, ?_⟩
  · rw [Nat.zero_add, cell?_own hs .here, Is_gi_sp hj' sp]
    simp [gi, hj']
  · rw [Nat.zero_add]; exact frozen?_own hs .here j
theorem sorted_rise {xs : List Int} : RiseOf (fun x => x ∈ xs) (Go.Lib.compact (xs.mergeSort fun x y => decide (x ≤ y))) := by
  generalize hz : (xs.mergeSort fun x y => decide (x ≤ y)) = zs
  have hp : ∀ x, x ∈ zs ↔ x ∈ xs := fun x => by rw [← hz]; exact (List.mergeSort_perm xs _).mem_iff
  have hsrt : zs.Pairwise (fun x y => x ≤ y) := by
    rw [← hz]
    have := List.pairwise_mergeSort (le := fun x y : Int => decide (x ≤ y)) (fun a b c h1 h2 => by simp at *; omega) (fun a b => by simp; omega) xs
    exact this.imp fun h => by simpa using h
  have key : ∀ m, m ≤ zs.length → (Go.Lib.compactUpTo zs.toArray m).Pairwise (· < ·) ∧ (∀ x ∈ Go.Lib.compactUpTo zs.toArray m, ∃ j, j < m ∧ gi zs j = x) ∧ (∀ j, j < m → gi zs j ∈ Go.Lib.compactUpTo zs.toArray m) := by
    intro m
    induction m with
    | zero => exact fun _ => ⟨by simp [Go.Lib.compactUpTo], by simp [Go.Lib.compactUpTo], fun j hj => by omega⟩
    | succ m ih =>
      intro hm
      obtain ⟨h1, h2, h3⟩ := ih (by omega)
      have hle : ∀ i j, i < j → j < zs.length → gi zs i ≤ gi zs j := fun i j hij hj => by
        have := List.pairwise_iff_getElem.1 hsrt i j (by omega) hj hij
        simpa [gi, hj, (by omega : i < zs.length)] using this
      have hg : zs.toArray[m]! = gi zs m := by simp [gi, (by omega : m < zs.length)]
      have hk : Go.Lib.keeps zs.toArray m = true ↔ (m = 0 ∨ gi zs m ≠ gi zs (m - 1)) := by
        have hg2 : 0 < m → zs.toArray[m - 1]! = gi zs (m - 1) := fun h => by simp [gi, (by omega : m - 1 < zs.length)]
        unfold Go.Lib.keeps
        by_cases h0 : m = 0
        · simp [h0]
        · simp [h0, hg, hg2 (by omega)]
      rw [Go.Lib.compactUpTo_succ, hg]
      by_cases hkk : Go.Lib.keeps zs.toArray m = true
      · rw [if_pos hkk]
        refine ⟨List.pairwise_append.2 ⟨h1, List.pairwise_singleton _ _, fun a ha b hb => ?_⟩, fun x hx => ?_, fun j hj => ?_⟩
        · simp only [List.mem_singleton] at hb
          subst hb
          obtain ⟨j, hj, rfl⟩ := h2 a ha
          rcases hk.1 hkk with h0 | h0
          · omega
          · have e1 := hle (m - 1) m (by omega) (by omega)
            by_cases e : j = m - 1
            · subst e; omega
            · have := hle j (m - 1) (by omega) (by omega); omega
        · rcases List.mem_append.1 hx with hx | hx
          · obtain ⟨j, hj, e⟩ := h2 x hx; exact ⟨j, by omega, e⟩
          · simp only [List.mem_singleton] at hx; exact ⟨m, by omega, hx.symm⟩
        · by_cases e : j = m
          · subst e; simp
          · exact List.mem_append_left _ (h3 j (by omega))
      · rw [if_neg hkk, List.append_nil]
        refine ⟨h1, fun x hx => ?_, fun j hj => ?_⟩
        · obtain ⟨j, hj, e⟩ := h2 x hx; exact ⟨j, by omega, e⟩
        · by_cases e : j = m
          · subst e
            have hn : ¬ (j = 0 ∨ gi zs j ≠ gi zs (j - 1)) := fun h => hkk (hk.2 h)
            have e2 : gi zs j = gi zs (j - 1) := Classical.byContradiction fun h => hn (.inr h)
            have e3 : j ≠ 0 := fun h => hn (.inl h)
            rw [e2]; exact h3 (j - 1) (by omega)
          · exact h3 j (by omega)
  obtain ⟨h1, h2, h3⟩ := key zs.length (Nat.le_refl _)
  refine ⟨h1, fun x => ?_⟩
  rw [← hp x]
  constructor
  · intro hx
    obtain ⟨j, hj, e⟩ := h2 x hx
    rw [← e]; exact List.mem_of_getElem? (gi_get hj)
  · intro hx
    obtain ⟨j, hj⟩ := List.getElem?_of_mem hx
    have hlt := (List.getElem?_eq_some_iff.1 hj).1
    have := h3 j hlt
    rwa [show gi zs j = x by have := gi_get hlt; rw [hj] at this; exact (Option.some.inj this).symm] at this
end Go.MW

namespace Go.MW
def pickTo (q : Nat → Lim → Bool) (ls : List Lim) : Nat → List Lim
  | 0 => []
  | k + 1 => pickTo q ls k ++ (match ls[k]? with | some l => if q k l then [l] else [] | none => [])
theorem pickTo_succ {q : Nat → Lim → Bool} {ls : List Lim} {k : Nat} {l : Lim} (h : ls[k]? = some l) : pickTo q ls (k + 1) = pickTo q ls k ++ if q k l then [l] else [] := by
  simp only [pickTo, h]
theorem pickTo_length (q : Nat → Lim → Bool) (ls : List Lim) : ∀ k, (pickTo q ls k).length ≤ k
  | 0 => Nat.le_refl _
  | k + 1 => by
    have := pickTo_length q ls k
    simp only [pickTo, List.length_append]
    split
    · split <;> simp <;> omega
    · simp; omega
theorem pickTo_filter (f : Lim → Bool) {ls : List Lim} : ∀ {k : Nat}, k ≤ ls.length → pickTo (fun _ l => f l) ls k = (ls.take k).filter f
  | 0, _ => by simp [pickTo]
  | k + 1, h => by
    obtain ⟨l, hl⟩ := nth (l := ls) (k := k) (by omega)
    rw [pickTo_succ hl, pickTo_filter f (by omega), take_snoc hl, List.filter_append]
    congr 1
    by_cases e : f l = true <;> simp [e]
theorem pickTo_all (f : Lim → Bool) (ls : List Lim) : pickTo (fun _ l => f l) ls ls.length = ls.filter f := by
  rw [pickTo_filter f (Nat.le_refl _), List.take_length]
theorem OwnS.blk {v : Value} {xs : List Int} {en : Ent} (h : OwnS 1 v (Is xs) en) (hx : 0 < xs.length) : ∃ b cap sp, v = .slice (.some ⟨b, 0, none⟩) xs.length cap ∧ en = .blk b (Is xs ++ sp) ∧ xs.length + sp.length = cap := by
  rcases h with ⟨a, _, h2, _⟩ | ⟨b, len, cap, sp, rfl, rfl, h3, h4, h5⟩
  · have : xs = [] := by simpa using h2
    subst this; simp at hx
  · obtain rfl : len = xs.length := by simpa using h3.symm
    exact ⟨b, cap, sp, rfl, rfl, by simpa using h4⟩
theorem OwnS.shapeI {v : Value} {xs : List Int} {en : Ent} (h : OwnS 1 v (Is xs) en) : ∃ a cap, v = .slice a xs.length cap := by
  obtain ⟨a, len, cap, rfl, h1⟩ := h.shape
  exact ⟨a, cap, by rw [show len = xs.length by simpa using h1.symm]⟩
structure DelI (q : Int → Bool) (xs Y : List Int) (i j : Nat) : Prop where
  len : Y.length = xs.length
  jl : j ≤ xs.length
  il : i = ((xs.take j).filter fun x => !q x).length
  front : ∀ m < i, gi Y m = gi ((xs.take j).filter fun x => !q x) m
  rest : ∀ m, j ≤ m → gi Y m = gi xs m
theorem DelI.le {q : Int → Bool} {xs Y : List Int} {i j : Nat} (h : DelI q xs Y i j) : i ≤ j := by
  have := List.length_filter_le (fun x => !q x) (xs.take j)
  rw [List.length_take] at this
  have := h.il
  omega
theorem DelI.start {q : Int → Bool} {xs : List Int} {k : Nat} {x : Int} (hx : xs[k]? = some x) (hq : q x = true) (hn : ∀ j < k, ∀ y, xs[j]? = some y → q y = false) : DelI q xs xs k (k + 1) := by
  have hk := (List.getElem?_eq_some_iff.1 hx).1
  have h1 : (xs.take (k + 1)).filter (fun x => !q x) = xs.take k := by
    rw [take_snoc hx, List.filter_append]
    have : (xs.take k).filter (fun x => !q x) = xs.take k := List.filter_eq_self.2 fun y hy => by
      obtain ⟨j, hj⟩ := List.getElem?_of_mem hy
      have hjk : j < k := by have := (List.getElem?_eq_some_iff.1 hj).1; rw [List.length_take] at this; omega
      rw [List.getElem?_take, if_pos hjk] at hj
      simp [hn j hjk y hj]
    rw [this]; simp [hq]
  refine ⟨rfl, by omega, by rw [h1, List.length_take]; omega, fun m hm => ?_, fun _ _ => rfl⟩
  rw [h1]
  simp [gi, hm]
theorem DelI.skip {q : Int → Bool} {xs Y : List Int} {i j : Nat} {x : Int} (h : DelI q xs Y i j) (hx : xs[j]? = some x) (hq : q x = true) : DelI q xs Y i (j + 1) := by
  have hj := (List.getElem?_eq_some_iff.1 hx).1
  have h1 : (xs.take (j + 1)).filter (fun x => !q x) = (xs.take j).filter fun x => !q x := by rw [take_snoc hx, List.filter_append]; simp [hq]
  exact ⟨h.len, by omega, by rw [h1]; exact h.il, by rw [h1]; exact h.front, fun m hm => h.rest m (by omega)⟩
theorem gi_app1 {A : List Int} {x : Int} {m : Nat} : gi (A ++ [x]) m = if m < A.length then gi A m else if m = A.length then x else 0 := by
  unfold gi
  by_cases h : m < A.length
  · simp [h, List.getElem?_append_left h]
  · by_cases e : m = A.length
    · subst e; simp
    · simp only [List.getD_eq_getElem?_getD]
      rw [List.getElem?_append_right (by omega), if_neg h, if_neg e, List.getElem?_eq_none (by simp; omega)]; rfl
theorem DelI.keep {q : Int → Bool} {xs Y : List Int} {i j : Nat} {x : Int} (h : DelI q xs Y i j) (hx : xs[j]? = some x) (hq : q x = false) : DelI q xs (Y.set i x) (i + 1) (j + 1) := by
  have hj := (List.getElem?_eq_some_iff.1 hx).1
  have hle := h.le
  have h1 : (xs.take (j + 1)).filter (fun x => !q x) = (xs.take j).filter (fun x => !q x) ++ [x] := by rw [take_snoc hx, List.filter_append]; simp [hq]
  have hiY : i < Y.length := by rw [h.len]; omega
  refine ⟨by rw [List.length_set]; exact h.len, by omega, by rw [h1, List.length_append, ← h.il]; rfl, fun m hm => ?_, fun m hm => ?_⟩
  · rw [gi_set hiY, h1, gi_app1, ← h.il]
    by_cases e : m = i
    · subst e; rw [if_pos rfl, if_neg (by omega), if_pos rfl]
    · rw [if_neg e, if_pos (by omega)]; exact h.front m (by omega)
  · rw [gi_set hiY, if_neg (by omega)]; exact h.rest m (by omega)
theorem DelI.done {q : Int → Bool} {xs Y : List Int} {i : Nat} (h : DelI q xs Y i xs.length) (sp : List Value) :
    setL (Is Y ++ sp) i (List.replicate (xs.length - i) (I 0)) = Is (xs.filter fun x => !q x) ++ (List.replicate (xs.length - i) (I 0) ++ sp) := by
  have hle := h.le
  have hl := h.len
  have hil := h.il
  have hf := h.front
  rw [List.take_length] at hil hf
  have h1 : Y.take i = xs.filter fun x => !q x := by
    refine ext_gi (by rw [List.length_take, ← hil]; omega) fun m hm => ?_
    rw [List.length_take] at hm
    rw [← hf m (by omega)]
    simp [gi, show m < i by omega]
  have h2 : Is Y ++ sp = Is (xs.filter fun x => !q x) ++ Is (Y.drop i) ++ sp := by rw [← h1, ← List.map_append, List.take_append_drop]
  have h3 := setL_mid (List.replicate (xs.length - i) (I 0)) (Is (xs.filter fun x => !q x)) sp (Is (Y.drop i)) (by simp [hl])
  have e : (Is (xs.filter fun x => !q x)).length = i := by simp [hil]
  rw [e] at h3
  rw [h2, h3, List.append_assoc]
theorem DelI.lt {q : Int → Bool} {xs Y : List Int} {i j k : Nat} {x : Int} (h : DelI q xs Y i j) (hx : xs[k]? = some x) (hq : q x = true) (hk : k < j) : i < j := by
  have h0 := h.jl
  have h1 : ((xs.take j).filter fun x => !q x).length < (xs.take j).length := by
    refine Nat.lt_of_le_of_ne (List.length_filter_le _ _) fun e => ?_
    have h2 := List.length_filter_eq_length_iff.1 e x (List.mem_of_getElem? (i := k) (by rw [List.getElem?_take, if_pos hk]; exact hx))
    simp [hq] at h2
  rw [List.length_take] at h1
  have := h.il
  omega
end Go.MW

namespace Go.MW
theorem mul_size {a b : Int} (hb : -1280000 ≤ b ∧ b ≤ 1280000) : -(1280000 * max a (-a)) ≤ a * b ∧ a * b ≤ 1280000 * max a (-a) := by
  have key : ∀ c : Int, 0 ≤ c → -(1280000 * c) ≤ c * b ∧ c * b ≤ 1280000 * c := fun c hc => by
    have h1 := Int.mul_le_mul_of_nonneg_left hb.1 hc
    have h2 := Int.mul_le_mul_of_nonneg_left hb.2 hc
    omega
  by_cases h : 0 ≤ a
  · have := key a h
    rw [show max a (-a) = a by omega]; exact this
  · have := key (-a) (by omega)
    rw [Int.neg_mul] at this
    rw [show max a (-a) = -a by omega]; omega
theorem psum_bd {w x : List Int} : ∀ {k : Nat}, (∀ v < k, -1280000 ≤ gi x v ∧ gi x v ≤ 1280000) → -(1280000 * sizesTo w k) ≤ sumTo (fun v => gi w v * gi x v) k ∧ sumTo (fun v => gi w v * gi x v) k ≤ 1280000 * sizesTo w k
  | 0, _ => by simp [sizesTo, sumTo]
  | k + 1, h => by
    have h1 := psum_bd (w := w) (k := k) fun v hv => h v (by omega)
    have h2 := mul_size (a := gi w k) (h k (by omega))
    simp only [sizesTo, sumTo] at h1 ⊢
    omega
def InReach (x : List Int) : Prop := ∀ n ∈ x, -1280000 ≤ n ∧ n ≤ 1280000
theorem InReach.at {x : List Int} (h : InReach x) {v : Nat} (hv : v < x.length) : -1280000 ≤ gi x v ∧ gi x v ≤ 1280000 := h _ (List.mem_of_getElem? (gi_get hv))
theorem inReach_iff {x : List Int} : InReach x ↔ ∀ v < x.length, -1280000 ≤ gi x v ∧ gi x v ≤ 1280000 := by
  refine ⟨fun h v hv => h.at hv, fun h n hn => ?_⟩
  obtain ⟨i, hi⟩ := List.getElem?_of_mem hn
  have hlt := (List.getElem?_eq_some_iff.1 hi).1
  have := gi_get hlt
  rw [hi] at this
  cases this
  exact h i hlt
def dotL (w x : List Int) : Int := sumTo (fun v => gi w v * gi x v) w.length
inductive ValueR (w x : List Int) : Int → Int → Prop
  | wt (h : ¬ (w.length ≤ 65 ∧ SizedW w)) : ValueR w x 0 27
  | pt (h : w.length ≤ 65 ∧ SizedW w) (h1 : ¬ (x.length = w.length ∧ InReach x)) : ValueR w x 0 25
  | ok (h : w.length ≤ 65 ∧ SizedW w) (h1 : x.length = w.length ∧ InReach x) : ValueR w x (dotL w x) 0
theorem ValueR.uniq {w x : List Int} {a b e f : Int} (h : ValueR w x a e) (g : ValueR w x b f) : a = b ∧ e = f := by
  cases h <;> cases g <;> first | exact ⟨rfl, rfl⟩ | contradiction
theorem ValueR.zero {w x : List Int} {a : Int} (h : ValueR w x a 0) : (w.length ≤ 65 ∧ SizedW w) ∧ (x.length = w.length ∧ InReach x) ∧ a = dotL w x := by
  generalize hz : (0 : Int) = z at h
  cases h with
  | wt => omega
  | pt => omega
  | ok h h1 => exact ⟨h, h1, rfl⟩
theorem dotL_bd {w x : List Int} (h : SizedW w) (h1 : x.length = w.length ∧ InReach x) {k : Nat} (hk : k ≤ w.length) : -BB ≤ sumTo (fun v => gi w v * gi x v) k ∧ sumTo (fun v => gi w v * gi x v) k ≤ BB := by
  have h2 := psum_bd (w := w) (x := x) (k := k) fun v hv => h1.2.at (by omega)
  have h3 := sumTo_mono (f := fun v => max (gi w v) (-gi w v)) (fun v => by omega) hk
  unfold SizedW at h
  simp only [sizesTo, FF] at *
  simp only [BB]
  omega
theorem mul_bd2 {w x : List Int} (h : SizedW w) (h1 : x.length = w.length ∧ InReach x) {k : Nat} (hk : k < w.length) : -BB ≤ gi w k * gi x k ∧ gi w k * gi x k ≤ BB := by
  have h2 := mul_size (a := gi w k) (h1.2.at (v := k) (by omega))
  have h3 := sizes_at w hk
  unfold SizedW at h
  simp only [FF] at h
  simp only [BB]
  omega
theorem BestR.value {s : Syst} {w x : List Int} {m : Int} (h : BestR s w x) (hM : MostR s w m 0) : ValueR w x m 0 ∧ s.Ok ∧ x.length = s.n ∧ gi x 0 = 0 ∧ (∀ v < s.n, -1280000 ≤ gi x v ∧ gi x v ≤ 1280000) ∧ Feas s.arcs (gi x) := by
  obtain ⟨hA, _, _⟩ := hM.1.zero
  obtain ⟨h1, h2, h3⟩ := askErr_ok hA
  have hin : InReach x := inReach_iff.2 fun v hv => by have := h.low v (by rw [← h.len]; exact hv); omega
  have e : m = dotL w x := by
    rw [(hM.2.2 rfl).1.uniq h.sum]; unfold dotL; rw [h2]
  rw [e]
  exact ⟨.ok ⟨by rw [h2]; exact h1.n65, h3⟩ ⟨by rw [h.len, h2], hin⟩, h1, h.len, h.zero, fun v hv => by have := h.low v hv; omega, h.feas⟩
theorem RT.nil (H : Heap) : RT H (.slice none 0 0) [] := ⟨[], rfl, RS.nil H 1 none 0, fun i u r h => by simp at h⟩
def lmA (s : Syst) (i : Int) : Lim := s.lims.getD i.toNat ⟨0, 0, 0, 0⟩
theorem lmA_get {s : Syst} {i : Int} (h : 0 ≤ i ∧ i < s.lims.length) : s.lims[i.toNat]? = some (lmA s i) := by
  have : i.toNat < s.lims.length := by omega
  simp [lmA, List.getD, List.getElem?_eq_getElem this]
structure RoundP (s : Syst) (l : List Int) : Prop where
  l0 : 0 < l.length
  l1 : l.length ≤ 400
  inn : ∀ k < l.length, 0 ≤ gi l k ∧ gi l k < s.lims.length
  link : ∀ k < l.length, (lmA s (gi l k)).B = (lmA s (gi l ((k + 1) % l.length))).A
  neg : sumTo (fun k => (lmA s (gi l k)).M) l.length < 0
inductive RndR (s : Syst) (l : List Int) : Int → Prop
  | bad (h : s.check ≠ 0) : RndR s l s.check
  | no (h : s.Ok) (h1 : ¬ RoundP s l) : RndR s l 20
  | ok (h : s.Ok) (h1 : RoundP s l) : RndR s l 0
theorem RndR.uniq {s : Syst} {l : List Int} {e f : Int} (h : RndR s l e) (g : RndR s l f) : e = f := by
  cases h with
  | bad h =>
    cases g with
    | bad => rfl
    | no g _ => exact (h (s.ok_iff.2 g)).elim
    | ok g _ => exact (h (s.ok_iff.2 g)).elim
  | no h h1 =>
    cases g with
    | bad g => exact (g (s.ok_iff.2 h)).elim
    | no => rfl
    | ok _ g1 => exact (h1 g1).elim
  | ok h h1 =>
    cases g with
    | bad g => exact (g (s.ok_iff.2 h)).elim
    | no _ g1 => exact (g1 h1).elim
    | ok => rfl
theorem lim_sum_bd {s : Syst} (hok : s.Ok) {l : List Int} : ∀ {k : Nat}, (∀ j < k, 0 ≤ gi l j ∧ gi l j < s.lims.length) → -(20000 * (k : Int)) ≤ sumTo (fun j => (lmA s (gi l j)).M) k ∧ sumTo (fun j => (lmA s (gi l j)).M) k ≤ 20000 * (k : Int)
  | 0, _ => by simp [sumTo]
  | k + 1, h => by
    have h1 := lim_sum_bd hok (k := k) fun j hj => h j (by omega)
    obtain ⟨_, _, _, h2, _⟩ := hok.lim _ (List.mem_of_getElem? (lmA_get (h k (by omega))))
    simp only [sumTo]
    omega
end Go.MW

namespace Go.MW
inductive WithR (s : Syst) (l : Lim) : Syst → Int → Prop
  | bad (h : s.check ≠ 0) : WithR s l ⟨0, []⟩ s.check
  | lim (h : s.Ok) (h1 : l.ok s.many = false) : WithR s l ⟨0, []⟩ 20
  | long (h : s.Ok) (h1 : l.ok s.many = true) (h2 : s.lims.length = 400) : WithR s l ⟨0, []⟩ 2
  | ok (h : s.Ok) (h1 : l.ok s.many = true) (h2 : s.lims.length ≠ 400) : WithR s l ⟨s.many, s.lims ++ [l]⟩ 0
theorem WithR.uniq {s : Syst} {l : Lim} {t u : Syst} {e f : Int} (h : WithR s l t e) (g : WithR s l u f) : t = u ∧ e = f := by
  cases h with
  | bad h =>
    cases g with
    | bad => exact ⟨rfl, rfl⟩
    | lim g _ => exact (h (s.ok_iff.2 g)).elim
    | long g _ _ => exact (h (s.ok_iff.2 g)).elim
    | ok g _ _ => exact (h (s.ok_iff.2 g)).elim
  | lim h h1 =>
    cases g with
    | bad g => exact (g (s.ok_iff.2 h)).elim
    | lim => exact ⟨rfl, rfl⟩
    | long _ g1 _ => rw [h1] at g1; cases g1
    | ok _ g1 _ => rw [h1] at g1; cases g1
  | long h h1 h2 =>
    cases g with
    | bad g => exact (g (s.ok_iff.2 h)).elim
    | lim _ g1 => rw [h1] at g1; cases g1
    | long => exact ⟨rfl, rfl⟩
    | ok _ _ g2 => exact (g2 h2).elim
  | ok h h1 h2 =>
    cases g with
    | bad g => exact (g (s.ok_iff.2 h)).elim
    | lim _ g1 => rw [h1] at g1; cases g1
    | long _ _ g2 => exact (h2 g2).elim
    | ok => exact ⟨rfl, rfl⟩
end Go.MW

namespace Go.MW
inductive RestsR (s : Syst) (us : List Use) : List Int → Int → Prop
  | bad (h : s.check ≠ 0) : RestsR s us [] s.check
  | no (h : s.Ok) (h1 : ¬ ∀ u ∈ us, 0 ≤ u.l ∧ u.l < s.lims.length) : RestsR s us [] 24
  | ok {L : List Int} (h : s.Ok) (h1 : ∀ u ∈ us, 0 ≤ u.l ∧ u.l < s.lims.length) (h2 : RiseOf (fun x => ∃ u ∈ us, (lmA s u.l).S = x) L) : RestsR s us L 0
theorem RestsR.uniq {s : Syst} {us : List Use} {A B : List Int} {e f : Int} (h : RestsR s us A e) (g : RestsR s us B f) : A = B ∧ e = f := by
  cases h with
  | bad h =>
    cases g with
    | bad => exact ⟨rfl, rfl⟩
    | no g _ => exact (h (s.ok_iff.2 g)).elim
    | ok g _ _ => exact (h (s.ok_iff.2 g)).elim
  | no h h1 =>
    cases g with
    | bad g => exact (g (s.ok_iff.2 h)).elim
    | no => exact ⟨rfl, rfl⟩
    | ok _ g1 _ => exact (h1 g1).elim
  | ok h h1 h2 =>
    cases g with
    | bad g => exact (g (s.ok_iff.2 h)).elim
    | no _ g1 => exact (g1 h1).elim
    | ok _ _ g2 => exact ⟨h2.uniq g2, rfl⟩
def leftAt (s : Syst) (bs : List Int) (k : Nat) : Nat := ((s.lims.take k).filter fun l => !decide (l.S ∈ bs)).length
def carryU (s : Syst) (bs : List Int) (u : Use) : Use := ⟨leftAt s bs u.l.toNat, u.t⟩
inductive CarryR (s : Syst) (w : List Int) (n : Int) (us : List Use) (bs : List Int) : Int → List Use → Int → Prop
  | bad {e : Int} (h : ProofR s w n us e) (he : e ≠ 0) : CarryR s w n us bs 0 [] e
  | none (h : ProofR s w n us 0) (h1 : ∃ u ∈ us, (lmA s u.l).S ∈ bs) : CarryR s w n us bs 0 [] 3
  | ok (h : ProofR s w n us 0) (h1 : ∀ u ∈ us, (lmA s u.l).S ∉ bs) : CarryR s w n us bs n (us.map (carryU s bs)) 0
theorem CarryR.uniq {s : Syst} {w : List Int} {n : Int} {us : List Use} {bs : List Int} {a b : Int} {A B : List Use} {e f : Int} (h : CarryR s w n us bs a A e) (g : CarryR s w n us bs b B f) : a = b ∧ A = B ∧ e = f := by
  cases h with
  | bad h he =>
    cases g with
    | bad g _ => exact ⟨rfl, rfl, h.uniq g⟩
    | none g _ => exact (he (h.uniq g)).elim
    | ok g _ => exact (he (h.uniq g)).elim
  | none h h1 =>
    cases g with
    | bad g ge => exact (ge (g.uniq h)).elim
    | none => exact ⟨rfl, rfl, rfl⟩
    | ok _ g1 => obtain ⟨u, hu, h2⟩ := h1; exact (g1 u hu h2).elim
  | ok h h1 =>
    cases g with
    | bad g ge => exact (ge (g.uniq h)).elim
    | none _ g1 => obtain ⟨u, hu, g2⟩ := g1; exact (h1 u hu g2).elim
    | ok => exact ⟨rfl, rfl, rfl⟩
theorem ProofR.inn {s : Syst} {w : List Int} {n : Int} {us : List Use} (h : ProofR s w n us 0) : s.Ok ∧ us.length ≤ 400 ∧ ∀ u ∈ us, 0 ≤ u.l ∧ u.l < s.lims.length := by
  generalize hz : (0 : Int) = z at h
  cases h with
  | ask h => exact (h hz.symm).elim
  | bad => omega
  | ok h h1 =>
    refine ⟨(askErr_ok h).1, h1.len, fun u hu => ?_⟩
    obtain ⟨i, hi⟩ := List.getElem?_of_mem hu
    have hlt := (List.getElem?_eq_some_iff.1 hi).1
    have hg := gu_get hlt
    rw [hi] at hg
    rw [Option.some.inj hg]
    exact ⟨(h1.use i hlt).l0, (h1.use i hlt).l1⟩
end Go.MW
