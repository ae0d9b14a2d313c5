/-
  Texts of this claim, joined: Mwk Mwz Xa Xb Xc.
-/
import Derived.Test.YtiiokdeehlfeeaaKn
import Derived.Test.YtiiokdeehlfeeaaKb
import Derived.Test.YtiiokdeehlfeeaaKr
import Derived.Test.YtiiokdeehlfeeaaKs
/-
  Structs of ints compared. No program is named here.
-/
namespace Go.MW
section
variable {P : Program} {H : Heap} {σ : List Ent} {s : FS} {x y : Operand} {t : TypeId}
theorem run_part {t : TypeId} {cs : Array Value} {off : Nat} {v : Value} {w : World} (ha : ∀ w, (isAgg t).run P w = .ok false w) (hv : cs[off]? = some v) : (part t cs off).run P w = .ok v w := by
  simp [part, ha w, hv]
theorem run_eqI {d : Nat} {t : TypeId} {a b : Int} {w : World} (hu : ∀ w, (underlying t).run P w = .ok (.int .i64) w) : (Op.equalIn (d + 1) t (I a) (I b)).run P w = .ok (a == b) w := by
  simp [Op.equalIn, hu w]
theorem run_eqS4 {d : Nat} {f0 f1 f2 f3 : Field} {a0 a1 a2 a3 b0 b1 b2 b3 : Int} {w : World} (hu : ∀ w, (underlying t).run P w = .ok (.struct #[f0, f1, f2, f3]) w) (hh : P.stoodInHeld t = false)
    (hf : ∀ f ∈ [f0, f1, f2, f3], f.name ≠ "_" ∧ (∀ w, (underlying f.type).run P w = .ok (.int .i64) w) ∧ (∀ w, (isAgg f.type).run P w = .ok false w)) (o0 : f0.offset = 0) (o1 : f1.offset = 1) (o2 : f2.offset = 2) (o3 : f3.offset = 3) :
    (Op.equalIn (d + 2) t (.agg #[I a0, I a1, I a2, I a3]) (.agg #[I b0, I b1, I b2, I b3])).run P w = .ok (decide (a0 = b0 ∧ a1 = b1 ∧ a2 = b2 ∧ a3 = b3)) w := by
  obtain ⟨n0, u0, g0⟩ := hf f0 (by simp)
  obtain ⟨n1, u1, g1⟩ := hf f1 (by simp)
  obtain ⟨n2, u2, g2⟩ := hf f2 (by simp)
  obtain ⟨n3, u3, g3⟩ := hf f3 (by simp)
  unfold Op.equalIn
  simp only [Sem.run_bind, hu w, Result.andThen]
  simp [hh, n0, n1, n2, n3, o0, o1, o2, o3, part, g0, g1, g2, g3, run_eqI u0, run_eqI u1, run_eqI u2, run_eqI u3]
  by_cases h0 : a0 = b0 <;> by_cases h1 : a1 = b1 <;> by_cases h2 : a2 = b2 <;> by_cases h3 : a3 = b3 <;> simp [h0, h1, h2, h3]
theorem q_neS4 {ty' : TypeId} {f0 f1 f2 f3 : Field} {a0 a1 a2 a3 b0 b1 b2 b3 : Int} (hx : FS.ev s x = some (.agg #[I a0, I a1, I a2, I a3])) (hy : FS.ev s y = some (.agg #[I b0, I b1, I b2, I b3])) (hu : ∀ w, (underlying t).run P w = .ok (.struct #[f0, f1, f2, f3]) w) (hh : P.stoodInHeld t = false) (hg : P.eqGuardType P.depth t = false)
    (hf : ∀ f ∈ [f0, f1, f2, f3], f.name ≠ "_" ∧ (∀ w, (underlying f.type).run P w = .ok (.int .i64) w) ∧ (∀ w, (isAgg f.type).run P w = .ok false w)) (o0 : f0.offset = 0 := by rfl) (o1 : f1.offset = 1 := by rfl) (o2 : f2.offset = 2 := by rfl) (o3 : f3.offset = 3 := by rfl) :
    QJ P H σ s (.binOp .neq t x y ty') (.bool (!decide (a0 = b0 ∧ a1 = b1 ∧ a2 = b2 ∧ a3 = b3))) :=
  ⟨fun _ => by simp, fun a w _ _ _ _ _ ha _ => by
    have h2 : (Op.equal t (.agg #[I a0, I a1, I a2, I a3]) (.agg #[I b0, I b1, I b2, I b3])).run P w = .ok (decide (a0 = b0 ∧ a1 = b1 ∧ a2 = b2 ∧ a3 = b3)) w := run_eqS4 (d := 9998) hu hh hf o0 o1 o2 o3
    have hg' : (eqGuard .neq t x y (.agg #[I a0, I a1, I a2, I a3]) (.agg #[I b0, I b1, I b2, I b3])).run P w = .ok () w := by simp [eqGuard, hg]
    simp only [execOp, ha.ev hx, ha.ev hy, Sem.run_bind, hg', Result.andThen]
    simp [binOp, h2]⟩
end
end Go.MW

/-
  Proofs of greatest sums: which are accepted; those that flows make are. No program is named here.
-/
namespace Go.MW
def gu (us : List Use) (i : Nat) : Use := us.getD i ⟨0, 0⟩
theorem gu_get {us : List Use} {i : Nat} (h : i < us.length) : us[i]? = some (gu us i) := by simp [gu, List.getD, List.getElem?_eq_getElem h]
def gl (ls : List Lim) (i : Nat) : Lim := ls.getD i ⟨0, 0, 0, 0⟩
theorem gl_get {ls : List Lim} {i : Nat} (h : i < ls.length) : ls[i]? = some (gl ls i) := by simp [gl, List.getD, List.getElem?_eq_getElem h]
/-- the limit of a use -/
def ul (s : Syst) (us : List Use) (i : Nat) : Lim := gl s.lims (gu us i).l.toNat
def timesTo (us : List Use) (k : Nat) : Int := sumTo (fun i => (gu us i).t) k
def boundTo (s : Syst) (us : List Use) (k : Nat) : Int := sumTo (fun i => (gu us i).t * (ul s us i).M) k
def intoTo (s : Syst) (us : List Use) (k v : Nat) : Int := sumTo (fun i => (gu us i).t * (ind (ul s us i).B.toNat v - ind (ul s us i).A.toNat v)) k
/-- what one use has to be -/
structure UseOk (s : Syst) (us : List Use) (i : Nat) : Prop where
  l0 : 0 ≤ (gu us i).l
  l1 : (gu us i).l < s.lims.length
  t0 : 1 ≤ (gu us i).t
  t1 : (gu us i).t ≤ 3600000000000
  ord : 0 < i → (gu us (i - 1)).l < (gu us i).l
structure ProofOk (s : Syst) (w : List Int) (n : Int) (us : List Use) : Prop where
  len : us.length ≤ 400
  use : ∀ i < us.length, UseOk s us i
  tot : timesTo us us.length ≤ 230400000000000
  into : ∀ v, 1 ≤ v → v < s.n → intoTo s us us.length v = gi w v
  bound : boundTo s us us.length = n
inductive ProofR (s : Syst) (w : List Int) (n : Int) (us : List Use) : Int → Prop
  | ask (h : askErr s w ≠ 0) : ProofR s w n us (askErr s w)
  | bad (h : askErr s w = 0) (h1 : ¬ ProofOk s w n us) : ProofR s w n us 24
  | ok (h : askErr s w = 0) (h1 : ProofOk s w n us) : ProofR s w n us 0
theorem ProofR.uniq {s : Syst} {w : List Int} {n : Int} {us : List Use} {e f : Int} (h : ProofR s w n us e) (g : ProofR s w n us f) : e = f := by
  cases h <;> cases g <;> first | rfl | contradiction
variable {s : Syst} {w : List Int} {n : Int} {us : List Use}
theorem gu_out {i : Nat} (h : us.length ≤ i) : gu us i = ⟨0, 0⟩ := by simp [gu, List.getD, List.getElem?_eq_none h]
theorem use_pos (h : ∀ i < us.length, UseOk s us i) (i : Nat) : 0 ≤ (gu us i).t := by
  by_cases hi : i < us.length
  · have := (h i hi).t0; omega
  · rw [gu_out (by omega)]; exact Int.le_refl _
theorem times_le (h : ∀ i < us.length, UseOk s us i) {k : Nat} (hk : k ≤ us.length) : timesTo us k ≤ timesTo us us.length := sumTo_mono (fun v => use_pos h v) hk
theorem times_step (k : Nat) : timesTo us (k + 1) = timesTo us k + (gu us k).t := rfl
theorem times_pos {k : Nat} (h : ∀ i < k, UseOk s us i) : 0 ≤ timesTo us k := sumTo_nonneg fun i hi => by have := (h i hi).t0; omega
theorem sumTo_absle {f g : Nat → Int} : ∀ {k : Nat}, (∀ i < k, -(g i) ≤ f i ∧ f i ≤ g i) → -(sumTo g k) ≤ sumTo f k ∧ sumTo f k ≤ sumTo g k
  | 0, _ => by simp [sumTo]
  | k + 1, h => by
    have h1 := sumTo_absle (k := k) (fun i hi => h i (by omega))
    have h2 := h k (by omega)
    simp only [sumTo]; omega
theorem into_bd {k : Nat} (h : ∀ i < k, UseOk s us i) (v : Nat) : -(timesTo us k) ≤ intoTo s us k v ∧ intoTo s us k v ≤ timesTo us k := sumTo_absle fun i hi => by
  have ht := (h i hi).t0
  have : ind (ul s us i).B.toNat v - ind (ul s us i).A.toNat v = 0 ∨ ind (ul s us i).B.toNat v - ind (ul s us i).A.toNat v = 1 ∨ ind (ul s us i).B.toNat v - ind (ul s us i).A.toNat v = -1 := by
    unfold ind; split <;> split <;> simp
  rcases this with e | e | e <;> rw [e] <;> omega
theorem bound_bd {k : Nat} (hok : s.Ok) (h : ∀ i < k, UseOk s us i) : -(20000 * timesTo us k) ≤ boundTo s us k ∧ boundTo s us k ≤ 20000 * timesTo us k := by
  have := sumTo_absle (f := fun i => (gu us i).t * (ul s us i).M) (g := fun i => 20000 * (gu us i).t) (k := k) fun i hi => by
    have hu := h i hi
    have ht := hu.t0
    have hl := hok.lim (ul s us i) (List.mem_of_getElem? (gl_get (by have := hu.l0; have := hu.l1; omega)))
    have hM := hl.2.2.2.1
    constructor
    · have : (gu us i).t * -20000 ≤ (gu us i).t * (ul s us i).M := Int.mul_le_mul_of_nonneg_left hM.1 (by omega)
      omega
    · have : (gu us i).t * (ul s us i).M ≤ (gu us i).t * 20000 := Int.mul_le_mul_of_nonneg_left hM.2 (by omega)
      omega
  rw [sumTo_mul] at this
  exact this
/-! ### what a flow shows is accepted -/
theorem gu_app (us : List Use) (u : Use) (i : Nat) : gu (us ++ [u]) i = if i < us.length then gu us i else if i = us.length then u else ⟨0, 0⟩ := by
  unfold gu List.getD
  by_cases h : i < us.length
  · rw [if_pos h, List.getElem?_append_left h]
  · rw [if_neg h, List.getElem?_append_right (by omega)]
    by_cases e : i = us.length
    · subst e; simp
    · rw [if_neg e, List.getElem?_eq_none (by simp; omega)]; rfl
theorem sum_snoc (f : Use → Int) (us : List Use) (u : Use) : sumTo (fun i => f (gu (us ++ [u]) i)) (us ++ [u]).length = sumTo (fun i => f (gu us i)) us.length + f u := by
  rw [List.length_append, List.length_singleton]
  simp only [sumTo]
  rw [sumTo_congr (g := fun i => f (gu us i)) (fun v hv => by rw [gu_app, if_pos hv]), gu_app, if_neg (by omega), if_pos rfl]
theorem uses_at (ts : List Int) : ∀ (k i : Nat), i < (usesTo ts k).length → ∃ j, j < k ∧ gu (usesTo ts k) i = ⟨j, gi ts j⟩ ∧ 0 < gi ts j
  | 0, i, h => by simp [usesTo] at h
  | k + 1, i, h => by
    unfold usesTo at h ⊢
    by_cases hp : 0 < gi ts k
    · rw [if_pos hp] at h ⊢
      rw [gu_app]
      by_cases hi : i < (usesTo ts k).length
      · rw [if_pos hi]
        obtain ⟨j, h1, h2, h3⟩ := uses_at ts k i hi
        exact ⟨j, by omega, h2, h3⟩
      · simp only [List.length_append, List.length_singleton] at h
        rw [if_neg hi, if_pos (by omega)]
        exact ⟨k, by omega, rfl, hp⟩
    · rw [if_neg hp, List.append_nil] at h ⊢
      obtain ⟨j, h1, h2, h3⟩ := uses_at ts k i h
      exact ⟨j, by omega, h2, h3⟩
theorem uses_ord (ts : List Int) : ∀ (k i : Nat), 0 < i → i < (usesTo ts k).length → (gu (usesTo ts k) (i - 1)).l < (gu (usesTo ts k) i).l
  | 0, i, _, h => by simp [usesTo] at h
  | k + 1, i, h0, h => by
    unfold usesTo at h ⊢
    by_cases hp : 0 < gi ts k
    · rw [if_pos hp] at h ⊢
      simp only [List.length_append, List.length_singleton] at h
      rw [gu_app, gu_app, if_pos (by omega)]
      by_cases hi : i < (usesTo ts k).length
      · rw [if_pos hi]; exact uses_ord ts k i h0 hi
      · rw [if_neg hi, if_pos (by omega)]
        obtain ⟨j, h1, h2, h3⟩ := uses_at ts k (i - 1) (by omega)
        rw [h2]; show (j : Int) < (k : Int); omega
    · rw [if_neg hp, List.append_nil] at h ⊢
      exact uses_ord ts k i h0 h
theorem uses_sum (ts : List Int) (hnn : ∀ i, 0 ≤ gi ts i) (G : Nat → Int) : ∀ k, sumTo (fun i => (gu (usesTo ts k) i).t * G (gu (usesTo ts k) i).l.toNat) (usesTo ts k).length = sumTo (fun i => gi ts i * G i) k
  | 0 => by simp [usesTo, sumTo]
  | k + 1 => by
    have ih := uses_sum ts hnn G k
    rw [show sumTo (fun i => gi ts i * G i) (k + 1) = sumTo (fun i => gi ts i * G i) k + gi ts k * G k from rfl, ← ih]
    rw [usesTo]
    by_cases hp : 0 < gi ts k
    · rw [if_pos hp, sum_snoc (fun u => u.t * G u.l.toNat)]; rfl
    · rw [if_neg hp, List.append_nil]
      have : gi ts k = 0 := by have := hnn k; omega
      rw [this]; omega
theorem dot_sum {g : Arc → Int} : ∀ {es : List Arc} {ts : List Int}, ts.length = es.length → dot es ts g = sumTo (fun i => gi ts i * g (ga es i)) es.length
  | [], [], _ => rfl
  | x :: es, z :: ts, h => by
    have ih := dot_sum (g := g) (es := es) (ts := ts) (by simpa using h)
    simp only [dot]
    rw [ih, List.length_cons, sumTo_shift]
    rfl
  | [], _ :: _, h => by simp at h
  | _ :: _, [], h => by simp at h
theorem arc_at (s : Syst) {i : Nat} (h : i < s.lims.length) : ga s.arcs i = (gl s.lims i).arc i := by
  have := arcsOf_get (gl_get h)
  unfold ga List.getD
  show ((arcsOf s.lims)[i]?).getD _ = _
  rw [this]; rfl
theorem flow_proof {ts : List Int} (hok : s.Ok) (h : FlowOk s.n s.arcs (wtOf w s.n) ts) : ProofOk s w (dot s.arcs ts (·.c)) (usesTo ts ts.length) := by
  have hal : s.arcs.length = s.lims.length := arcsOf_length _
  have hlt := h.lt
  have hnn : ∀ i, 0 ≤ gi ts i := fun i => by
    by_cases hi : i < ts.length
    · exact (h.nn i (by omega)).1
    · have : gi ts i = 0 := by simp [gi, List.getD, List.getElem?_eq_none (by omega : ts.length ≤ i)]
      omega
  have hFF : FF = 3600000000000 := rfl
  have hull := hok.len
  refine ⟨by have := usesTo_length ts ts.length; omega, fun i hi => ?_, ?_, fun v h1 h2 => ?_, ?_⟩
  · obtain ⟨j, h1, h2, h3⟩ := uses_at ts ts.length i hi
    have h4 := (h.nn j (by omega)).2
    exact ⟨by rw [h2]; show (0 : Int) ≤ (j : Int); omega, by rw [h2]; show (j : Int) < _; omega, by rw [h2]; show (1 : Int) ≤ gi ts j; omega, by rw [h2]; show gi ts j ≤ _; omega, fun h0 => uses_ord ts ts.length i h0 hi⟩
  · have h1 := uses_sum ts hnn (fun _ => 1) ts.length
    have h2 := h.tot
    rw [dot_sum hlt, ← hlt] at h2
    unfold timesTo
    rw [sumTo_congr (g := fun i => (gu (usesTo ts ts.length) i).t * (fun _ => 1) (gu (usesTo ts ts.length) i).l.toNat) (fun v _ => by simp), h1]
    omega
  · have h3 := uses_sum ts hnn (fun i => ind (gl s.lims i).B.toNat v - ind (gl s.lims i).A.toNat v) ts.length
    unfold intoTo ul
    rw [h3]
    have h4 := h.full v h2
    unfold net at h4
    rw [dot_sum hlt, ← hlt] at h4
    rw [sumTo_congr (g := fun i => gi ts i * (ind (ga s.arcs i).t v - ind (ga s.arcs i).f v)) (fun i hi => by rw [arc_at s (by omega)]; rfl), h4]
    unfold wtOf
    rw [if_neg (by omega)]
  · have h3 := uses_sum ts hnn (fun i => (gl s.lims i).M) ts.length
    unfold boundTo ul
    rw [h3, dot_sum hlt, ← hlt]
    exact sumTo_congr fun i hi => by rw [arc_at s (by omega)]; rfl
end Go.MW

/-
  Walks: equal systems; the pairs of hulls, by the program and by the reference; the reference's greatest widths.
-/
namespace Go.Proofs.Ytiiokdeehlfeeaa
open Go.MW
set_option maxRecDepth 100000 in
theorem lim_stood : Try.prog.stoodInHeld 100 = false := by kernel_rfl
set_option maxRecDepth 100000 in
theorem lim_guard : Try.prog.eqGuardType Try.prog.depth 100 = false := by kernel_rfl
theorem ref02_SameSystem_spec {H : Heap} {w : World} {σ : List Ent} {v1 v2 : Value} {s1 s2 : Syst} (hs : St H w σ) (h1 : RSy H v1 s1) (h2 : RSy H v2 s2) : Cl Try.prog 30 [v1, v2] w fun v w' => ∃ b, v = .bool b ∧ (b = true ↔ (s1.many = s2.many ∧ s1.lims = s2.lims)) ∧ St H w' σ := by
  obtain ⟨u1, rfl, h1⟩ := h1
  obtain ⟨u2, rfl, h2⟩ := h2
  obtain ⟨a1, c1, rfl⟩ := RL.shape h1
  obtain ⟨a2, c2, rfl⟩ := RL.shape h2
  have hl1 := (RS.len (RS.recap h1 (Nat.le_refl _) (cap' := s1.lims.length))).2.2
  refine Cl.of Try.func30 rfl Try.ntmps30 (by simp) (args_cons (k := 0) rfl (args_cons (k := 1) rfl (args0))) ?_
  refine .regSeq ?_
  refine .o (.box hs rfl rfl ?_); intro b2 w hs
  refine .o (.box hs rfl rfl ?_); intro b3 w hs
  refine .q hs (q_assign rfl) ?_
  refine .nil ?_
  refine .seq ?_
  refine .regSeq ?_
  first | refine .q hs (q_fa0 rfl fa_api_System_0) ?_ | refine .q hs (q_fa rfl fa_api_System_0) ?_
  first | refine .q hs (q_load rfl Try.isAgg3) ?_ | refine .q hs (q_loadR rfl Try.isAgg3 (by assumption)) ?_
  first | refine .q hs (q_fa0 rfl fa_api_System_0) ?_ | refine .q hs (q_fa rfl fa_api_System_0) ?_
  first | refine .q hs (q_load rfl Try.isAgg3) ?_ | refine .q hs (q_loadR rfl Try.isAgg3 (by assumption)) ?_
  refine .q hs (q_neq rfl rfl) ?_
  refine .q hs (q_move rfl) ?_
  refine .bifN (t' := 11) rfl (fun hb11 => ?_) (fun hb11 => ?_)
  · refine .gFs 7 5 false rfl rfl rfl ?_
    refine .q hs (q_pickT rfl rfl) ?_
    refine .nil ?_
    refine (.condT rfl rfl ?_)
    refine .regSeq ?_
    refine .q hs (q_assign rfl) ?_
    refine .nil ?_
    refine .ret (rT (Fin.ret1 Try.results30 rfl ?_))
    exact ⟨false, rfl, ⟨fun h => (by cases h), fun h => (hb11 h.1).elim⟩, hs.out⟩
  · refine .gT rfl rfl ?_
    first | refine .q hs (q_fa0 rfl fa_api_System_1) ?_ | refine .q hs (q_fa rfl fa_api_System_1) ?_
    refine .gT rfl rfl ?_
    first | refine .q hs (q_load rfl Try.isAgg30) ?_ | refine .q hs (q_loadR rfl Try.isAgg30 (by assumption)) ?_
    refine .gT rfl rfl ?_
    first | refine .q hs (q_len rfl Try.runUnderlying30) ?_ | refine .q hs (q_lenR (by assumption) rfl Try.runUnderlying30) ?_ | refine .q hs (q_lenI (by assumption) rfl Try.runUnderlying30) ?_
    refine .gT rfl rfl ?_
    first | refine .q hs (q_fa0 rfl fa_api_System_1) ?_ | refine .q hs (q_fa rfl fa_api_System_1) ?_
    refine .gT rfl rfl ?_
    first | refine .q hs (q_load rfl Try.isAgg30) ?_ | refine .q hs (q_loadR rfl Try.isAgg30 (by assumption)) ?_
    refine .gT rfl rfl ?_
    first | refine .q hs (q_len rfl Try.runUnderlying30) ?_ | refine .q hs (q_lenR (by assumption) rfl Try.runUnderlying30) ?_ | refine .q hs (q_lenI (by assumption) rfl Try.runUnderlying30) ?_
    refine .gT rfl rfl ?_
    refine .q hs (q_neq rfl rfl) ?_
    refine .q hs (q_pickF rfl rfl) ?_
    refine .nil ?_
    refine (.condN rfl (fun hc19 => ?_) (fun hc19 => ?_))
    · refine .regSeq ?_
      refine .q hs (q_assign rfl) ?_
      refine .nil ?_
      refine .ret (rT (Fin.ret1 Try.results30 rfl ?_))
      exact ⟨false, rfl, ⟨fun h => (by cases h), fun h => (hc19 (by rw [h.2])).elim⟩, hs.out⟩
    · refine .skip ?_
      refine nT ?_
      refine .seq ?_
      refine .regSeq ?_
      first | refine .q hs (q_fa0 rfl fa_api_System_1) ?_ | refine .q hs (q_fa rfl fa_api_System_1) ?_
      first | refine .q hs (q_load rfl Try.isAgg30) ?_ | refine .q hs (q_loadR rfl Try.isAgg30 (by assumption)) ?_
      first | refine .q hs (q_len rfl Try.runUnderlying30) ?_ | refine .q hs (q_lenR (by assumption) rfl Try.runUnderlying30) ?_ | refine .q hs (q_lenI (by assumption) rfl Try.runUnderlying30) ?_
      refine .q hs (q_move rfl) ?_
      refine .nil ?_
      refine .for (N := s1.lims.length) (J := fun k fr w => fr = [(2, .pointer (some ⟨b2, 0, none⟩)), (3, .pointer (some ⟨b3, 0, none⟩))] ∧ (∀ j < k, s1.lims[j]? = s2.lims[j]?) ∧ St H w (.blk b3 [I s2.many, .slice a2 s2.lims.length c2] :: .blk b2 [I s1.many, .slice a1 s1.lims.length c1] :: σ)) (by omega) ?_ ?_ ?_
      · exact .mk ⟨rfl, fun j hj => by omega, hs⟩
      · rintro k fr w hk ⟨rfl, hno, hs⟩
        obtain ⟨x, hx⟩ := nth (l := s1.lims) hk
        obtain ⟨y, hy⟩ := nth (l := s2.lims) (k := k) (by omega)
        refine .block ?_
        refine .regSeq ?_
        refine .q hs (q_move rfl) ?_
        refine .q hs (q_assign rfl) ?_
        refine .nil ?_
        refine .seq (.draw mix rfl hs ?_); intro w hs
        first | refine .p (i := 0) rfl (by kernel_rfl) .none (q_fa0 rfl fa_api_System_1) ?_ | refine .p (i := 0) rfl (by kernel_rfl) .none (q_fa rfl fa_api_System_1) ?_
        first | refine .load (i := 1) hs rfl (by kernel_rfl) .none rfl Try.isAgg30 ?_ | refine .r (i := 1) hs rfl (by kernel_rfl) .none (q_loadR rfl Try.isAgg30 (by assumption)) ?_
        refine .p (i := 2) rfl (by kernel_rfl) .none (q_move rfl) ?_
        refine .ixX (enc := Lim.c) (i := 3) hs rfl (by kernel_rfl) .none h1 rfl rfl Try.runUnderlying30 Try.sizeOf100 hx rfl ?_; intro b29 o29 hc29
        refine .r (i := 4) hs rfl (by kernel_rfl) .none (q_loadsR (vs := x.c) rfl Try.isAgg100 Try.sizeOf100 hc29) ?_
        first | refine .p (i := 5) rfl (by kernel_rfl) .none (q_fa0 rfl fa_api_System_1) ?_ | refine .p (i := 5) rfl (by kernel_rfl) .none (q_fa rfl fa_api_System_1) ?_
        first | refine .load (i := 6) hs rfl (by kernel_rfl) .none rfl Try.isAgg30 ?_ | refine .r (i := 6) hs rfl (by kernel_rfl) .none (q_loadR rfl Try.isAgg30 (by assumption)) ?_
        refine .p (i := 7) rfl (by kernel_rfl) .none (q_move rfl) ?_
        refine .ixX (enc := Lim.c) (i := 8) hs rfl (by kernel_rfl) .none h2 rfl rfl Try.runUnderlying30 Try.sizeOf100 hy rfl ?_; intro b34 o34 hc34
        refine .r (i := 9) hs rfl (by kernel_rfl) .none (q_loadsR (vs := y.c) rfl Try.isAgg100 Try.sizeOf100 hc34) ?_
        refine .p (i := 10) rfl (by kernel_rfl) .none (q_neS4 rfl rfl Try.runUnderlying100 lim_stood lim_guard (fun f hf => by
          simp only [List.mem_cons, List.not_mem_nil, or_false] at hf
          rcases hf with rfl | rfl | rfl | rfl <;> exact ⟨by decide, Try.runUnderlying3, Try.isAgg3⟩)) ?_
        refine .done (by kernel_rfl) hs ?_
        refine (.cond rfl (fun hc36 => ?_) (fun hc36 => ?_))
        · refine .regSeq ?_
          refine .q hs (q_assign rfl) ?_
          refine .nil ?_
          refine .ret (rB (rT (rB (rT (Fin.ret1 Try.results30 rfl ?_)))))
          exact ⟨false, rfl, ⟨fun h => (by cases h), fun h => by
            rw [h.2, hy] at hx
            cases hx
            simp at hc36⟩, hs.out⟩
        · refine .skip ?_
          refine nB (nT ?_)
          exact .mk ⟨rfl, fun j hj => by
            by_cases e : j = k
            · subst e
              have h4 : x.A = y.A ∧ x.B = y.B ∧ x.M = y.M ∧ x.S = y.S := by simpa using hc36
              rw [hx, hy]
              cases x; cases y
              obtain ⟨rfl, rfl, rfl, rfl⟩ := h4
              rfl
            · exact hno j (by omega), hs⟩
      · rintro fr w ⟨rfl, hno, hs⟩
        refine nT ?_
        refine .regSeq ?_
        refine .q hs (q_assign rfl) ?_
        refine .nil ?_
        refine .ret (Fin.ret1 Try.results30 rfl ?_)
        exact ⟨true, rfl, ⟨fun _ => ⟨by omega, List.ext_getElem? fun j => by
          by_cases hj : j < s1.lims.length
          · exact hno j hj
          · rw [List.getElem?_eq_none (by omega), List.getElem?_eq_none (by omega)]⟩, fun _ => rfl⟩, hs.out⟩
theorem ref09_moved_spec {H : Heap} {w : World} {σ : List Ent} {u n : Int} (hs : St H w σ) (hn : 0 ≤ n ∧ n ≤ 64) (hx : 0 ≤ u ∧ u ≤ 64) : Cl Try.prog 188 [I u, I n] w fun v w' => v = I (movedI n u) ∧ St H w' σ := by
  refine Cl.of Try.func188 rfl Try.ntmps188 (by simp) (args_cons (k := 0) rfl (args_cons (k := 1) rfl (args0))) ?_
  refine .regSeq ?_
  refine .q hs (q_assign rfl) ?_
  refine .nil ?_
  refine .seq ?_
  refine .regSeq ?_
  refine .q hs (q_move rfl) ?_
  refine .q hs (q_eql rfl rfl) ?_
  refine .nil ?_
  refine (.condD rfl (fun hc6 => ?_) (fun hc6 => ?_))
  · refine .regSeq ?_
    refine .q hs (q_assign rfl) ?_
    refine .nil ?_
    refine .ret (rT (Fin.ret1 Try.results188 rfl ?_))
    exact ⟨by unfold movedI; rw [if_pos hc6], hs⟩
  · refine .skip ?_
    refine nT ?_
    refine .regSeq ?_
    refine .q hs (q_move rfl) ?_
    refine .q hs (q_move rfl) ?_
    first | refine .q hs (q_addF rfl rfl (by omega)) ?_ | refine .q hs (q_addU rfl rfl ⟨by omega, by omega⟩) ?_ | refine .q hs (q_add rfl rfl) ?_
    refine .q hs (q_assign rfl) ?_
    refine .nil ?_
    refine .ret (Fin.ret1 Try.results188 rfl ?_)
    exact ⟨by unfold movedI; rw [if_neg hc6], hs⟩
set_option maxHeartbeats 4000000 in
theorem ref09_pairs_spec {H : Heap} {w : World} {σ : List Ent} {v vl : Value} {a : Quest} {l : List Prb} (hs : St H w σ) (hr : RAsk H v a) (hp : RPs H vl l) (hok : AskOk a) (hlen : l.length ≤ 8) (hin : ∀ p ∈ l, PrbIn a p) :
    Cl Try.prog 108 [v, vl] w fun u w' => ∃ H1 vp vw, HLe H H1 ∧ u = .tuple #[.agg #[I (2 * a.sys.many), vp], vw] ∧ RL H1 vp (dblS a l).lims ∧ RI H1 vw (dblW a.ws) ∧ St H1 w' σ := by
  obtain ⟨ul, uw, rfl, hl, hw⟩ := hr
  obtain ⟨al, cpl, rfl⟩ := RL.shape hl
  obtain ⟨aw, cw, rfl⟩ := RI.shape hw
  obtain ⟨ap, cpp, rfl⟩ := RPs.shape hp
  have hm0 := hok.ok.m0
  have hm1 := hok.many
  have hll := hok.lims
  obtain ⟨n, hn⟩ := Int.eq_ofNat_of_zero_le hm0
  have hwl : a.ws.length = n + 1 := by rw [hok.wl]; simp [Syst.n, hn]
  refine Cl.of Try.func108 rfl Try.ntmps108 (by simp) (args_cons (k := 0) rfl (args_cons (k := 1) rfl (args0))) ?_
  refine .regSeq ?_
  refine .o (.box hs rfl rfl ?_); intro b2 w hs
  refine .o (.alloc hs Try.zeroValue32 rfl ?_); intro b4 w hs
  refine .q hs (q_assign rfl) ?_
  refine .nil ?_
  refine .regSeq ?_
  first | refine .q hs (q_fa0 rfl fa_api_Ask_0) ?_ | refine .q hs (q_fa rfl fa_api_Ask_0) ?_
  first | refine .q hs (q_fa0 rfl fa_api_System_0) ?_ | refine .q hs (q_fa rfl fa_api_System_0) ?_
  first | refine .q hs (q_load rfl Try.isAgg3) ?_ | refine .q hs (q_loadR rfl Try.isAgg3 (by assumption)) ?_
  refine .q hs (q_assign rfl) ?_
  refine .nil ?_
  refine .regSeq ?_
  refine .q hs (q_move rfl) ?_
  first | refine .q hs (q_mulF rfl rfl (by omega)) ?_ | refine .q hs (q_mulU rfl rfl ⟨by omega, by omega⟩) ?_ | refine .q hs (q_mul rfl rfl) ?_
  refine .o (.buildSlice (cells := []) hs bls_sl_api_Limit_0 rfl rfl ?_); intro b20 w hs
  first | refine .q hs (q_fa0 rfl fa_api_Ask_0) ?_ | refine .q hs (q_fa rfl fa_api_Ask_0) ?_
  first | refine .q hs (q_fa0 rfl fa_api_System_1) ?_ | refine .q hs (q_fa rfl fa_api_System_1) ?_
  first | refine .q hs (q_load rfl Try.isAgg30) ?_ | refine .q hs (q_loadR rfl Try.isAgg30 (by assumption)) ?_
  refine .o (.append (xs := []) hs app_sl_api_Limit_api_Limit rfl rfl (.full (len := 0) rfl) (.rs hl) (Lims_cell a.sys.lims) (fun l' h => by simp at h; obtain rfl : l' = 0 := (by omega); rw [List.length_map]; omega) ?_); intro v24 en24 w hO hs
  rw [List.nil_append] at hO
  change OwnS 4 v24 (Lims a.sys.lims) en24 at hO
  obtain ⟨a24, l24, c24, rfl, h24⟩ := hO.shape
  refine .q hs (q_build (cells := [_, _]) bld_api_System rfl) ?_
  refine .o (.alloc hs Try.zeroValue32 rfl ?_); intro b7 w hs
  refine .o (.stores (vs := [_, _]) hs rfl rfl Try.sizeOf32 ?_); intro w hs
  refine .nil ?_
  refine .seq ?_
  refine .regSeq ?_
  refine .q hs (q_assign rfl) ?_
  refine .nil ?_
  refine .block ?_
  refine .loop (fun k : Nat => ⟨115, [], [(8, I (k : Int)), (6, I a.sys.many), (7, .pointer (some ⟨b7, 0, none⟩)), (2, .pointer (some ⟨b2, 0, none⟩)), (4, .pointer (some ⟨b4, 0, none⟩)), (1, .slice ap l.length cpp)]⟩)
    (fun k w => k ≤ a.sys.lims.length ∧ ∃ vp en, OwnS 4 vp (Lims (a.sys.lims ++ (a.sys.lims.take k).map (Lim.mv a.sys.many))) en ∧ St H w (.blk b7 [I (2 * a.sys.many), vp] :: .blk b4 [I 0, .slice none 0 0] :: .blk b2 [I a.sys.many, .slice al a.sys.lims.length cpl, .slice aw a.ws.length cw, I a.width] :: en :: σ))
    (fun k => a.sys.lims.length - k) 0 (by repeat (first | exact .nil rfl rfl | refine .cons rfl ?_))
    ⟨by omega, _, _, by simpa using hO, hs.sub (by repeat (first | exact Sub.refl _ | constructor | apply Sub.weaken))⟩ ?_
  clear hO hs h24
  rintro k w ⟨hk, vp, en, hO, hs⟩
  obtain ⟨avp, lvp, cvp, rfl, hlvp⟩ := hO.shape
  refine .seq ?_
  refine .regSeq ?_
  refine .q hs (q_move rfl) ?_
  first | refine .q hs (q_fa0 rfl fa_api_Ask_0) ?_ | refine .q hs (q_fa rfl fa_api_Ask_0) ?_
  first | refine .q hs (q_fa0 rfl fa_api_System_1) ?_ | refine .q hs (q_fa rfl fa_api_System_1) ?_
  first | refine .q hs (q_load rfl Try.isAgg30) ?_ | refine .q hs (q_loadR rfl Try.isAgg30 (by assumption)) ?_
  first | refine .q hs (q_len rfl Try.runUnderlying30) ?_ | refine .q hs (q_lenR (by assumption) rfl Try.runUnderlying30) ?_ | refine .q hs (q_lenI (by assumption) rfl Try.runUnderlying30) ?_
  refine .q hs (q_lss rfl rfl) ?_
  refine .nil ?_
  refine (.condD rfl (fun hc31 => ?_) (fun hc31 => ?_))
  · refine .skip ?_
    refine nT ?_
    refine .seq ?_
    refine .block ?_
    refine .regSeq ?_
    obtain ⟨x, hx⟩ := nth (l := a.sys.lims) (k := k) (by omega)
    have hxl := hok.ok.lim x (List.mem_of_getElem? hx)
    first | refine .q hs (q_fa0 rfl fa_api_Ask_0) ?_ | refine .q hs (q_fa rfl fa_api_Ask_0) ?_
    first | refine .q hs (q_fa0 rfl fa_api_System_1) ?_ | refine .q hs (q_fa rfl fa_api_System_1) ?_
    first | refine .q hs (q_load rfl Try.isAgg30) ?_ | refine .q hs (q_loadR rfl Try.isAgg30 (by assumption)) ?_
    refine .q hs (q_move rfl) ?_
    refine .ixX (enc := Lim.c) hs hl rfl rfl Try.runUnderlying30 Try.sizeOf100 hx rfl ?_; intro b38 o38 hc38
    refine .q hs (q_loadsR (vs := x.c) rfl Try.isAgg100 Try.sizeOf100 hc38) ?_
    refine .o (.alloc hs Try.zeroValue100 rfl ?_); intro b9 w hs
    refine .o (.stores (vs := x.c) hs rfl rfl Try.sizeOf100 ?_); intro w hs
    refine .nil ?_
    refine .regSeq ?_
    first | refine .q hs (q_fa0 rfl fa_api_Limit_0) ?_ | refine .q hs (q_fa rfl fa_api_Limit_0) ?_
    first | refine .q hs (q_load rfl Try.isAgg3) ?_ | refine .q hs (q_loadR rfl Try.isAgg3 (by assumption)) ?_
    refine .q hs (q_move rfl) ?_
    refine .o (.call Try.call188 rfl (ref09_moved_spec hs (by omega) (by omega)) ?_); rintro _ w ⟨rfl, hs⟩
    first | refine .q hs (q_fa0 rfl fa_api_Limit_0) ?_ | refine .q hs (q_fa rfl fa_api_Limit_0) ?_
    refine .o (.store hs rfl rfl Try.sizeOf3 ?_); intro w hs
    refine .nil ?_
    refine .regSeq ?_
    first | refine .q hs (q_fa0 rfl fa_api_Limit_1) ?_ | refine .q hs (q_fa rfl fa_api_Limit_1) ?_
    first | refine .q hs (q_load rfl Try.isAgg3) ?_ | refine .q hs (q_loadR rfl Try.isAgg3 (by assumption)) ?_
    refine .q hs (q_move rfl) ?_
    refine .o (.call Try.call188 rfl (ref09_moved_spec hs (by omega) (by omega)) ?_); rintro _ w ⟨rfl, hs⟩
    first | refine .q hs (q_fa0 rfl fa_api_Limit_1) ?_ | refine .q hs (q_fa rfl fa_api_Limit_1) ?_
    refine .o (.store hs rfl rfl Try.sizeOf3 ?_); intro w hs
    refine .nil ?_
    refine .region ?_
    first | refine .q hs (q_fa0 rfl fa_api_System_1) ?_ | refine .q hs (q_fa rfl fa_api_System_1) ?_
    first | refine .q hs (q_load rfl Try.isAgg30) ?_ | refine .q hs (q_loadR rfl Try.isAgg30 (by assumption)) ?_
    refine .q hs (q_loads (vs := (x.mv a.sys.many).c) rfl Try.isAgg100 Try.sizeOf100) ?_
    refine .o (.buildSlice (cells := (x.mv a.sys.many).c) hs bls_sl_api_Limit_1 rfl rfl ?_); intro b53 w hs
    refine .o (.append (ys := (x.mv a.sys.many).c) hs app_sl_api_Limit_api_Limit rfl rfl hO (.own .here rfl rfl) (by simp [Lim.c, Value.oneCell']) (fun l h => by rw [Lims_length] at h; simp at h; omega) ?_); intro v54 en54 w hO2 hs
    obtain ⟨a54, l54, c54, rfl, h54⟩ := hO2.shape
    first | refine .q hs (q_fa0 rfl fa_api_System_1) ?_ | refine .q hs (q_fa rfl fa_api_System_1) ?_
    refine .o (.store hs rfl rfl Try.sizeOf30 ?_); intro w hs
    refine .nil ?_
    refine nB (nT ?_)
    refine .region ?_
    refine .q hs (q_move rfl) ?_
    first | refine .q hs (q_addF rfl rfl (by omega)) ?_ | refine .q hs (q_addU rfl rfl ⟨by omega, by omega⟩) ?_ | refine .q hs (q_add rfl rfl) ?_
    refine .q hs (q_assign rfl) ?_
    refine .nil ?_
    refine nT ?_
    rw [← Lims_one, ← Lims_append, List.append_assoc, show (a.sys.lims.take k).map (Lim.mv a.sys.many) ++ [x.mv a.sys.many] = (a.sys.lims.take (k + 1)).map (Lim.mv a.sys.many) by rw [take_snoc hx]; simp] at hO2
    exact ⟨k + 1, .consI rfl (by push_cast; omega) (by repeat (first | exact .nil rfl rfl | refine .cons rfl ?_)), ⟨by omega, _, _, hO2, hs.sub (by repeat (first | exact Sub.refl _ | constructor | apply Sub.weaken))⟩, by omega⟩
  · refine .exit ?_
    refine xT (xT (xB (nT ?_)))
    refine .seq ?_
    refine .regSeq ?_
    refine .q hs (q_assign rfl) ?_
    refine .nil ?_
    refine .block ?_
    obtain rfl : k = a.sys.lims.length := by omega
    rw [List.take_length] at hO
    refine .loop (fun k : Nat => ⟨115, [], [(10, I (k : Int)), (6, I a.sys.many), (7, .pointer (some ⟨b7, 0, none⟩)), (2, .pointer (some ⟨b2, 0, none⟩)), (4, .pointer (some ⟨b4, 0, none⟩)), (1, .slice ap l.length cpp)]⟩)
      (fun k w => k ≤ l.length ∧ ∃ vp en, OwnS 4 vp (Lims (a.sys.lims ++ a.sys.lims.map (Lim.mv a.sys.many) ++ prbAll a.sys.many 0 (l.take k))) en ∧ St H w (.blk b7 [I (2 * a.sys.many), vp] :: .blk b4 [I 0, .slice none 0 0] :: .blk b2 [I a.sys.many, .slice al a.sys.lims.length cpl, .slice aw a.ws.length cw, I a.width] :: en :: σ))
      (fun k => l.length - k) 0 (by repeat (first | exact .nil rfl rfl | refine .cons rfl ?_))
      ⟨by omega, _, _, by simpa [prbAll] using hO, hs⟩ ?_
    clear hO hs hlvp
    rintro k w ⟨hk, vp, en, hO, hs⟩
    obtain ⟨avp, lvp, cvp, rfl, hlvp⟩ := hO.shape
    refine .seq ?_
    refine .regSeq ?_
    refine .q hs (q_move rfl) ?_
    refine .q hs (q_move rfl) ?_
    first | refine .q hs (q_len rfl Try.runUnderlying35) ?_ | refine .q hs (q_lenR (by assumption) rfl Try.runUnderlying35) ?_ | refine .q hs (q_lenI (by assumption) rfl Try.runUnderlying35) ?_
    refine .q hs (q_lss rfl rfl) ?_
    refine .nil ?_
    refine (.condD rfl (fun hc59 => ?_) (fun hc59 => ?_))
    · refine .skip ?_
      refine nT ?_
      refine .seq ?_
      refine .block ?_
      refine .regSeq ?_
      obtain ⟨x, hx⟩ := nth (l := l) (k := k) (by omega)
      obtain ⟨⟨x1, x2⟩, x3, x4⟩ := hin x (List.mem_of_getElem? hx)
      have hmv : movedI a.sys.many x.u = a.sys.many + x.u := by unfold movedI; rw [if_neg (by omega)]; omega
      refine .q hs (q_move rfl) ?_
      refine .q hs (q_move rfl) ?_
      refine .ixX (enc := Prb.c) hs hp rfl rfl Try.runUnderlying35 Try.sizeOf48 hx rfl ?_; intro b64 o64 hc64
      first | refine .q hs (q_fa0 rfl fa_api_Probe_0) ?_ | refine .q hs (q_fa rfl fa_api_Probe_0) ?_
      refine .q hs (q_loadR rfl Try.isAgg3 (hc64.get 0 rfl)) ?_
      refine .q hs (q_assign rfl) ?_
      refine .nil ?_
      refine .regSeq ?_
      refine .q hs (q_move rfl) ?_
      refine .q hs (q_move rfl) ?_
      refine .ixX (enc := Prb.c) hs hp rfl rfl Try.runUnderlying35 Try.sizeOf48 hx rfl ?_; intro b69 o69 hc69
      first | refine .q hs (q_fa0 rfl fa_api_Probe_1) ?_ | refine .q hs (q_fa rfl fa_api_Probe_1) ?_
      refine .q hs (q_loadR rfl Try.isAgg3 (hc69.get 1 rfl)) ?_
      first | refine .q hs (q_mulF rfl rfl (by omega)) ?_ | refine .q hs (q_mulU rfl rfl ⟨by omega, by omega⟩) ?_ | refine .q hs (q_mul rfl rfl) ?_
      refine .q hs (q_assign rfl) ?_
      refine .nil ?_
      refine .region ?_
      first | refine .q hs (q_fa0 rfl fa_api_System_1) ?_ | refine .q hs (q_fa rfl fa_api_System_1) ?_
      first | refine .q hs (q_load rfl Try.isAgg30) ?_ | refine .q hs (q_loadR rfl Try.isAgg30 (by assumption)) ?_
      refine .q hs (q_move rfl) ?_
      refine .q hs (q_move rfl) ?_
      refine .q hs (q_move rfl) ?_
      first | refine .q hs (q_addF rfl rfl (by omega)) ?_ | refine .q hs (q_addU rfl rfl ⟨by omega, by omega⟩) ?_ | refine .q hs (q_add rfl rfl) ?_
      rw [← hmv]
      refine .q hs (q_move rfl) ?_
      refine .q hs (q_move rfl) ?_
      first | refine .q hs (q_addF rfl rfl (by omega)) ?_ | refine .q hs (q_addU rfl rfl ⟨by omega, by omega⟩) ?_ | refine .q hs (q_add rfl rfl) ?_
      refine .q hs (q_build (cells := [_, _, _, _]) bld_api_Limit rfl) ?_
      refine .q hs (q_move rfl) ?_
      refine .q hs (q_move rfl) ?_
      first | refine .q hs (q_addF rfl rfl (by omega)) ?_ | refine .q hs (q_addU rfl rfl ⟨by omega, by omega⟩) ?_ | refine .q hs (q_add rfl rfl) ?_
      try rw [← hmv]
      refine .q hs (q_move rfl) ?_
      refine .q hs (q_move rfl) ?_
      refine .q hs (q_move rfl) ?_
      first | refine .q hs (q_addF rfl rfl (by omega)) ?_ | refine .q hs (q_addU rfl rfl ⟨by omega, by omega⟩) ?_ | refine .q hs (q_add rfl rfl) ?_
      refine .q hs (q_build (cells := [_, _, _, _]) bld_api_Limit rfl) ?_
      refine .o (.buildSlice (cells := Lims (prbLims a.sys.many k x)) hs bls_sl_api_Limit_2 rfl rfl ?_); intro b91 w hs
      refine .o (.append (ys := Lims (prbLims a.sys.many k x)) hs app_sl_api_Limit_api_Limit rfl rfl hO (.own .here rfl rfl) (Lims_cell _) (fun l h => by rw [Lims_length] at h; simp [prbAll_length] at h; omega) ?_); intro v92 en92 w hO2 hs
      obtain ⟨a92, l92, c92, rfl, h92⟩ := hO2.shape
      first | refine .q hs (q_fa0 rfl fa_api_System_1) ?_ | refine .q hs (q_fa rfl fa_api_System_1) ?_
      refine .o (.store hs rfl rfl Try.sizeOf30 ?_); intro w hs
      refine .nil ?_
      refine nB (nT ?_)
      refine .region ?_
      refine .q hs (q_move rfl) ?_
      first | refine .q hs (q_addF rfl rfl (by omega)) ?_ | refine .q hs (q_addU rfl rfl ⟨by omega, by omega⟩) ?_ | refine .q hs (q_add rfl rfl) ?_
      refine .q hs (q_assign rfl) ?_
      refine .nil ?_
      refine nT ?_
      rw [← Lims_append, List.append_assoc, show prbAll a.sys.many 0 (l.take k) ++ prbLims a.sys.many k x = prbAll a.sys.many 0 (l.take (k + 1)) by rw [take_snoc hx, prbAll_snoc, Nat.zero_add, List.length_take]; congr 2; omega] at hO2
      exact ⟨k + 1, .consI rfl (by push_cast; omega) (by repeat (first | exact .nil rfl rfl | refine .cons rfl ?_)), ⟨by omega, _, _, hO2, hs.sub (by repeat (first | exact Sub.refl _ | constructor | apply Sub.weaken))⟩, by omega⟩
    · refine .exit ?_
      refine xT (xT (xB (nT ?_)))
      refine .regSeq ?_
      refine .o (.buildSlice (cells := [_]) hs bls_sl_int_1 rfl rfl ?_); intro b94 w hs
      refine .q hs (q_assign rfl) ?_
      refine .nil ?_
      refine .seq ?_
      refine .regSeq ?_
      refine .q hs (q_assign rfl) ?_
      refine .nil ?_
      refine .block ?_
      obtain rfl : k = l.length := by omega
      rw [List.take_length] at hO
      refine .loop (fun p : Nat × Value => ⟨115, [], [(14, I ((p.1 : Int) + 1)), (13, p.2), (6, I a.sys.many), (7, .pointer (some ⟨b7, 0, none⟩)), (2, .pointer (some ⟨b2, 0, none⟩)), (4, .pointer (some ⟨b4, 0, none⟩))]⟩)
        (fun p w => p.1 ≤ n ∧ ∃ enw, OwnS 1 p.2 (Is (0 :: negW (a.ws.tail.take p.1))) enw ∧ St H w (enw :: .blk b7 [I (2 * a.sys.many), .slice avp lvp cvp] :: .blk b4 [I 0, .slice none 0 0] :: .blk b2 [I a.sys.many, .slice al a.sys.lims.length cpl, .slice aw a.ws.length cw, I a.width] :: en :: σ))
        (fun p => n - p.1) (0, .slice (some ⟨b94, 0, none⟩) 1 1) (by repeat (first | exact .nil rfl rfl | refine .cons rfl ?_))
        ⟨by omega, _, .full rfl, hs⟩ ?_
      clear hs
      rintro ⟨k, v13⟩ w ⟨hk, enw, hOw, hs⟩
      dsimp only at hk hOw ⊢
      have htl : a.ws.tail.length = n := by rw [List.length_tail]; omega
      refine .seq ?_
      refine .regSeq ?_
      refine .q hs (q_move rfl) ?_
      refine .q hs (q_move rfl) ?_
      refine .q hs (q_leq rfl rfl) ?_
      refine .nil ?_
      refine (.condD rfl (fun hc97 => ?_) (fun hc97 => ?_))
      · refine .skip ?_
        refine nT ?_
        refine .seq ?_
        refine .block ?_
        refine .region ?_
        have hk' : k < n := by omega
        have hx := gi_get (l := a.ws) (i := k + 1) (by omega)
        have hxt : a.ws.tail[k]? = some (gi a.ws (k + 1)) := by rw [List.getElem?_tail]; exact hx
        have hsz := sizes_at a.ws (v := k + 1) (n := a.sys.n) (by rw [← hok.wl]; omega)
        have hsz2 := hok.ws
        refine .q hs (q_move rfl) ?_
        first | refine .q hs (q_fa0 rfl fa_api_Ask_1) ?_ | refine .q hs (q_fa rfl fa_api_Ask_1) ?_
        first | refine .q hs (q_load rfl Try.isAgg22) ?_ | refine .q hs (q_loadR rfl Try.isAgg22 (by assumption)) ?_
        refine .q hs (q_move rfl) ?_
        refine .ixY hs hw rfl rfl Try.runUnderlying22 Try.sizeOf3 hx (by push_cast; omega) ?_; intro b104 o104 hc104
        refine .q hs (q_loadR rfl Try.isAgg3 hc104) ?_
        first | refine .q hs (q_negF rfl (by omega)) ?_ | refine .q hs (q_neg rfl) ?_
        refine .o (.buildSlice (cells := [_]) hs bls_sl_int_1 rfl rfl ?_); intro b107 w hs
        refine .o (.append (ys := [I (-gi a.ws (k + 1))]) hs app_sl_int_int rfl rfl hOw (.own .here rfl rfl) (by simp [Value.oneCell']) (fun l' h => by simp [negW] at h; omega) ?_); intro v108 en108 w hO2 hs
        refine .q hs (q_assign rfl) ?_
        refine .nil ?_
        refine nB (nT ?_)
        refine .region ?_
        refine .q hs (q_move rfl) ?_
        first | refine .q hs (q_addF rfl rfl (by omega)) ?_ | refine .q hs (q_addU rfl rfl ⟨by omega, by omega⟩) ?_ | refine .q hs (q_add rfl rfl) ?_
        refine .q hs (q_assign rfl) ?_
        refine .nil ?_
        refine nT ?_
        exact ⟨(k + 1, v108), .consI rfl (by push_cast; omega) (by repeat (first | exact .nil rfl rfl | refine .cons rfl ?_)), ⟨by dsimp only; omega, en108, by rw [take_snoc hxt]; simpa [negW] using hO2, hs.sub (by repeat (first | exact Sub.refl _ | constructor | apply Sub.weaken))⟩, by dsimp only; omega⟩
      · refine .exit ?_
        refine xT (xT (xB (nT ?_)))
        refine .seq (.draw mix rfl hs ?_); intro w hs
        first | refine .loads (i := 0) (vs := [_, _]) hs rfl (by kernel_rfl) .none rfl Try.isAgg32 Try.sizeOf32 ?_ | refine .r (i := 0) hs rfl (by kernel_rfl) .none (q_loadsR (vs := [_, _]) rfl Try.isAgg32 Try.sizeOf32 (by assumption)) ?_
        refine .p (i := 1) rfl (by kernel_rfl) .none (q_move rfl) ?_
        first | refine .p (i := 2) rfl (by kernel_rfl) .none (q_fa0 rfl fa_api_Ask_1) ?_ | refine .p (i := 2) rfl (by kernel_rfl) .none (q_fa rfl fa_api_Ask_1) ?_
        first | refine .load (i := 3) hs rfl (by kernel_rfl) .none rfl Try.isAgg22 ?_ | refine .r (i := 3) hs rfl (by kernel_rfl) .none (q_loadR rfl Try.isAgg22 (by assumption)) ?_
        obtain rfl : k = n := by omega
        refine .p (i := 4) rfl (by kernel_rfl) .none (q_sliceLX (k := 1) rfl rfl Try.runUnderlying22 Try.sizeOf3 rfl (by omega)) ?_
        refine .e1 (i := 5) (by kernel_rfl) rfl rfl .none hs ?_
        refine .append hs app_sl_int_int rfl rfl hOw (.ints (RI.tail hw (k := 1) (by omega))) (Is_cell _) (fun l' h => by simp [negW] at h; rw [List.length_drop]; omega) ?_; intro v114 en114 w hO2 hs
        refine .go ?_
        refine .e1 (i := 6) (by kernel_rfl) rfl rfl .none hs ?_
        refine .stores (vs := [_, _]) hs rfl rfl Try.sizeOf32 ?_; intro w hs
        refine .go ?_
        refine .p (i := 7) rfl (by kernel_rfl) .none (q_assign rfl) ?_
        refine .done (by kernel_rfl) hs ?_
        refine .ret ?_
        rw [List.take_of_length_le (by omega), show Is (0 :: negW a.ws.tail) ++ Is (a.ws.drop 1) = Is (dblW a.ws) by unfold dblW; rw [List.drop_one]; simp [Is]] at hO2
        obtain ⟨H2, g1, g2, hs⟩ := OwnS.publish (cs := (dblS a l).lims.map Lim.c) hO (fun c hc => by simp only [List.mem_map] at hc; obtain ⟨x, _, rfl⟩ := hc; rfl) (by omega) (by have := (dblS_ok hok hlen hin).len; rw [List.length_map]; omega) hs (by repeat constructor)
        obtain ⟨H3, g3, g4, hs⟩ := hO2.publishI (by rw [dblW_length]; omega) hs (by repeat constructor)
        exact Fin.retD [] [] hs fun w hs => ⟨_, results2 Try.results108 (rcells (vs := [_, _]) hs rfl Try.isAgg32 Try.sizeOf32) rfl, H3, _, _, g1.trans g3, rfl, RS.mono g2 g3, g4, hs.out⟩
end Go.Proofs.Ytiiokdeehlfeeaa

/-
  Walks: pairs and greatest widths, by the program and by the reference.
-/
namespace Go.Proofs.Ytiiokdeehlfeeaa
open Go.MW
/-- what Pairs tells -/
def PairsR (a : Quest) (l : List Prb) (S : Syst) (W : List Int) (e : Int) : Prop := (CPrbR a l e ∧ e ≠ 0 ∧ S = ⟨0, []⟩ ∧ W = []) ∨ (CPrbR a l 0 ∧ e = 0 ∧ S = dblS a l ∧ W = dblW a.ws)
theorem PairsR.uniq {a : Quest} {l : List Prb} {S T : Syst} {W V : List Int} {e f : Int} (h : PairsR a l S W e) (g : PairsR a l T V f) : S = T ∧ W = V ∧ e = f := by
  rcases h with ⟨h1, h2, h3, h4⟩ | ⟨h1, h2, h3, h4⟩ <;> rcases g with ⟨g1, g2, g3, g4⟩ | ⟨g1, g2, g3, g4⟩
  · exact ⟨by rw [h3, g3], by rw [h4, g4], h1.uniq g1⟩
  · exact (h2 (h1.uniq g1)).elim
  · exact (g2 (g1.uniq h1)).elim
  · exact ⟨by rw [h3, g3], by rw [h4, g4], by rw [h2, g2]⟩
/-- what Worst tells -/
def WorstR (a : Quest) (l : List Prb) (n e : Int) : Prop := (CPrbR a l e ∧ e ≠ 0 ∧ n = 0) ∨ (CPrbR a l 0 ∧ e = 0 ∧ PairS a l n)
theorem WorstR.uniq {a : Quest} {l : List Prb} {n m e f : Int} (h : WorstR a l n e) (g : WorstR a l m f) : n = m ∧ e = f := by
  rcases h with ⟨h1, h2, h3⟩ | ⟨h1, h2, h3⟩ <;> rcases g with ⟨g1, g2, g3⟩ | ⟨g1, g2, g3⟩
  · exact ⟨by rw [h3, g3], h1.uniq g1⟩
  · exact (h2 (h1.uniq g1)).elim
  · exact (g2 (g1.uniq h1)).elim
  · exact ⟨h3.uniq g3, by rw [h2, g2]⟩
theorem ref09_worst_spec {H : Heap} {w : World} {σ : List Ent} {v vl : Value} {a : Quest} {l : List Prb} (hs : St H w σ) (hr : RAsk H v a) (hp : RPs H vl l) (hok : AskOk a) (hlen : l.length ≤ 8) (hin : ∀ p ∈ l, PrbIn a p) :
    Cl Try.prog 109 [v, vl] w fun u w' => ∃ H1 n, HLe H H1 ∧ u = I n ∧ PairS a l n ∧ St H1 w' σ := by
  obtain ⟨ul, uw, rfl, hl, hw⟩ := hr
  refine Cl.of Try.func109 rfl Try.ntmps109 (by simp) (args_cons (k := 0) rfl (args_cons (k := 1) rfl (args0))) ?_
  refine .regSeq ?_
  refine .o (.box hs rfl rfl ?_); intro b2 w hs
  refine .q hs (q_assign rfl) ?_
  refine .nil ?_
  refine .regSeq ?_
  first | refine .q hs (q_loads (vs := [_, _, _, _]) rfl Try.isAgg34 Try.sizeOf34) ?_ | refine .q hs (q_loadsR (vs := [_, _, _, _]) rfl Try.isAgg34 Try.sizeOf34 (by assumption)) ?_
  refine .q hs (q_move rfl) ?_
  refine .o (.call Try.call108 rfl (ref09_pairs_spec (a := a) hs ⟨_, _, rfl, hl, hw⟩ hp hok hlen hin) ?_); rintro _ w ⟨H1, vp, vw, hle1, rfl, hvp, hvw, hs⟩
  obtain ⟨ap1, cp1, rfl⟩ := RL.shape hvp; obtain ⟨av1, cv1, rfl⟩ := RI.shape hvw
  refine .q hs (q_move rfl) ?_
  refine .q hs (q_extract rfl rfl) ?_
  refine .q hs (q_extract rfl rfl) ?_
  refine .o (.alloc hs Try.zeroValue32 rfl ?_); intro b5 w hs
  refine .o (.stores (vs := [_, _]) hs rfl rfl Try.sizeOf32 ?_); intro w hs
  refine .q hs (q_assign rfl) ?_
  refine .nil ?_
  refine .regSeq ?_
  first | refine .q hs (q_loads (vs := [_, _]) rfl Try.isAgg32 Try.sizeOf32) ?_ | refine .q hs (q_loadsR (vs := [_, _]) rfl Try.isAgg32 Try.sizeOf32 (by assumption)) ?_
  refine .q hs (q_move rfl) ?_
  refine .o (.call Try.call59 rfl (ref02_Most_spec (s := dblS a l) hs ⟨_, rfl, hvp⟩ hvw) ?_); rintro _ w ⟨H2, n, e, hle2, rfl, hM, hs⟩
  obtain ⟨rfl, hPS⟩ := dbl_most hok hlen hin hM
  refine .q hs (q_move rfl) ?_
  refine .q hs (q_extract rfl rfl) ?_
  refine .q hs (q_extract rfl rfl) ?_
  refine .q hs (q_assign rfl) ?_
  refine .q hs (q_assign rfl) ?_
  refine .nil ?_
  refine .regSeq ?_
  refine .q hs (q_move rfl) ?_
  refine .q hs (q_assign rfl) ?_
  refine .nil ?_
  refine .ret (Fin.ret1 Try.results109 rfl ?_)
  exact ⟨H2, n, hle1.trans hle2, rfl, hPS, hs.out⟩
theorem ref09_Worst_spec {H : Heap} {w : World} {σ : List Ent} {v vl : Value} {a : Quest} {l : List Prb} (hs : St H w σ) (hr : RAsk H v a) (hp : RPs H vl l) :
    Cl Try.prog 29 [v, vl] w fun u w' => ∃ H1 n e, HLe H H1 ∧ u = .tuple #[I n, I e] ∧ WorstR a l n e ∧ St H1 w' σ := by
  obtain ⟨ul, uw, rfl, hl, hw⟩ := hr
  obtain ⟨ap, cp, rfl⟩ := RPs.shape hp
  refine Cl.of Try.func29 rfl Try.ntmps29 (by simp) (args_cons (k := 0) rfl (args_cons (k := 1) rfl (args0))) ?_
  refine .regSeq ?_
  refine .o (.box hs rfl rfl ?_); intro b2 w hs
  refine .q hs (q_assign rfl) ?_
  refine .q hs (q_assign rfl) ?_
  refine .nil ?_
  refine .regSeq ?_
  first | refine .q hs (q_loads (vs := [_, _, _, _]) rfl Try.isAgg34 Try.sizeOf34) ?_ | refine .q hs (q_loadsR (vs := [_, _, _, _]) rfl Try.isAgg34 Try.sizeOf34 (by assumption)) ?_
  refine .q hs (q_move rfl) ?_
  refine .o (.call Try.call41 rfl (ref09_CheckProbes_spec (a := a) hs ⟨_, _, rfl, hl, hw⟩ hp) ?_); rintro _ w ⟨H1, e, hle1, rfl, hC, hs⟩
  refine .q hs (q_assign rfl) ?_
  refine .nil ?_
  refine .seq ?_
  refine .regSeq ?_
  refine .q hs (q_move rfl) ?_
  refine .q hs (q_neq rfl rfl) ?_
  refine .nil ?_
  refine (.condN rfl (fun hc12 => ?_) (fun hc12 => ?_))
  · refine .regSeq ?_
    refine .q hs (q_move rfl) ?_
    refine .q hs (q_assign rfl) ?_
    refine .q hs (q_assign rfl) ?_
    refine .nil ?_
    refine .ret (rT (Fin.ret2 Try.results29 rfl rfl ?_))
    exact ⟨H1, 0, e, hle1, rfl, .inl ⟨hC, hc12, rfl⟩, hs.out⟩
  · refine .skip ?_
    refine nT ?_
    refine .regSeq ?_
    first | refine .q hs (q_loads (vs := [_, _, _, _]) rfl Try.isAgg34 Try.sizeOf34) ?_ | refine .q hs (q_loadsR (vs := [_, _, _, _]) rfl Try.isAgg34 Try.sizeOf34 (by assumption)) ?_
    refine .q hs (q_move rfl) ?_
    rw [hc12] at hC
    obtain ⟨hok, hlen, hin⟩ := hC.zero
    refine .o (.call Try.call109 rfl (ref09_worst_spec (a := a) hs ⟨_, _, rfl, hl.mono hle1, hw.mono hle1⟩ (hp.mono hle1) hok hlen (fun p h => (hin p h).inn)) ?_); rintro _ w ⟨H2, n, hle2, rfl, hPS, hs⟩
    refine .q hs (q_assign rfl) ?_
    refine .nil ?_
    refine .regSeq ?_
    refine .q hs (q_move rfl) ?_
    refine .q hs (q_assign rfl) ?_
    refine .q hs (q_assign rfl) ?_
    refine .nil ?_
    refine .ret (Fin.ret2 Try.results29 rfl rfl ?_)
    exact ⟨H2, n, 0, hle1.trans hle2, rfl, .inr ⟨hC, rfl, hPS⟩, hs.out⟩
theorem ref09_Pairs_spec {H : Heap} {w : World} {σ : List Ent} {v vl : Value} {a : Quest} {l : List Prb} (hs : St H w σ) (hr : RAsk H v a) (hp : RPs H vl l) :
    Cl Try.prog 28 [v, vl] w fun u w' => ∃ H1 vp vw S W e, HLe H H1 ∧ u = .tuple #[.agg #[I S.many, vp], vw, I e] ∧ RL H1 vp S.lims ∧ RI H1 vw W ∧ PairsR a l S W e ∧ St H1 w' σ := by
  obtain ⟨ul, uw, rfl, hl, hw⟩ := hr
  obtain ⟨ap, cp, rfl⟩ := RPs.shape hp
  refine Cl.of Try.func28 rfl Try.ntmps28 (by simp) (args_cons (k := 0) rfl (args_cons (k := 1) rfl (args0))) ?_
  refine .regSeq ?_
  refine .o (.box hs rfl rfl ?_); intro b2 w hs
  refine .o (.alloc hs Try.zeroValue32 rfl ?_); intro b4 w hs
  refine .q hs (q_assign rfl) ?_
  refine .q hs (q_assign rfl) ?_
  refine .nil ?_
  refine .regSeq ?_
  first | refine .q hs (q_loads (vs := [_, _, _, _]) rfl Try.isAgg34 Try.sizeOf34) ?_ | refine .q hs (q_loadsR (vs := [_, _, _, _]) rfl Try.isAgg34 Try.sizeOf34 (by assumption)) ?_
  refine .q hs (q_move rfl) ?_
  refine .o (.call Try.call41 rfl (ref09_CheckProbes_spec (a := a) hs ⟨_, _, rfl, hl, hw⟩ hp) ?_); rintro _ w ⟨H1, e, hle1, rfl, hC, hs⟩
  refine .q hs (q_assign rfl) ?_
  refine .nil ?_
  refine .seq ?_
  refine .regSeq ?_
  refine .q hs (q_move rfl) ?_
  refine .q hs (q_neq rfl rfl) ?_
  refine .nil ?_
  refine (.condN rfl (fun hc14 => ?_) (fun hc14 => ?_))
  · refine .regSeq ?_
    refine .q hs (q_build (cells := [_, _]) bld_api_System rfl) ?_
    refine .q hs (q_move rfl) ?_
    refine .o (.stores (vs := [_, _]) hs rfl rfl Try.sizeOf32 ?_); intro w hs
    refine .q hs (q_assign rfl) ?_
    refine .q hs (q_assign rfl) ?_
    refine .nil ?_
    refine .ret (rT (?_))
    exact Fin.retD [] [] hs fun w hs => ⟨_, results3 Try.results28 (rcells (vs := [_, _]) hs rfl Try.isAgg32 Try.sizeOf32) rfl rfl, H1, _, _, ⟨0, []⟩, [], e, hle1, rfl, RS.nil H1 4 none 0, RS.nil H1 1 none 0, .inl ⟨hC, hc14, rfl, rfl⟩, hs.out⟩
  · refine .skip ?_
    refine nT ?_
    refine .regSeq ?_
    first | refine .q hs (q_loads (vs := [_, _, _, _]) rfl Try.isAgg34 Try.sizeOf34) ?_ | refine .q hs (q_loadsR (vs := [_, _, _, _]) rfl Try.isAgg34 Try.sizeOf34 (by assumption)) ?_
    refine .q hs (q_move rfl) ?_
    rw [hc14] at hC
    obtain ⟨hok, hlen, hin⟩ := hC.zero
    refine .o (.call Try.call108 rfl (ref09_pairs_spec (a := a) hs ⟨_, _, rfl, hl.mono hle1, hw.mono hle1⟩ (hp.mono hle1) hok hlen (fun p h => (hin p h).inn)) ?_); rintro _ w ⟨H2, vp, vw, hle2, rfl, hvp, hvw, hs⟩
    obtain ⟨ap1, cp1, rfl⟩ := RL.shape hvp; obtain ⟨av1, cv1, rfl⟩ := RI.shape hvw
    refine .q hs (q_move rfl) ?_
    refine .q hs (q_extract rfl rfl) ?_
    refine .q hs (q_extract rfl rfl) ?_
    refine .o (.alloc hs Try.zeroValue32 rfl ?_); intro b8 w hs
    refine .o (.stores (vs := [_, _]) hs rfl rfl Try.sizeOf32 ?_); intro w hs
    refine .q hs (q_assign rfl) ?_
    refine .nil ?_
    refine .regSeq ?_
    first | refine .q hs (q_loads (vs := [_, _]) rfl Try.isAgg32 Try.sizeOf32) ?_ | refine .q hs (q_loadsR (vs := [_, _]) rfl Try.isAgg32 Try.sizeOf32 (by assumption)) ?_
    refine .q hs (q_move rfl) ?_
    refine .o (.stores (vs := [_, _]) hs rfl rfl Try.sizeOf32 ?_); intro w hs
    refine .q hs (q_assign rfl) ?_
    refine .q hs (q_assign rfl) ?_
    refine .nil ?_
    refine .ret ?_
    exact Fin.retD [] [] hs fun w hs => ⟨_, results3 Try.results28 (rcells (vs := [_, _]) hs rfl Try.isAgg32 Try.sizeOf32) rfl rfl, H2, _, _, dblS a l, dblW a.ws, 0, hle1.trans hle2, rfl, hvp, hvw, .inr ⟨hC, rfl, rfl, rfl⟩, hs.out⟩
/-! ### the program -/
theorem probe_told_dbl {H : Heap} {w : World} {σ : List Ent} {v vl : Value} {a : Quest} {l : List Prb} {g : Nat} {cap : List Value} (hs : St H w σ) (hr : RAsk H v a) (hp : RPs H vl l) (hc : ∀ args w, (callFunc g args).run Try.prog w = .ok (.enter g args) w)
    (hg : ∀ H' w σ', HLe H H' → CPrbR a l 0 → St H' w σ' → Cl Try.prog g ([v] ++ cap) w fun u w' => ∃ H'' ul uw vp vw, HLe H' H'' ∧ u = .tuple #[.agg #[I a.sys.many, ul, uw, I a.width, I (2 * a.sys.many), vp, vw], I 0] ∧ RL H'' ul a.sys.lims ∧ RI H'' uw a.ws ∧ RL H'' vp (dblS a l).lims ∧ RI H'' vw (dblW a.ws) ∧ St H'' w' σ') :
    Cl Try.prog 106 [v, vl, .func (.func g) #[] cap.toArray] w fun u w' => ∃ H1 c0 c3 a1 n1 k1 a2 n2 k2 vp vw S W e, HLe H H1 ∧ u = .tuple #[.agg #[I c0, .slice a1 n1 k1, .slice a2 n2 k2, I c3, I S.many, vp, vw], I e] ∧ RL H1 vp S.lims ∧ RI H1 vw W ∧ PairsR a l S W e ∧ St H1 w' σ := by
  obtain ⟨ul, uw, rfl, hl, hw⟩ := hr
  refine Cl.of Try.func106 rfl Try.ntmps106 (by simp) (args_cons (k := 0) rfl (args_cons (k := 1) rfl (args_cons (k := 2) rfl (args0)))) ?_
  refine .regSeq ?_
  refine .o (.box hs rfl rfl ?_); intro b3 w hs
  refine .o (.alloc hs Try.zeroValue132 rfl ?_); intro b6 w hs
  refine .q hs (q_assign rfl) ?_
  refine .nil ?_
  refine .seq ?_
  refine .regSeq ?_
  first | refine .q hs (q_loads (vs := [_, _, _, _]) rfl Try.isAgg34 Try.sizeOf34) ?_ | refine .q hs (q_loadsR (vs := [_, _, _, _]) rfl Try.isAgg34 Try.sizeOf34 (by assumption)) ?_
  refine .q hs (q_move rfl) ?_
  refine .o (.call Try.call40 rfl (probe_CheckProbes_spec (a := a) hs ⟨_, _, rfl, hl, hw⟩ hp) ?_); rintro _ w ⟨H1, e, hle1, rfl, hC, hs⟩
  refine .q hs (q_assign rfl) ?_
  refine .nil ?_
  refine .regSeq ?_
  refine .q hs (q_move rfl) ?_
  refine .q hs (q_neq rfl rfl) ?_
  refine .nil ?_
  refine (.condN rfl (fun hc14 => ?_) (fun hc14 => ?_))
  · refine .regSeq ?_
    refine .o (.alloc hs Try.zeroValue132 rfl ?_); intro b9 w hs
    refine .nil ?_
    refine .regSeq ?_
    first | refine .q hs (q_loads (vs := [_, _, _, _, _, _, _]) rfl Try.isAgg132 Try.sizeOf132) ?_ | refine .q hs (q_loadsR (vs := [_, _, _, _, _, _, _]) rfl Try.isAgg132 Try.sizeOf132 (by assumption)) ?_
    refine .q hs (q_move rfl) ?_
    refine .o (.stores (vs := [_, _, _, _, _, _, _]) hs rfl rfl Try.sizeOf132 ?_); intro w hs
    refine .q hs (q_assign rfl) ?_
    refine .nil ?_
    refine .ret (rT (?_))
    exact Fin.retD [] [] hs fun w hs => ⟨_, results2 Try.results106 (rcells (vs := [_, _, _, _, _, _, _]) hs rfl Try.isAgg132 Try.sizeOf132) rfl, H1, 0, 0, none, 0, 0, none, 0, 0, _, _, ⟨0, []⟩, [], e, hle1, rfl, RS.nil H1 4 none 0, RS.nil H1 1 none 0, .inl ⟨hC, hc14, rfl, rfl⟩, hs.out⟩
  · refine .skip ?_
    refine nT ?_
    refine .regSeq ?_
    refine .q hs (q_move rfl) ?_
    first | refine .q hs (q_loads (vs := [_, _, _, _]) rfl Try.isAgg34 Try.sizeOf34) ?_ | refine .q hs (q_loadsR (vs := [_, _, _, _]) rfl Try.isAgg34 Try.sizeOf34 (by assumption)) ?_
    rw [hc14] at hC
    refine .o (.callG (first := []) rfl rfl hc (hg _ _ _ hle1 hC hs) ?_); rintro _ w ⟨H2, ul2, uw2, vp, vw, hle2, rfl, g1, g2, g3, g4, hs⟩
    obtain ⟨a1, c1, rfl⟩ := RL.shape g1; obtain ⟨a2, c2, rfl⟩ := RI.shape g2; obtain ⟨a3, c3, rfl⟩ := RL.shape g3; obtain ⟨a4, c4, rfl⟩ := RI.shape g4
    refine .q hs (q_extract rfl rfl) ?_
    refine .q hs (q_extract rfl rfl) ?_
    refine .o (.stores (vs := [_, _, _, _, _, _, _]) hs rfl rfl Try.sizeOf132 ?_); intro w hs
    refine .q hs (q_assign rfl) ?_
    refine .nil ?_
    refine .ret ?_
    exact Fin.retD [] [] hs fun w hs => ⟨_, results2 Try.results106 (rcells (vs := [_, _, _, _, _, _, _]) hs rfl Try.isAgg132 Try.sizeOf132) rfl, H2, _, _, _, _, _, _, _, _, _, _, dblS a l, dblW a.ws, 0, hle1.trans hle2, rfl, g3, g4, .inr ⟨hC, rfl, rfl, rfl⟩, hs.out⟩
theorem probe_Pairs_1 {H : Heap} {w : World} {σ : List Ent} {v vl : Value} {a : Quest} {l : List Prb} {bl : Nat} (hs : St H w σ) (hr : RAsk H v a) (hb : Row H bl [vl]) (hp : RPs H vl l) (hok : AskOk a) (hlen : l.length ≤ 8) (hin : ∀ p ∈ l, PrbIn a p) :
    Cl Try.prog 107 [v, .pointer (some ⟨bl, 0, none⟩)] w fun u w' => ∃ H'' ul uw vp vw, HLe H H'' ∧ u = .tuple #[.agg #[I a.sys.many, ul, uw, I a.width, I (2 * a.sys.many), vp, vw], I 0] ∧ RL H'' ul a.sys.lims ∧ RI H'' uw a.ws ∧ RL H'' vp (dblS a l).lims ∧ RI H'' vw (dblW a.ws) ∧ St H'' w' σ := by
  obtain ⟨ul, uw, rfl, hl, hw⟩ := hr
  obtain ⟨al, cpl, rfl⟩ := RPs.shape hp
  have hb0 := hb.at 0
  refine Cl.of Try.func107 rfl Try.ntmps107 (by simp) (args_cons (k := 0) rfl (args_cons (k := 1) rfl (args0))) ?_
  refine .regSeq ?_
  refine .o (.box hs rfl rfl ?_); intro b2 w hs
  refine .o (.alloc hs Try.zeroValue132 rfl ?_); intro b3 w hs
  refine .q hs (q_assign rfl) ?_
  refine .nil ?_
  refine .regSeq ?_
  first | refine .q hs (q_loads (vs := [_, _, _, _]) rfl Try.isAgg34 Try.sizeOf34) ?_ | refine .q hs (q_loadsR (vs := [_, _, _, _]) rfl Try.isAgg34 Try.sizeOf34 (by assumption)) ?_
  refine .q hs (q_loadR rfl Try.isAgg35 hb0) ?_
  refine .o (.call Try.call98 rfl (probe_double_spec (a := a) hs ⟨_, _, rfl, hl, hw⟩ hp hok hlen hin) ?_); rintro _ w ⟨H1, ul1, uw1, vp, vw, hle1, rfl, hl1, hw1, hvp, hvw, hs⟩
  obtain ⟨al1, cl1, rfl⟩ := RL.shape hl1; obtain ⟨aw1, cw1, rfl⟩ := RI.shape hw1; obtain ⟨ap1, cp1, rfl⟩ := RL.shape hvp; obtain ⟨av1, cv1, rfl⟩ := RI.shape hvw
  refine .o (.stores (vs := [_, _, _, _, _, _, _]) hs rfl rfl Try.sizeOf132 ?_); intro w hs
  refine .q hs (q_assign rfl) ?_
  refine .nil ?_
  refine .ret ?_
  exact Fin.retD [] [] hs fun w hs => ⟨_, results2 Try.results107 (rcells (vs := [_, _, _, _, _, _, _]) hs rfl Try.isAgg132 Try.sizeOf132) rfl, H1, _, _, _, _, hle1, rfl, hl1, hw1, hvp, hvw, hs.out⟩
theorem probe_Pairs_spec {H : Heap} {w : World} {σ : List Ent} {v vl : Value} {a : Quest} {l : List Prb} (hs : St H w σ) (hr : RAsk H v a) (hp : RPs H vl l) :
    Cl Try.prog 27 [v, vl] w fun u w' => ∃ H1 vp vw S W e, HLe H H1 ∧ u = .tuple #[.agg #[I S.many, vp], vw, I e] ∧ RL H1 vp S.lims ∧ RI H1 vw W ∧ PairsR a l S W e ∧ St H1 w' σ := by
  obtain ⟨ul, uw, rfl, hl, hw⟩ := hr
  obtain ⟨al, cpl, rfl⟩ := RPs.shape hp
  refine Cl.of Try.func27 rfl Try.ntmps27 (by simp) (args_cons (k := 0) rfl (args_cons (k := 1) rfl (args0))) ?_
  refine .regSeq ?_
  refine .o (.box hs rfl rfl ?_); intro b2 w hs
  refine .o (.box hs rfl rfl ?_); intro b3 w hs
  refine .o (.alloc hs Try.zeroValue32 rfl ?_); intro b4 w hs
  refine .q hs (q_assign rfl) ?_
  refine .q hs (q_assign rfl) ?_
  refine .nil ?_
  refine .regSeq ?_
  first | refine .q hs (q_loads (vs := [_, _, _, _]) rfl Try.isAgg34 Try.sizeOf34) ?_ | refine .q hs (q_loadsR (vs := [_, _, _, _]) rfl Try.isAgg34 Try.sizeOf34 (by assumption)) ?_
  first | refine .q hs (q_load rfl Try.isAgg35) ?_ | refine .q hs (q_loadR rfl Try.isAgg35 (by assumption)) ?_
  refine .q hs (q_makeFunc (f := []) (c := [_]) rfl rfl) ?_
  obtain ⟨H0, hle0, hb3, hs⟩ := hs.publish (b := b3) (by repeat constructor)
  refine .o (.call Try.call106 rfl (probe_told_dbl (a := a) (l := l) (cap := [.pointer (some ⟨b3, 0, none⟩)]) hs ⟨_, _, rfl, hl.mono hle0, hw.mono hle0⟩ (hp.mono hle0) Try.call107 ?_) ?_)
  · rintro H' w σ' hle hC hs
    obtain ⟨hok, hlen, hin⟩ := hC.zero
    exact probe_Pairs_1 (a := a) (l := l) hs ⟨_, _, rfl, (hl.mono hle0).mono hle, (hw.mono hle0).mono hle⟩ (hb3.mono hle) ((hp.mono hle0).mono hle) hok hlen (fun p h => (hin p h).inn)
  rintro _ w ⟨H1, c0, c3, a1, n1, k1, a2, n2, k2, vp, vw, S, W, e, hle1, rfl, g3, g4, hR, hs⟩
  obtain ⟨a3, c3', rfl⟩ := RL.shape g3; obtain ⟨a4, c4, rfl⟩ := RI.shape g4
  refine .q hs (q_move rfl) ?_
  refine .q hs (q_extract rfl rfl) ?_
  refine .q hs (q_extract rfl rfl) ?_
  refine .o (.alloc hs Try.zeroValue132 rfl ?_); intro b7 w hs
  refine .o (.stores (vs := [_, _, _, _, _, _, _]) hs rfl rfl Try.sizeOf132 ?_); intro w hs
  refine .q hs (q_assign rfl) ?_
  refine .nil ?_
  refine .seq (.draw mix rfl hs ?_); intro w hs
  first | refine .p (i := 0) rfl (by kernel_rfl) .none (q_fa0 rfl fa_probe_doubled_1) ?_ | refine .p (i := 0) rfl (by kernel_rfl) .none (q_fa rfl fa_probe_doubled_1) ?_
  first | refine .loads (i := 1) (vs := [_, _]) hs rfl (by kernel_rfl) .none rfl Try.isAgg32 Try.sizeOf32 ?_ | refine .r (i := 1) hs rfl (by kernel_rfl) .none (q_loadsR (vs := [_, _]) rfl Try.isAgg32 Try.sizeOf32 (by assumption)) ?_
  first | refine .p (i := 2) rfl (by kernel_rfl) .none (q_fa0 rfl fa_probe_doubled_2) ?_ | refine .p (i := 2) rfl (by kernel_rfl) .none (q_fa rfl fa_probe_doubled_2) ?_
  first | refine .load (i := 3) hs rfl (by kernel_rfl) .none rfl Try.isAgg22 ?_ | refine .r (i := 3) hs rfl (by kernel_rfl) .none (q_loadR rfl Try.isAgg22 (by assumption)) ?_
  refine .p (i := 4) rfl (by kernel_rfl) .none (q_move rfl) ?_
  refine .e1 (i := 5) (by kernel_rfl) rfl rfl .none hs ?_
  refine .stores (vs := [_, _]) hs rfl rfl Try.sizeOf32 ?_; intro w hs
  refine .go ?_
  refine .p (i := 6) rfl (by kernel_rfl) .none (q_assign rfl) ?_
  refine .p (i := 7) rfl (by kernel_rfl) .none (q_assign rfl) ?_
  refine .done (by kernel_rfl) hs ?_
  refine .ret ?_
  exact Fin.retD [] [] hs fun w hs => ⟨_, results3 Try.results27 (rcells (vs := [_, _]) hs rfl Try.isAgg32 Try.sizeOf32) rfl rfl, H1, _, _, S, W, e, hle0.trans hle1, rfl, g3, g4, hR, hs.out⟩
end Go.Proofs.Ytiiokdeehlfeeaa

/-
  Walk: which proofs the reference accepts.
-/
namespace Go.Proofs.Ytiiokdeehlfeeaa
open Go.MW
set_option maxHeartbeats 8000000 in
theorem ref02_CheckProof_spec {H : Heap} {w : World} {σ : List Ent} {v vw vp : Value} {s : Syst} {ws : List Int} {n : Int} {us : List Use} (hs : St H w σ) (hr : RSy H v s) (hrw : RI H vw ws) (hp : RPf H vp n us) :
    Cl Try.prog 32 [v, vw, vp] w fun v w' => ∃ e, v = I e ∧ ProofR s ws n us e ∧ St H w' σ := by
  obtain ⟨u, rfl, hr⟩ := hr
  obtain ⟨al, cl, rfl⟩ := RL.shape hr
  obtain ⟨aw, cw, rfl⟩ := RI.shape hrw
  obtain ⟨uu, rfl, hU⟩ := hp
  obtain ⟨au, cu, rfl⟩ := RU.shape hU
  refine Cl.of Try.func32 rfl Try.ntmps32 (by simp) (args_cons (k := 0) rfl (args_cons (k := 1) rfl (args_cons (k := 2) rfl (args0)))) ?_
  refine .regSeq ?_
  refine .o (.box hs rfl rfl ?_); intro b3 w hs
  refine .o (.box hs rfl rfl ?_); intro b5 w hs
  refine .q hs (q_assign rfl) ?_
  refine .nil ?_
  refine .regSeq ?_
  first | refine .q hs (q_loads (vs := [_, _]) rfl Try.isAgg32 Try.sizeOf32) ?_ | refine .q hs (q_loadsR (vs := [_, _]) rfl Try.isAgg32 Try.sizeOf32 (by assumption)) ?_
  refine .q hs (q_move rfl) ?_
  refine .o (.call Try.call110 rfl (ref02_asked_spec (s := s) hs ⟨_, rfl, hr⟩ hrw) ?_); rintro _ w ⟨rfl, hs⟩
  refine .q hs (q_assign rfl) ?_
  refine .nil ?_
  refine .seq ?_
  refine .regSeq ?_
  refine .q hs (q_move rfl) ?_
  refine .q hs (q_neq rfl rfl) ?_
  refine .nil ?_
  refine (.condN rfl (fun hc19 => ?_) (fun hc19 => ?_))
  · refine .regSeq ?_
    refine .q hs (q_move rfl) ?_
    refine .q hs (q_assign rfl) ?_
    refine .nil ?_
    refine .ret (rT (Fin.ret1 Try.results32 rfl ?_))
    exact ⟨_, rfl, .ask hc19, hs.out⟩
  · refine .skip ?_
    refine nT ?_
    refine .seq ?_
    refine .regSeq ?_
    first | refine .q hs (q_fa0 rfl fa_api_Proof_1) ?_ | refine .q hs (q_fa rfl fa_api_Proof_1) ?_
    first | refine .q hs (q_load rfl Try.isAgg38) ?_ | refine .q hs (q_loadR rfl Try.isAgg38 (by assumption)) ?_
    first | refine .q hs (q_len rfl Try.runUnderlying38) ?_ | refine .q hs (q_lenR (by assumption) rfl Try.runUnderlying38) ?_ | refine .q hs (q_lenI (by assumption) rfl Try.runUnderlying38) ?_
    refine .q hs (q_gtr rfl rfl) ?_
    refine .nil ?_
    refine (.condD rfl (fun hc24 => ?_) (fun hc24 => ?_))
    · refine .regSeq ?_
      refine .q hs (q_assign rfl) ?_
      refine .nil ?_
      refine .ret (rT (Fin.ret1 Try.results32 rfl ?_))
      exact ⟨_, rfl, .bad (by simpa using hc19) (fun h => by have := h.len; omega), hs.out⟩
    · refine .skip ?_
      refine nT ?_
      refine .regSeq ?_
      first | refine .q hs (q_fa0 rfl fa_api_System_0) ?_ | refine .q hs (q_fa rfl fa_api_System_0) ?_
      first | refine .q hs (q_load rfl Try.isAgg3) ?_ | refine .q hs (q_loadR rfl Try.isAgg3 (by assumption)) ?_
      have hA : askErr s ws = 0 := by simpa using hc19
      obtain ⟨hok, hwl, hz⟩ := askErr_ok hA
      have hm0 := hok.m0
      have hn65 := hok.n65
      have hll := hok.len
      have hmn : s.many + 1 = (s.n : Int) := by simp only [Syst.n]; omega
      first | refine .q hs (q_addF rfl rfl (by omega)) ?_ | refine .q hs (q_addU rfl rfl ⟨by omega, by omega⟩) ?_ | refine .q hs (q_add rfl rfl) ?_
      rw [hmn]
      refine .o (.makeI s.n hs rfl rfl Try.runUnderlying22 Try.typeInfo3 rfl Try.sizeOf3 Try.zeroValue3 (by omega) ?_); intro b28 w hs
      refine .q hs (q_assign rfl) ?_
      refine .nil ?_
      refine .regSeq ?_
      refine .q hs (q_assign rfl) ?_
      refine .nil ?_
      refine .regSeq ?_
      refine .q hs (q_assign rfl) ?_
      refine .nil ?_
      refine .seq ?_
      refine .regSeq ?_
      first | refine .q hs (q_fa0 rfl fa_api_Proof_1) ?_ | refine .q hs (q_fa rfl fa_api_Proof_1) ?_
      first | refine .q hs (q_load rfl Try.isAgg38) ?_ | refine .q hs (q_loadR rfl Try.isAgg38 (by assumption)) ?_
      first | refine .q hs (q_len rfl Try.runUnderlying38) ?_ | refine .q hs (q_lenR (by assumption) rfl Try.runUnderlying38) ?_ | refine .q hs (q_lenI (by assumption) rfl Try.runUnderlying38) ?_
      refine .q hs (q_move rfl) ?_
      refine .nil ?_
      refine .for (N := us.length) (J := fun k fr w => fr = [(30, .slice au us.length cu), (8, .slice (some ⟨b28, 0, none⟩) s.n s.n), (9, I (timesTo us k)), (10, I (boundTo s us k)), (3, .pointer (some ⟨b3, 0, none⟩)), (5, .pointer (some ⟨b5, 0, none⟩)), (1, .slice aw ws.length cw)] ∧ ∃ C, (C.length = s.n ∧ ∀ v < s.n, gi C v = intoTo s us k v) ∧ (∀ i < k, UseOk s us i) ∧ timesTo us k ≤ 230400000000000 ∧ St H w (.blk b28 (Is C) :: .blk b5 [I n, .slice au us.length cu] :: .blk b3 [I s.many, .slice al s.lims.length cl] :: σ)) (by omega) ?_ ?_ ?_
      · exact .mk ⟨rfl, _, ⟨by simp, fun v hv => by rw [gi_replicate _ _ hv]; rfl⟩, fun i hi => by omega, by simp [timesTo, sumTo], hs⟩
      · rintro k fr w hk ⟨rfl, C, ⟨hC1, hC2⟩, hUs, hTm, hs⟩
        have hx := gu_get hk
        refine .block ?_
        refine .regSeq ?_
        refine .q hs (q_move rfl) ?_
        refine .ixX (enc := Use.c) hs hU rfl rfl Try.runUnderlying38 Try.sizeOf154 hx rfl ?_; intro b35 o35 hc35
        refine .q hs (q_loadsR (vs := (gu us k).c) rfl Try.isAgg154 Try.sizeOf154 hc35) ?_
        refine .o (.alloc hs Try.zeroValue154 rfl ?_); intro b12 w hs
        refine .q hs (q_assign rfl) ?_
        refine .o (.stores (vs := (gu us k).c) hs rfl rfl Try.sizeOf154 ?_); intro w hs
        refine .nil ?_
        refine .seq ?_
        refine .cut (fun fs w => ∃ p, FSub fs ⟨124, [], [(66, .bool p), (12, .pointer (some ⟨b12, 0, none⟩)), (32, I (k : Int)), (31, I (us.length : Int)), (30, .slice au us.length cu), (8, .slice (some ⟨b28, 0, none⟩) s.n s.n), (9, I (timesTo us k)), (10, I (boundTo s us k)), (3, .pointer (some ⟨b3, 0, none⟩)), (5, .pointer (some ⟨b5, 0, none⟩)), (1, .slice aw ws.length cw)]⟩ ∧ (p = true → ¬ UseOk s us k) ∧ (p = false → UseOk s us k) ∧ St H w (.blk b12 (gu us k).c :: .blk b28 (Is C) :: .blk b5 [I n, .slice au us.length cu] :: .blk b3 [I s.many, .slice al s.lims.length cl] :: σ)) ?_ ?_
        · refine .draw mix rfl hs ?_; intro w hs
          first | refine .p (i := 0) rfl (by kernel_rfl) .none (q_fa0 rfl fa_api_Use_0) ?_ | refine .p (i := 0) rfl (by kernel_rfl) .none (q_fa rfl fa_api_Use_0) ?_
          first | refine .load (i := 1) hs rfl (by kernel_rfl) .none rfl Try.isAgg3 ?_ | refine .r (i := 1) hs rfl (by kernel_rfl) .none (q_loadR rfl Try.isAgg3 (by assumption)) ?_
          first | refine .p (i := 2) rfl (by kernel_rfl) .none (q_fa0 rfl fa_api_System_1) ?_ | refine .p (i := 2) rfl (by kernel_rfl) .none (q_fa rfl fa_api_System_1) ?_
          first | refine .load (i := 3) hs rfl (by kernel_rfl) .none rfl Try.isAgg30 ?_ | refine .r (i := 3) hs rfl (by kernel_rfl) .none (q_loadR rfl Try.isAgg30 (by assumption)) ?_
          first | refine .p (i := 4) rfl (by kernel_rfl) .none (q_len rfl Try.runUnderlying30) ?_ | refine .r (i := 4) hs rfl (by kernel_rfl) .none (q_lenR (by assumption) rfl Try.runUnderlying30) ?_ | refine .r (i := 4) hs rfl (by kernel_rfl) .none (q_lenI (by assumption) rfl Try.runUnderlying30) ?_
          first | refine .p (i := 5) rfl (by kernel_rfl) .none (q_subF rfl rfl (by omega)) ?_ | refine .p (i := 5) rfl (by kernel_rfl) .none (q_sub rfl rfl) ?_
          refine .e1 (i := 6) (by kernel_rfl) rfl rfl .none hs ?_
          refine .call Try.call111 rfl (ref02_within_spec hs) ?_; rintro _ w ⟨rfl, hs⟩
          refine .go ?_
          refine .p (i := 7) rfl (by kernel_rfl) .none (q_not rfl) ?_
          refine .p (i := 8) rfl (by kernel_rfl) .none (q_move rfl) ?_
          refine .bif (t' := 45) rfl (fun hb45 => ?_) (fun hb45 => ?_)
          · refine .qF (i := 9) rfl (by kernel_rfl) rfl rfl ?_
            refine .qF (i := 10) rfl (by kernel_rfl) rfl rfl ?_
            refine .qF (i := 11) rfl (by kernel_rfl) rfl rfl ?_
            refine .qF (i := 12) rfl (by kernel_rfl) rfl rfl ?_
            refine .qF (i := 13) rfl (by kernel_rfl) rfl rfl ?_
            refine .qF (i := 14) rfl (by kernel_rfl) rfl rfl ?_
            refine .qF (i := 15) rfl (by kernel_rfl) rfl rfl ?_
            refine .qF (i := 16) rfl (by kernel_rfl) rfl rfl ?_
            refine .qF (i := 17) rfl (by kernel_rfl) rfl rfl ?_
            refine .qF (i := 18) rfl (by kernel_rfl) rfl rfl ?_
            refine .qF (i := 19) rfl (by kernel_rfl) rfl rfl ?_
            refine .qF (i := 20) rfl (by kernel_rfl) rfl rfl ?_
            refine .qF (i := 21) rfl (by kernel_rfl) rfl rfl ?_
            refine .qF (i := 22) rfl (by kernel_rfl) rfl rfl ?_
            refine .p (i := 23) rfl (by kernel_rfl) .none (q_pickT rfl rfl) ?_
            refine .p (i := 24) rfl (by kernel_rfl) .none (q_move rfl) ?_
            refine .qF (i := 25) rfl (by kernel_rfl) rfl rfl ?_
            refine .qF (i := 26) rfl (by kernel_rfl) rfl rfl ?_
            refine .qF (i := 27) rfl (by kernel_rfl) rfl rfl ?_
            refine .qF (i := 28) rfl (by kernel_rfl) rfl rfl ?_
            refine .p (i := 29) rfl (by kernel_rfl) .none (q_pickT rfl rfl) ?_
            refine .done (by kernel_rfl) hs ?_
            exact nT ⟨_, by repeat (first | exact .nil rfl rfl | refine .cons rfl ?_), by
              intro hp hU
              have h1 := hU.l0; have h2 := hU.l1; have h3 := hU.t0; have h4 := hU.t1; have h5 := hU.ord
              first
                | (cases hp; done)
                | (have := notdec_true.1 hb45; omega)
                | (have := h5 (by omega); omega)
                | (have := notdec_true.1 hp; omega), by
              intro hp
              first
                | (cases hp; done)
                | exact ⟨by have := notdec_false.1 hb45; omega, by have := notdec_false.1 hb45; omega, by have := notdec_false.1 hp; omega, by have := notdec_false.1 hp; omega, fun h => by omega⟩, hs⟩
          · refine .p (i := 9) rfl (by kernel_rfl) (.some rfl rfl) (q_move rfl) ?_
            refine .p (i := 10) rfl (by kernel_rfl) (.some rfl rfl) (q_gtr rfl rfl) ?_
            refine .p (i := 11) rfl (by kernel_rfl) (.some rfl rfl) (q_move rfl) ?_
            refine .bifD (t' := 48) rfl (fun hb48 => ?_) (fun hb48 => ?_)
            · first | refine .p (i := 12) rfl (by kernel_rfl) (.some rfl rfl) (q_fa0 rfl fa_api_Proof_1) ?_ | refine .p (i := 12) rfl (by kernel_rfl) (.some rfl rfl) (q_fa rfl fa_api_Proof_1) ?_
              first | refine .load (i := 13) hs rfl (by kernel_rfl) (.some rfl rfl) rfl Try.isAgg38 ?_ | refine .r (i := 13) hs rfl (by kernel_rfl) (.some rfl rfl) (q_loadR rfl Try.isAgg38 (by assumption)) ?_
              refine .p (i := 14) rfl (by kernel_rfl) (.some rfl rfl) (q_move rfl) ?_
              first | refine .p (i := 15) rfl (by kernel_rfl) (.some rfl rfl) (q_subF rfl rfl (by omega)) ?_ | refine .p (i := 15) rfl (by kernel_rfl) (.some rfl rfl) (q_sub rfl rfl) ?_
              refine .ixX (enc := Use.c) (i := 16) hs rfl (by kernel_rfl) (.some rfl rfl) hU rfl rfl Try.runUnderlying38 Try.sizeOf154 (gu_get (i := k - 1) (by omega)) (by omega) ?_; intro b53 o53 hc53
              first | refine .p (i := 17) rfl (by kernel_rfl) (.some rfl rfl) (q_fa0 rfl fa_api_Use_0) ?_ | refine .p (i := 17) rfl (by kernel_rfl) (.some rfl rfl) (q_fa rfl fa_api_Use_0) ?_
              refine .r (i := 18) hs rfl (by kernel_rfl) (.some rfl rfl) (q_loadR rfl Try.isAgg3 (hc53.get 0 rfl)) ?_
              first | refine .p (i := 19) rfl (by kernel_rfl) (.some rfl rfl) (q_fa0 rfl fa_api_Use_0) ?_ | refine .p (i := 19) rfl (by kernel_rfl) (.some rfl rfl) (q_fa rfl fa_api_Use_0) ?_
              first | refine .load (i := 20) hs rfl (by kernel_rfl) (.some rfl rfl) rfl Try.isAgg3 ?_ | refine .r (i := 20) hs rfl (by kernel_rfl) (.some rfl rfl) (q_loadR rfl Try.isAgg3 (by assumption)) ?_
              refine .p (i := 21) rfl (by kernel_rfl) (.some rfl rfl) (q_geq rfl rfl) ?_
              refine .p (i := 22) rfl (by kernel_rfl) (.some rfl rfl) (q_pickT rfl rfl) ?_
              refine .p (i := 23) rfl (by kernel_rfl) .none (q_pickF rfl rfl) ?_
              refine .p (i := 24) rfl (by kernel_rfl) .none (q_move rfl) ?_
              refine .bifD (t' := 61) rfl (fun hb61 => ?_) (fun hb61 => ?_)
              · refine .qF (i := 25) rfl (by kernel_rfl) rfl rfl ?_
                refine .qF (i := 26) rfl (by kernel_rfl) rfl rfl ?_
                refine .qF (i := 27) rfl (by kernel_rfl) rfl rfl ?_
                refine .qF (i := 28) rfl (by kernel_rfl) rfl rfl ?_
                refine .p (i := 29) rfl (by kernel_rfl) .none (q_pickT rfl rfl) ?_
                refine .done (by kernel_rfl) hs ?_
                exact nT ⟨_, by repeat (first | exact .nil rfl rfl | refine .cons rfl ?_), by
                  intro hp hU
                  have h1 := hU.l0; have h2 := hU.l1; have h3 := hU.t0; have h4 := hU.t1; have h5 := hU.ord
                  first
                    | (cases hp; done)
                    | (have := notdec_true.1 hb45; omega)
                    | (have := h5 (by omega); omega)
                    | (have := notdec_true.1 hp; omega), by
                  intro hp
                  first
                    | (cases hp; done)
                    | exact ⟨by have := notdec_false.1 hb45; omega, by have := notdec_false.1 hb45; omega, by have := notdec_false.1 hp; omega, by have := notdec_false.1 hp; omega, fun h => by omega⟩, hs⟩
              · first | refine .p (i := 25) rfl (by kernel_rfl) (.some rfl rfl) (q_fa0 rfl fa_api_Use_1) ?_ | refine .p (i := 25) rfl (by kernel_rfl) (.some rfl rfl) (q_fa rfl fa_api_Use_1) ?_
                first | refine .load (i := 26) hs rfl (by kernel_rfl) (.some rfl rfl) rfl Try.isAgg3 ?_ | refine .r (i := 26) hs rfl (by kernel_rfl) (.some rfl rfl) (q_loadR rfl Try.isAgg3 (by assumption)) ?_
                refine .e1 (i := 27) (by kernel_rfl) rfl rfl (.some rfl rfl) hs ?_
                refine .call Try.call111 rfl (ref02_within_spec hs) ?_; rintro _ w ⟨rfl, hs⟩
                refine .go ?_
                refine .p (i := 28) rfl (by kernel_rfl) (.some rfl rfl) (q_not rfl) ?_
                refine .p (i := 29) rfl (by kernel_rfl) .none (q_pickF rfl rfl) ?_
                refine .done (by kernel_rfl) hs ?_
                exact nT ⟨_, by repeat (first | exact .nil rfl rfl | refine .cons rfl ?_), by
                  intro hp hU
                  have h1 := hU.l0; have h2 := hU.l1; have h3 := hU.t0; have h4 := hU.t1; have h5 := hU.ord
                  first
                    | (cases hp; done)
                    | (have := notdec_true.1 hb45; omega)
                    | (have := h5 (by omega); omega)
                    | (have := notdec_true.1 hp; omega), by
                  intro hp
                  first
                    | (cases hp; done)
                    | exact ⟨by have := notdec_false.1 hb45; omega, by have := notdec_false.1 hb45; omega, by have := notdec_false.1 hp; omega, by have := notdec_false.1 hp; omega, fun h => by omega⟩, hs⟩
            · refine .qF (i := 12) rfl (by kernel_rfl) rfl rfl ?_
              refine .qF (i := 13) rfl (by kernel_rfl) rfl rfl ?_
              refine .qF (i := 14) rfl (by kernel_rfl) rfl rfl ?_
              refine .qF (i := 15) rfl (by kernel_rfl) rfl rfl ?_
              refine .qF (i := 16) rfl (by kernel_rfl) rfl rfl ?_
              refine .qF (i := 17) rfl (by kernel_rfl) rfl rfl ?_
              refine .qF (i := 18) rfl (by kernel_rfl) rfl rfl ?_
              refine .qF (i := 19) rfl (by kernel_rfl) rfl rfl ?_
              refine .qF (i := 20) rfl (by kernel_rfl) rfl rfl ?_
              refine .qF (i := 21) rfl (by kernel_rfl) rfl rfl ?_
              refine .p (i := 22) rfl (by kernel_rfl) (.some rfl rfl) (q_pickF rfl rfl) ?_
              refine .p (i := 23) rfl (by kernel_rfl) .none (q_pickF rfl rfl) ?_
              refine .p (i := 24) rfl (by kernel_rfl) .none (q_move rfl) ?_
              first | refine .p (i := 25) rfl (by kernel_rfl) (.some rfl rfl) (q_fa0 rfl fa_api_Use_1) ?_ | refine .p (i := 25) rfl (by kernel_rfl) (.some rfl rfl) (q_fa rfl fa_api_Use_1) ?_
              first | refine .load (i := 26) hs rfl (by kernel_rfl) (.some rfl rfl) rfl Try.isAgg3 ?_ | refine .r (i := 26) hs rfl (by kernel_rfl) (.some rfl rfl) (q_loadR rfl Try.isAgg3 (by assumption)) ?_
              refine .e1 (i := 27) (by kernel_rfl) rfl rfl (.some rfl rfl) hs ?_
              refine .call Try.call111 rfl (ref02_within_spec hs) ?_; rintro _ w ⟨rfl, hs⟩
              refine .go ?_
              refine .p (i := 28) rfl (by kernel_rfl) (.some rfl rfl) (q_not rfl) ?_
              refine .p (i := 29) rfl (by kernel_rfl) .none (q_pickF rfl rfl) ?_
              refine .done (by kernel_rfl) hs ?_
              exact nT ⟨_, by repeat (first | exact .nil rfl rfl | refine .cons rfl ?_), by
                intro hp hU
                have h1 := hU.l0; have h2 := hU.l1; have h3 := hU.t0; have h4 := hU.t1; have h5 := hU.ord
                first
                  | (cases hp; done)
                  | (have := notdec_true.1 hb45; omega)
                  | (have := h5 (by omega); omega)
                  | (have := notdec_true.1 hp; omega), by
                intro hp
                first
                  | (cases hp; done)
                  | exact ⟨by have := notdec_false.1 hb45; omega, by have := notdec_false.1 hb45; omega, by have := notdec_false.1 hp; omega, by have := notdec_false.1 hp; omega, fun h => by omega⟩, hs⟩
        · rintro fs w ⟨p, hfs, hp1, hp2, hs⟩
          refine WE.sub ?_ hfs
          refine (.cond rfl (fun hc66 => ?_) (fun hc66 => ?_))
          · refine .regSeq ?_
            refine .q hs (q_assign rfl) ?_
            refine .nil ?_
            refine .ret (rT (rB (rT (rB (rT (Fin.ret1 Try.results32 rfl ?_))))))
            exact ⟨_, rfl, .bad hA (fun h => hp1 hc66 (h.use k hk)), hs.out⟩
          · refine .skip ?_
            refine nT ?_
            refine .regSeq ?_
            have hUk := hp2 (by simpa using hc66)
            have hUs' : ∀ i < k + 1, UseOk s us i := fun i hi => by
              by_cases e : i = k
              · subst e; exact hUk
              · exact hUs i (by omega)
            have hTp := times_pos hUs
            have ht0 := hUk.t0; have ht1 := hUk.t1; have hl0 := hUk.l0; have hl1 := hUk.l1
            have hgl := gl_get (ls := s.lims) (i := (gu us k).l.toNat) (by omega)
            obtain ⟨⟨xa0, xa1⟩, ⟨xb0, xb1⟩, xne, xM, -⟩ := hok.lim _ (List.mem_of_getElem? hgl)
            have hbd1 := bound_bd hok hUs
            have hbd2 := bound_bd hok hUs'
            have hbs : boundTo s us (k + 1) = boundTo s us k + (gu us k).t * (ul s us k).M := rfl
            have hts : timesTo us (k + 1) = timesTo us k + (gu us k).t := rfl
            change 0 ≤ (ul s us k).A at xa0; change (ul s us k).A ≤ s.many at xa1
            change 0 ≤ (ul s us k).B at xb0; change (ul s us k).B ≤ s.many at xb1
            change (ul s us k).A ≠ (ul s us k).B at xne
            have hib := into_bd hUs (ul s us k).B.toNat
            have hia := into_bd hUs (ul s us k).A.toNat
            have hAn : (ul s us k).A.toNat < s.n := by omega
            have hBn : (ul s us k).B.toNat < s.n := by omega
            have hgA := hC2 _ hAn
            have hgB := hC2 _ hBn
            refine .q hs (q_move rfl) ?_
            first | refine .q hs (q_fa0 rfl fa_api_Use_1) ?_ | refine .q hs (q_fa rfl fa_api_Use_1) ?_
            first | refine .q hs (q_load rfl Try.isAgg3) ?_ | refine .q hs (q_loadR rfl Try.isAgg3 (by assumption)) ?_
            first | refine .q hs (q_addF rfl rfl (by omega)) ?_ | refine .q hs (q_addU rfl rfl ⟨by omega, by omega⟩) ?_ | refine .q hs (q_add rfl rfl) ?_
            refine .q hs (q_assign rfl) ?_
            refine .nil ?_
            refine .seq ?_
            refine .regSeq ?_
            refine .q hs (q_move rfl) ?_
            refine .q hs (q_gtr rfl rfl) ?_
            refine .nil ?_
            refine (.condD rfl (fun hc72 => ?_) (fun hc72 => ?_))
            · refine .regSeq ?_
              refine .q hs (q_assign rfl) ?_
              refine .nil ?_
              refine .ret (rT (rB (rT (rB (rT (Fin.ret1 Try.results32 rfl ?_))))))
              exact ⟨_, rfl, .bad hA (fun h => by have := times_le h.use (k := k + 1) (by omega); have := h.tot; omega), hs.out⟩
            · refine .skip ?_
              refine nT ?_
              refine .regSeq ?_
              first | refine .q hs (q_fa0 rfl fa_api_System_1) ?_ | refine .q hs (q_fa rfl fa_api_System_1) ?_
              first | refine .q hs (q_load rfl Try.isAgg30) ?_ | refine .q hs (q_loadR rfl Try.isAgg30 (by assumption)) ?_
              first | refine .q hs (q_fa0 rfl fa_api_Use_0) ?_ | refine .q hs (q_fa rfl fa_api_Use_0) ?_
              first | refine .q hs (q_load rfl Try.isAgg3) ?_ | refine .q hs (q_loadR rfl Try.isAgg3 (by assumption)) ?_
              refine .ixX (enc := Lim.c) hs hr rfl rfl Try.runUnderlying30 Try.sizeOf100 hgl (by omega) ?_; intro b77 o77 hc77
              refine .q hs (q_loadsR (vs := (ul s us k).c) rfl Try.isAgg100 Try.sizeOf100 hc77) ?_
              refine .o (.alloc hs Try.zeroValue100 rfl ?_); intro b13 w hs
              refine .o (.stores (vs := (ul s us k).c) hs rfl rfl Try.sizeOf100 ?_); intro w hs
              refine .nil ?_
              refine .seq (.draw mix rfl hs ?_); intro w hs
              refine .p (i := 0) rfl (by kernel_rfl) .none (q_move rfl) ?_
              first | refine .p (i := 1) rfl (by kernel_rfl) .none (q_fa0 rfl fa_api_Limit_1) ?_ | refine .p (i := 1) rfl (by kernel_rfl) .none (q_fa rfl fa_api_Limit_1) ?_
              first | refine .load (i := 2) hs rfl (by kernel_rfl) .none rfl Try.isAgg3 ?_ | refine .r (i := 2) hs rfl (by kernel_rfl) .none (q_loadR rfl Try.isAgg3 (by assumption)) ?_
              refine .p (i := 3) rfl (by kernel_rfl) .none (q_ixO (k := (ul s us k).B.toNat) rfl rfl Try.runUnderlying22 Try.sizeOf3 (by omega) hBn) ?_
              first | refine .load (i := 4) hs rfl (by kernel_rfl) .none rfl Try.isAgg3 ?_ | refine .r (i := 4) hs rfl (by kernel_rfl) .none (q_loadR rfl Try.isAgg3 (by assumption)) ?_
              first | refine .p (i := 5) rfl (by kernel_rfl) .none (q_fa0 rfl fa_api_Use_1) ?_ | refine .p (i := 5) rfl (by kernel_rfl) .none (q_fa rfl fa_api_Use_1) ?_
              first | refine .load (i := 6) hs rfl (by kernel_rfl) .none rfl Try.isAgg3 ?_ | refine .r (i := 6) hs rfl (by kernel_rfl) .none (q_loadR rfl Try.isAgg3 (by assumption)) ?_
              first | refine .p (i := 7) rfl (by kernel_rfl) .none (q_addF rfl rfl (by omega)) ?_ | refine .p (i := 7) rfl (by kernel_rfl) .none (q_addU rfl rfl ⟨by omega, by omega⟩) ?_ | refine .p (i := 7) rfl (by kernel_rfl) .none (q_add rfl rfl) ?_
              refine .p (i := 8) rfl (by kernel_rfl) .none (q_ixO (k := (ul s us k).B.toNat) rfl rfl Try.runUnderlying22 Try.sizeOf3 (by omega) hBn) ?_
              refine .e1 (i := 9) (by kernel_rfl) rfl rfl .none hs ?_
              refine .store hs rfl rfl Try.sizeOf3 ?_; intro w hs
              refine .go ?_
              refine .done (by kernel_rfl) hs ?_
              have hD1 : (C.set (ul s us k).B.toNat (gi C (ul s us k).B.toNat + (gu us k).t)).length = s.n := by rw [List.length_set]; exact hC1
              have hD2 : ∀ v, gi (C.set (ul s us k).B.toNat (gi C (ul s us k).B.toNat + (gu us k).t)) v = if v = (ul s us k).B.toNat then gi C (ul s us k).B.toNat + (gu us k).t else gi C v := fun v => gi_set (by omega) _ v
              generalize C.set (ul s us k).B.toNat (gi C (ul s us k).B.toNat + (gu us k).t) = D at hs hD1 hD2
              have hgD : gi D (ul s us k).A.toNat = gi C (ul s us k).A.toNat := by rw [hD2, if_neg (by omega)]
              refine .seq (.draw mix rfl hs ?_); intro w hs
              refine .p (i := 0) rfl (by kernel_rfl) .none (q_move rfl) ?_
              first | refine .p (i := 1) rfl (by kernel_rfl) .none (q_fa0 rfl fa_api_Limit_0) ?_ | refine .p (i := 1) rfl (by kernel_rfl) .none (q_fa rfl fa_api_Limit_0) ?_
              first | refine .load (i := 2) hs rfl (by kernel_rfl) .none rfl Try.isAgg3 ?_ | refine .r (i := 2) hs rfl (by kernel_rfl) .none (q_loadR rfl Try.isAgg3 (by assumption)) ?_
              refine .p (i := 3) rfl (by kernel_rfl) .none (q_ixO (k := (ul s us k).A.toNat) rfl rfl Try.runUnderlying22 Try.sizeOf3 (by omega) hAn) ?_
              first | refine .load (i := 4) hs rfl (by kernel_rfl) .none rfl Try.isAgg3 ?_ | refine .r (i := 4) hs rfl (by kernel_rfl) .none (q_loadR rfl Try.isAgg3 (by assumption)) ?_
              first | refine .p (i := 5) rfl (by kernel_rfl) .none (q_fa0 rfl fa_api_Use_1) ?_ | refine .p (i := 5) rfl (by kernel_rfl) .none (q_fa rfl fa_api_Use_1) ?_
              first | refine .load (i := 6) hs rfl (by kernel_rfl) .none rfl Try.isAgg3 ?_ | refine .r (i := 6) hs rfl (by kernel_rfl) .none (q_loadR rfl Try.isAgg3 (by assumption)) ?_
              first | refine .p (i := 7) rfl (by kernel_rfl) .none (q_subF rfl rfl (by omega)) ?_ | refine .p (i := 7) rfl (by kernel_rfl) .none (q_sub rfl rfl) ?_
              refine .p (i := 8) rfl (by kernel_rfl) .none (q_ixO (k := (ul s us k).A.toNat) rfl rfl Try.runUnderlying22 Try.sizeOf3 (by omega) hAn) ?_
              refine .e1 (i := 9) (by kernel_rfl) rfl rfl .none hs ?_
              refine .store hs rfl rfl Try.sizeOf3 ?_; intro w hs
              refine .go ?_
              refine .done (by kernel_rfl) hs ?_
              refine .region ?_
              refine .q hs (q_move rfl) ?_
              first | refine .q hs (q_fa0 rfl fa_api_Use_1) ?_ | refine .q hs (q_fa rfl fa_api_Use_1) ?_
              first | refine .q hs (q_load rfl Try.isAgg3) ?_ | refine .q hs (q_loadR rfl Try.isAgg3 (by assumption)) ?_
              first | refine .q hs (q_fa0 rfl fa_api_Limit_2) ?_ | refine .q hs (q_fa rfl fa_api_Limit_2) ?_
              first | refine .q hs (q_load rfl Try.isAgg3) ?_ | refine .q hs (q_loadR rfl Try.isAgg3 (by assumption)) ?_
              first | refine .q hs (q_mulF rfl rfl (by omega)) ?_ | refine .q hs (q_mulU rfl rfl ⟨by omega, by omega⟩) ?_ | refine .q hs (q_mul rfl rfl) ?_
              first | refine .q hs (q_addF rfl rfl (by omega)) ?_ | refine .q hs (q_addU rfl rfl ⟨by omega, by omega⟩) ?_ | refine .q hs (q_add rfl rfl) ?_
              refine .q hs (q_assign rfl) ?_
              refine .nil ?_
              refine nB (nT ?_)
              exact .mk ⟨rfl, D.set (ul s us k).A.toNat (gi D (ul s us k).A.toNat - (gu us k).t), ⟨by rw [List.length_set]; exact hD1, fun v hv => by
                have hst : intoTo s us (k + 1) v = intoTo s us k v + (gu us k).t * (ind (ul s us k).B.toNat v - ind (ul s us k).A.toNat v) := rfl
                rw [gi_set (by omega), hst, ← hC2 v hv]
                by_cases e1 : v = (ul s us k).A.toNat
                · have i1 : ind (ul s us k).A.toNat v = 1 := by unfold ind; rw [if_pos e1.symm]
                  have i2 : ind (ul s us k).B.toNat v = 0 := by unfold ind; rw [if_neg (by omega)]
                  rw [if_pos e1, hgD, i1, i2, e1]; omega
                · have i1 : ind (ul s us k).A.toNat v = 0 := by unfold ind; rw [if_neg (by omega)]
                  rw [if_neg e1, hD2, i1]
                  by_cases e2 : v = (ul s us k).B.toNat
                  · have i2 : ind (ul s us k).B.toNat v = 1 := by unfold ind; rw [if_pos e2.symm]
                    rw [if_pos e2, i2, e2]; omega
                  · have i2 : ind (ul s us k).B.toNat v = 0 := by unfold ind; rw [if_neg (by omega)]
                    rw [if_neg e2, i2]; omega⟩, hUs', by omega, hs.sub (by repeat (first | exact Sub.refl _ | constructor | apply Sub.weaken))⟩ (hs := .cons rfl (.cons rfl (.cons rfl (.cons rfl (.consI rfl hts.symm (.consI rfl hbs.symm (by repeat (first | exact .nil rfl rfl | refine .cons rfl ?_))))))))
      · rintro fr w ⟨rfl, C, ⟨hC1, hC2⟩, hUs, hTm, hs⟩
        have hlen : us.length ≤ 400 := by omega
        refine nT ?_
        refine .seq ?_
        refine .regSeq ?_
        refine .q hs (q_assign rfl) ?_
        refine .nil ?_
        refine .block ?_
        refine .loop (fun k : Nat => ⟨124, [], [(14, I ((k : Int) + 1)), (8, .slice (some ⟨b28, 0, none⟩) s.n s.n), (10, I (boundTo s us us.length)), (3, .pointer (some ⟨b3, 0, none⟩)), (5, .pointer (some ⟨b5, 0, none⟩)), (1, .slice aw ws.length cw)]⟩)
          (fun k w => (k + 1 ≤ s.n ∧ ∀ v, 1 ≤ v → v < k + 1 → gi C v = gi ws v) ∧ St H w (.blk b28 (Is C) :: .blk b5 [I n, .slice au us.length cu] :: .blk b3 [I s.many, .slice al s.lims.length cl] :: σ))
          (fun k => s.n - k) 0 (by repeat (first | exact .nil rfl rfl | refine .cons rfl ?_)) ⟨⟨s.n_pos, fun v h1 h2 => by omega⟩, hs⟩ ?_
        clear hs
        rintro k w ⟨⟨hk, hno⟩, hs⟩
        refine .seq ?_
        refine .regSeq ?_
        refine .q hs (q_move rfl) ?_
        first | refine .q hs (q_fa0 rfl fa_api_System_0) ?_ | refine .q hs (q_fa rfl fa_api_System_0) ?_
        first | refine .q hs (q_load rfl Try.isAgg3) ?_ | refine .q hs (q_loadR rfl Try.isAgg3 (by assumption)) ?_
        refine .q hs (q_leq rfl rfl) ?_
        refine .nil ?_
        refine (.condD rfl (fun hc108 => ?_) (fun hc108 => ?_))
        · refine .skip ?_
          refine nT ?_
          refine .seq ?_
          refine .block ?_
          refine .seq (.draw mix rfl hs ?_); intro w hs
          have hk1 : k + 1 < s.n := by omega
          refine .p (i := 0) rfl (by kernel_rfl) .none (q_move rfl) ?_
          refine .p (i := 1) rfl (by kernel_rfl) .none (q_move rfl) ?_
          refine .p (i := 2) rfl (by kernel_rfl) .none (q_ixO (k := k + 1) rfl rfl Try.runUnderlying22 Try.sizeOf3 (by push_cast; rfl) hk1) ?_
          first | refine .load (i := 3) hs rfl (by kernel_rfl) .none rfl Try.isAgg3 ?_ | refine .r (i := 3) hs rfl (by kernel_rfl) .none (q_loadR rfl Try.isAgg3 (by assumption)) ?_
          refine .p (i := 4) rfl (by kernel_rfl) .none (q_move rfl) ?_
          refine .p (i := 5) rfl (by kernel_rfl) .none (q_move rfl) ?_
          refine .ixX (enc := fun x => [I x]) (i := 6) hs rfl (by kernel_rfl) .none hrw rfl rfl Try.runUnderlying22 Try.sizeOf3 (gi_get (l := ws) (i := k + 1) (by omega)) (by push_cast; rfl) ?_; intro b117 o117 hc117; replace hc117 := CellsAt.one hc117
          refine .r (i := 7) hs rfl (by kernel_rfl) .none (q_loadR rfl Try.isAgg3 hc117) ?_
          refine .p (i := 8) rfl (by kernel_rfl) .none (q_neq rfl rfl) ?_
          refine .done (by kernel_rfl) hs ?_
          refine (.condN rfl (fun hc119 => ?_) (fun hc119 => ?_))
          · refine .regSeq ?_
            refine .q hs (q_assign rfl) ?_
            refine .nil ?_
            refine .ret (rB (rT (rT (rB (rT (Fin.ret1 Try.results32 rfl ?_))))))
            exact ⟨_, rfl, .bad hA (fun h => hc119 (by rw [hC2 _ hk1]; exact h.into _ (by omega) hk1)), hs.out⟩
          · refine .skip ?_
            refine nB (nT ?_)
            refine .region ?_
            refine .q hs (q_move rfl) ?_
            first | refine .q hs (q_addF rfl rfl (by omega)) ?_ | refine .q hs (q_addU rfl rfl ⟨by omega, by omega⟩) ?_ | refine .q hs (q_add rfl rfl) ?_
            refine .q hs (q_assign rfl) ?_
            refine .nil ?_
            refine nT ?_
            exact ⟨k + 1, .consI rfl (by push_cast; omega) (by repeat (first | exact .nil rfl rfl | refine .cons rfl ?_)), ⟨⟨by omega, fun v h1 h2 => by
              by_cases e : v = k + 1
              · subst e; exact hc119
              · exact hno v h1 (by omega)⟩, hs⟩, by omega⟩
        · refine .exit ?_
          refine xT (xT (xB (nT ?_)))
          refine .seq ?_
          refine .regSeq ?_
          refine .q hs (q_move rfl) ?_
          first | refine .q hs (q_fa0 rfl fa_api_Proof_0) ?_ | refine .q hs (q_fa rfl fa_api_Proof_0) ?_
          first | refine .q hs (q_load rfl Try.isAgg3) ?_ | refine .q hs (q_loadR rfl Try.isAgg3 (by assumption)) ?_
          refine .q hs (q_neq rfl rfl) ?_
          refine .nil ?_
          refine (.condN rfl (fun hc123 => ?_) (fun hc123 => ?_))
          · refine .regSeq ?_
            refine .q hs (q_assign rfl) ?_
            refine .nil ?_
            refine .ret (rT (Fin.ret1 Try.results32 rfl ?_))
            exact ⟨_, rfl, .bad hA (fun h => hc123 h.bound), hs.out⟩
          · refine .skip ?_
            refine nT ?_
            refine .regSeq ?_
            refine .q hs (q_assign rfl) ?_
            refine .nil ?_
            refine .ret (Fin.ret1 Try.results32 rfl ?_)
            exact ⟨_, rfl, .ok hA ⟨hlen, hUs, hTm, fun v h1 h2 => by rw [← hC2 v h2]; exact hno v h1 (by omega), by simpa using hc123⟩, hs.out⟩
end Go.Proofs.Ytiiokdeehlfeeaa
