/-
  Texts of these claims, joined: Mxo Mxp Mxq.
-/
import Derived.Test.YtiiokdeehlfeeaaEb
namespace Go.MW
theorem sound_sub {s t : Syst} (h : s.Sound) (hs : ∀ l ∈ t.lims, l ∈ s.lims) : t.Sound := by
  obtain ⟨p, hp⟩ := h
  exact ⟨p, feas_iff.2 fun l hl => feas_iff.1 hp l (hs l hl)⟩
structure ConfP (s : Syst) (bs : List Int) : Prop where
  src : ∀ x ∈ bs, SrcS s.lims x
  up : bs.Pairwise (· < ·)
  bad : ¬ (s.only bs).Sound
  least : ∀ x ∈ bs, ((s.only bs).wo [x]).Sound
inductive CConfR (s : Syst) (bs : List Int) : Int → Prop
  | bad (h : s.check ≠ 0) : CConfR s bs s.check
  | no (h : s.Ok) (h1 : ¬ ConfP s bs) : CConfR s bs 26
  | ok (h : s.Ok) (h1 : ConfP s bs) : CConfR s bs 0
theorem CConfR.uniq {s : Syst} {bs : List Int} {e f : Int} (h : CConfR s bs e) (g : CConfR s bs f) : e = f := by
  cases h with
  | bad h =>
    cases g with
    | bad => rfl
    | no g _ => exact (h (s.ok_iff.2 g)).elim
    | ok g _ => exact (h (s.ok_iff.2 g)).elim
  | no h h1 =>
    cases g with
    | bad g => exact (g (s.ok_iff.2 h)).elim
    | no => rfl
    | ok _ g1 => exact (h1 g1).elim
  | ok h h1 =>
    cases g with
    | bad g => exact (g (s.ok_iff.2 h)).elim
    | no _ g1 => exact (g1 h1).elim
    | ok => rfl
theorem only_all {s : Syst} {L : List Int} (hL : RiseOf (SrcS s.lims) L) : s.only L = s := by
  unfold Syst.only
  rw [List.filter_eq_self.2 fun l hl => decide_eq_true ((hL.mem _).2 ⟨l, hl, rfl⟩)]
theorem only_wo {s : Syst} {out : List Int} {x : Int} : (s.only out).wo [x] = s.only (out.filter fun y => !decide (y = x)) := by
  unfold Syst.only Syst.wo
  simp only [List.filter_filter]
  congr 1
  apply List.filter_congr
  intro l _
  by_cases h1 : l.S = x <;> by_cases h2 : l.S ∈ out <;> simp [h1, h2]
structure ConfV (s0 : Syst) (L : List Int) (i : Nat) (s : Syst) (out : List Int) : Prop where
  bad : ¬ s.Sound
  up : out.Pairwise (· < ·)
  sub : ∀ x ∈ out, x ∈ L
  low : ∀ j < i, j < L.length → gi L j ∈ out
  eq : s = s0.only out
  least : ∀ j, i ≤ j → j < L.length → gi L j ∈ out → (s.wo [gi L j]).Sound
theorem ConfI.inv {s0 s : Syst} {L out : List Int} {i : Nat} (h : ConfI s0 L i s out) (h0 : ¬ s0.Sound) (hL : RiseOf (SrcS s0.lims) L) : ConfV s0 L i s out := by
  induction h with
  | start =>
    exact ⟨h0, hL.up, fun _ h => h, fun j hj _ => List.mem_of_getElem? (gi_get hj), (only_all hL).symm, fun j h1 h2 => by omega⟩
  | @drop i s out h h1 ih =>
    have hle := h.le
    have hlt : ∀ j k, j < k → k < L.length → gi L j < gi L k := fun j k hjk hk => rise_gi hL hjk hk
    refine ⟨h1, ih.up.filter _, fun x hx => ih.sub x (List.mem_filter.1 hx).1, fun j hj hjl => ?_, ?_, fun j hj hjl hm => ?_⟩
    · have := hlt j i hj (by omega)
      exact List.mem_filter.2 ⟨ih.low j (by omega) hjl, by simp; omega⟩
    · rw [ih.eq, only_wo]
    · obtain ⟨hm1, hm2⟩ := List.mem_filter.1 hm
      by_cases e : j = i
      · subst e; simp at hm2
      · exact sound_sub (ih.least j (by omega) hjl hm1) fun l hl => by
          simp only [Syst.wo, List.mem_filter] at hl ⊢
          exact ⟨hl.1.1, hl.2⟩
  | @keep i s out h h1 ih =>
    have hle := h.le
    refine ⟨ih.bad, ih.up, ih.sub, fun j hj hjl => ih.low j (by omega) hjl, ih.eq, fun j hj hjl hm => ?_⟩
    by_cases e : j = i
    · subst e; exact h1
    · exact ih.least j (by omega) hjl hm
theorem ConfR.conf {s : Syst} {out : List Int} (h : ConfR s out 0) : s.Ok ∧ ¬ s.Sound ∧ ConfP s out ∧ out ≠ [] := by
  generalize hz : (0 : Int) = z at h
  cases h with
  | bad h => exact (h hz.symm).elim
  | none => omega
  | @ok L out t h h1 h2 h3 =>
    have hV := h3.inv h1 h2
    refine ⟨h, h1, ⟨fun x hx => (h2.mem x).1 (hV.sub x hx), hV.up, hV.eq ▸ hV.bad, fun x hx => ?_⟩, fun e => ?_⟩
    · obtain ⟨j, hj⟩ := List.getElem?_of_mem (hV.sub x hx)
      have hjl := (List.getElem?_eq_some_iff.1 hj).1
      have hg := gi_get hjl
      rw [hj] at hg
      cases hg
      rw [← hV.eq]
      exact hV.least j (by omega) hjl hx
    · refine hV.bad ⟨fun _ => 0, feas_iff.2 fun l hl => ?_⟩
      rw [hV.eq, e] at hl
      simp [Syst.only] at hl
theorem wo_others {s : Syst} {L bs os : List Int} (hL : RiseOf (SrcS s.lims) L) (ho : ∀ x, x ∈ os ↔ x ∈ L ∧ x ∉ bs) : s.wo os = s.only bs := by
  unfold Syst.only Syst.wo
  congr 1
  apply List.filter_congr
  intro l hl
  have h1 : l.S ∈ L := (hL.mem _).2 ⟨l, hl, rfl⟩
  by_cases h2 : l.S ∈ bs
  · have : l.S ∉ os := fun h => ((ho _).1 h).2 h2
    simp [h2, this]
  · have : l.S ∈ os := (ho _).2 ⟨h1, h2⟩
    simp [h2, this]
theorem open_iff {s : Syst} {w : List Int} : OpenS s.arcs (s.wt w) s.n ↔ ∃ q : Nat → Int, (∀ v, q v = 0 ∨ q v = 1) ∧ (∀ l ∈ s.lims, q l.A.toNat = 0 → q l.B.toNat = 0) ∧ 0 < sumTo (fun v => s.wt w v * q v) s.n := by
  constructor
  · rintro ⟨q, h1, h2, h3⟩
    refine ⟨q, h1, fun l hl => ?_, h3⟩
    obtain ⟨i, hi⟩ := List.getElem?_of_mem hl
    exact h2 (l.arc i) (List.mem_of_getElem? (arcsOf_get hi))
  · rintro ⟨q, h1, h2, h3⟩
    refine ⟨q, h1, fun x hx => ?_, h3⟩
    obtain ⟨i, l, hl, rfl⟩ := arcsOf_mem hx
    exact h2 l (List.mem_of_getElem? hl)
theorem wt_val' (s : Syst) (w : List Int) (q : Nat → Int) : sumTo (fun v => s.wt w v * q v) s.n = valw w s.n q := wt_val w s.n_pos q
theorem most_sub {s t : Syst} {w : List Int} {n m e f : Int} (ht : t.Ok) (hm : t.many = s.many) (hsub : ∀ l ∈ t.lims, l ∈ s.lims) (hA : askErr s w = 0) (h : MostR s w n e) (g : MostR t w m f) :
    e = 23 ∨ (e = 22 ∧ f = 22) ∨ (e = 0 ∧ ((f = 0 ∧ n ≤ m) ∨ f = 22)) := by
  have hn : t.n = s.n := by unfold Syst.n; rw [hm]
  obtain ⟨_, hl, hz⟩ := askErr_ok hA
  have hB : askErr t w = 0 := askErr_zero ht (by rw [hn]; exact hl) hz
  have hsd : s.Sound → t.Sound := fun h => sound_sub h hsub
  have hop : OpenS s.arcs (s.wt w) s.n → OpenS t.arcs (t.wt w) t.n := fun h => by
    obtain ⟨q, h1, h2, h3⟩ := open_iff.1 h
    refine open_iff.2 ⟨q, h1, fun l hl => h2 l (hsub l hl), ?_⟩
    rw [wt_val'] at h3 ⊢
    rw [hn]; exact h3
  have hfe : ∀ p, Feas s.arcs p → Feas t.arcs p := fun p hp => feas_iff.2 fun l hl => feas_iff.1 hp l (hsub l hl)
  obtain ⟨h1, h2, h3⟩ := h
  obtain ⟨g1, g2, g3⟩ := g
  cases h1 with
  | bad h => exact (h hA).elim
  | clash => exact .inl rfl
  | opn _ hS hO =>
    cases g1 with
    | bad g => exact (g hB).elim
    | clash _ g => exact (g (hsd hS)).elim
    | opn => exact .inr (.inl ⟨rfl, rfl⟩)
    | ok _ _ g => exact (g (hop hO)).elim
  | ok _ hS hO =>
    cases g1 with
    | bad g => exact (g hB).elim
    | clash _ g => exact (g (hsd hS)).elim
    | opn => exact .inr (.inr ⟨rfl, .inr rfl⟩)
    | ok _ _ _ =>
      refine .inr (.inr ⟨rfl, .inl ⟨rfl, ?_⟩⟩)
      obtain ⟨⟨p, hp, hv⟩, _⟩ := opt_val.1 (h3 rfl).1
      have := (opt_val.1 (g3 rfl).1).2 p (hfe p hp)
      rw [hn] at this
      omega
theorem range_most {s : Syst} {w : List Int} {lo hi e : Int} (h : RangeR s w lo hi e) : ∃ a f b g, MostR s w a f ∧ MostR s (negW w) b g ∧ ((f ≠ 0 ∧ e = f ∧ lo = 0 ∧ hi = 0) ∨ (f = 0 ∧ g ≠ 0 ∧ e = g ∧ lo = 0 ∧ hi = 0) ∨ (f = 0 ∧ g = 0 ∧ e = 0 ∧ lo = -b ∧ hi = a)) := by
  cases h with
  | first h he =>
    obtain ⟨b, g, hb⟩ := mostR_some s (negW w)
    exact ⟨_, _, b, g, h, hb, .inl ⟨he, rfl, rfl, rfl⟩⟩
  | second h h2 he => exact ⟨_, 0, _, _, h, h2, .inr (.inl ⟨rfl, he, rfl, rfl, rfl⟩)⟩
  | ok h h2 => exact ⟨_, 0, _, 0, h, h2, .inr (.inr ⟨rfl, rfl, rfl, rfl, rfl⟩)⟩
theorem range_sub {s t : Syst} {w : List Int} {lo hi low high e f : Int} (ht : t.Ok) (hm : t.many = s.many) (hsub : ∀ l ∈ t.lims, l ∈ s.lims) (hA : askErr s w = 0) (h : RangeR s w lo hi e) (g : RangeR t w low high f) :
    e = 23 ∨ (e = 22 ∧ f = 22) ∨ (e = 0 ∧ ((f = 0 ∧ low ≤ lo ∧ hi ≤ high) ∨ f = 22)) := by
  obtain ⟨a, e1, b, e2, h1, h2, h3⟩ := range_most h
  obtain ⟨c, f1, d, f2, g1, g2, g3⟩ := range_most g
  have k1 := most_sub ht hm hsub hA h1 g1
  have k2 := most_sub ht hm hsub (by rw [askErr_neg]; exact hA) h2 g2
  omega
theorem most_same {s t : Syst} {w : List Int} {n e : Int} (hs : s.Ok) (ht : t.Ok) (hm : t.many = s.many) (hf : ∀ p, Feas s.arcs p ↔ Feas t.arcs p) (h : MostR s w n e) : MostR t w n e := by
  have hn : t.n = s.n := by unfold Syst.n; rw [hm]
  have hask : askErr t w = askErr s w := by
    have e1 := t.ok_iff.2 ht
    have e2 := s.ok_iff.2 hs
    unfold askErr
    rw [e1, e2, hn]
  have hsd : s.Sound ↔ t.Sound := ⟨fun ⟨p, hp⟩ => ⟨p, (hf p).1 hp⟩, fun ⟨p, hp⟩ => ⟨p, (hf p).2 hp⟩⟩
  have hopt : ∀ m, OptS s.arcs (s.wt w) s.n m → OptS t.arcs (t.wt w) t.n m := fun m ho => by
    obtain ⟨⟨p, hp, hv⟩, hall⟩ := opt_val.1 ho
    exact opt_val.2 ⟨⟨p, (hf p).1 hp, by rw [hn]; exact hv⟩, fun q hq => by rw [hn]; exact hall q ((hf q).2 hq)⟩
  have hopt' : ∀ m, OptS t.arcs (t.wt w) t.n m → OptS s.arcs (s.wt w) s.n m := fun m ho => by
    obtain ⟨⟨p, hp, hv⟩, hall⟩ := opt_val.1 ho
    exact opt_val.2 ⟨⟨p, (hf p).2 hp, by rw [← hn]; exact hv⟩, fun q hq => by rw [← hn]; exact hall q ((hf q).1 hq)⟩
  obtain ⟨h1, h2, h3⟩ := h
  cases h1 with
  | bad h => rw [← hask] at h ⊢; exact ⟨.bad h, fun _ => h2 (by rw [← hask]; exact h), fun g => (h g).elim⟩
  | clash h g => exact ⟨.clash (by rw [hask]; exact h) fun k => g (hsd.2 k), h2, fun k => by omega⟩
  | opn h g k =>
    refine ⟨.opn (by rw [hask]; exact h) (hsd.1 g) ?_, h2, fun k => by omega⟩
    obtain ⟨_, hl, hz⟩ := askErr_ok (by rw [hask]; exact h : askErr t w = 0)
    rcases ht.opt (hsd.1 g) hl hz with ⟨m, ho, _⟩ | ho
    · exact ((hs.bd (by rw [← hn]; exact hl) hz (hopt' m ho)).1 k).elim
    · exact ho
  | ok h g k =>
    obtain ⟨ho, hb1, hb2⟩ := h3 rfl
    obtain ⟨_, hl, hz⟩ := askErr_ok (by rw [hask]; exact h : askErr t w = 0)
    exact ⟨.ok (by rw [hask]; exact h) (hsd.1 g) (ht.bd hl hz (hopt n ho)).1, h2, fun _ => ⟨hopt n ho, hb1, hb2⟩⟩
theorem range_same {s t : Syst} {w : List Int} {lo hi e : Int} (hs : s.Ok) (ht : t.Ok) (hm : t.many = s.many) (hf : ∀ p, Feas s.arcs p ↔ Feas t.arcs p) (h : RangeR s w lo hi e) : RangeR t w lo hi e := by
  cases h with
  | first h he => exact .first (most_same hs ht hm hf h) he
  | second h h2 he => exact .second (most_same hs ht hm hf h) (most_same hs ht hm hf h2) he
  | ok h h2 => exact .ok (most_same hs ht hm hf h) (most_same hs ht hm hf h2)
theorem but_mem {s : Syst} {i : Nat} {l : Lim} (h : l ∈ (s.but i).lims) : l ∈ s.lims := by
  rcases List.mem_append.1 h with h | h
  · exact List.mem_of_mem_take h
  · exact List.mem_of_mem_drop h
theorem but_len (s : Syst) (i : Nat) : (s.but i).lims.length ≤ s.lims.length := by
  simp only [Syst.but, List.length_append, List.length_take, List.length_drop]; omega
theorem Syst.Ok.but {s : Syst} (h : s.Ok) (i : Nat) : (s.but i).Ok :=
  ⟨h.m0, h.m1, Nat.le_trans (but_len s i) h.len, fun l hl => h.lim l (but_mem hl)⟩
def IdleP (s : Syst) (i : Nat) : Prop := ∃ rs, Sq s.n rs ∧ WaysT s.n s.arcs (gt rs) ∧ WaysT s.n (s.but i).arcs (gt rs)
inductive IdleR (s : Syst) : List Int → Int → Prop
  | bad (h : s.check ≠ 0) : IdleR s [] s.check
  | clash (h : s.Ok) (h1 : ¬ s.Sound) : IdleR s [] 23
  | ok {L : List Int} (h : s.Ok) (h1 : s.Sound) (g : RiseOf (fun x => ∃ i : Nat, x = i ∧ i < s.lims.length ∧ IdleP s i) L) : IdleR s L 0
theorem IdleR.uniq {s : Syst} {A B : List Int} {e f : Int} (h : IdleR s A e) (g : IdleR s B f) : A = B ∧ e = f := by
  cases h with
  | bad h =>
    cases g with
    | bad => exact ⟨rfl, rfl⟩
    | clash g _ => exact (h (s.ok_iff.2 g)).elim
    | ok g _ _ => exact (h (s.ok_iff.2 g)).elim
  | clash h h1 =>
    cases g with
    | bad g => exact (g (s.ok_iff.2 h)).elim
    | clash => exact ⟨rfl, rfl⟩
    | ok _ g1 _ => exact (h1 g1).elim
  | ok h h1 h2 =>
    cases g with
    | bad g => exact (g (s.ok_iff.2 h)).elim
    | clash _ g1 => exact (g1 h1).elim
    | ok _ _ g2 => exact ⟨h2.uniq g2, rfl⟩
theorem idle_iff {s : Syst} {i : Nat} {as bs : List (List Int)} (hok : s.Ok) (hs : s.Sound) (ha : Sq s.n as) (hb : Sq s.n bs) (h : WaysT s.n s.arcs (gt as)) (g : WaysT s.n (s.but i).arcs (gt bs)) : as = bs ↔ IdleP s i := by
  constructor
  · rintro rfl; exact ⟨as, ha, h, g⟩
  · rintro ⟨rs, h1, h2, h3⟩
    rw [rows_same hok hs ha h1 h h2]
    exact (rows_same (hok.but i) (sound_sub hs fun l hl => but_mem hl) hb h1 g h3).symm
theorem ways_feas {n : Nat} {es : List Arc} {T : Nat → Nat → Int} (h : WaysT n es T) (hin : ∀ x ∈ es, x.f < n ∧ x.t < n ∧ x.f ≠ x.t ∧ -20000 ≤ x.c ∧ x.c ≤ 20000) {p : Nat → Int} (hp : ∀ i j, i < n → j < n → T i j ≠ free → p j - p i ≤ T i j) : Feas es p := fun x hx => by
  obtain ⟨b1, b2, b3, b4, b5⟩ := hin x hx
  have h1 := h.dom x.f x.t b1 b2 [] x.c .nil (fun _ h => by cases h) ⟨x, hx, rfl, rfl, rfl⟩
  have h2 := hp x.f x.t b1 b2 (by simp only [free]; omega)
  omega
theorem IdleP.feas {s : Syst} {i : Nat} (hok : s.Ok) (h : IdleP s i) (p : Nat → Int) : Feas s.arcs p ↔ Feas (s.but i).arcs p := by
  obtain ⟨rs, _, h2, h3⟩ := h
  constructor
  · intro hp; exact ways_feas h3 (hok.but i).inn fun i j hi hj hne => h2.lo i j hi hj hne p hp
  · intro hp; exact ways_feas h2 hok.inn fun i j hi hj hne => h3.lo i j hi hj hne p hp
end Go.MW

namespace Go.MW
variable {n : Nat} {es : List Arc} {T : Nat → Nat → Int} {p : Nat → Int} {X : List Int}
theorem Wk.small (hb : ∀ x ∈ es, -100 ≤ x.c ∧ x.c ≤ 100) {L : List Nat} : ∀ {i j : Nat} {c : Int}, Wk es i L j c → -(100 * (L.length + 1 : Int)) ≤ c ∧ c ≤ 100 * (L.length + 1 : Int) := by
  induction L with
  | nil =>
    rintro i j c ⟨x, h1, h2, h3, rfl⟩
    have := hb x h1
    simpa using this
  | cons v L ih =>
    rintro i j c ⟨x, h1, h2, h3, h4⟩
    have h5 := ih h4
    have := hb x h1
    simp only [List.length_cons]
    omega
theorem WaysT.small (h : WaysT n es T) (hin : ∀ x ∈ es, x.f < n ∧ x.t < n ∧ x.f ≠ x.t ∧ -20000 ≤ x.c ∧ x.c ≤ 20000) (hp : Feas es p) (hb : ∀ x ∈ es, -100 ≤ x.c ∧ x.c ≤ 100) {i j : Nat} (hi : i < n) (hj : j < n) (hne : T i j ≠ free) :
    -(100 * (n + 1 : Int)) ≤ T i j ∧ T i j ≤ 100 * (n + 1 : Int) := by
  by_cases e : j = i
  · subst e
    have e1 := h.dg j hj
    have e2 := h.lo j j hj hj hne p hp
    omega
  · obtain ⟨L, c, h1, h2⟩ := h.walk hp hi hj hne e
    obtain ⟨L', c', k1, k2, k3, k4⟩ := h1.simpleF hp L.length (Nat.le_refl _)
    have k5 := h.le_walk hin hp hi hj k4
    have k6 := Wk.small hb k4
    have k7 := nodup_le k1 (k4.mem hin)
    have : c' = T i j := by omega
    subst this
    omega
theorem PtsR.small {f : Int → Int → Int} {B : Int} (hB : 0 ≤ B) (hf : ∀ i n : Int, 1 ≤ n → 0 ≤ f i n ∧ f i n < n) (ht : TabS n T) (hb : ∀ i j, i < n → j < n → T i j ≠ free → -B ≤ T i j ∧ T i j ≤ B) (h : PtsR T f X) :
    X.length ≤ n → ∀ v < X.length, -(B * (v : Int)) ≤ gi X v ∧ gi X v ≤ B * (v : Int) := by
  induction h with
  | start => intro _ v hv; simp at hv; subst hv; simp [gi]
  | @snoc X lo hi h h1 h2 ih =>
    intro hl v hv
    simp only [List.length_append, List.length_singleton] at hl hv
    have g := h.inv hf ht (by omega)
    have ih := ih (by omega)
    rw [gi_snoc]
    by_cases e : v < X.length
    · rw [if_pos e]; exact ih v e
    · rw [if_neg e, if_pos (by omega), show v = X.length by omega]
      have mono : ∀ a : Nat, a < X.length → B * (a : Int) + B ≤ B * (X.length : Int) := fun a ha => by
        have := Int.mul_le_mul_of_nonneg_left (show (a : Int) + 1 ≤ X.length by omega) hB
        rw [Int.mul_add, Int.mul_one] at this
        exact this
      have h0 : 0 ≤ B * (X.length : Int) := Int.mul_nonneg hB (by omega)
      have k1 : lo ≠ -free → -(B * (X.length : Int)) ≤ lo ∧ lo ≤ B * (X.length : Int) := fun e => by
        rcases h1.2 with ⟨g, _⟩ | ⟨a', g1, g2, g3⟩
        · exact (e g).elim
        · have := hb X.length a' (by omega) (by omega) g2; have := ih a' (by omega); have := mono a' g1; omega
      have k2 : hi ≠ free → -(B * (X.length : Int)) ≤ hi ∧ hi ≤ B * (X.length : Int) := fun e => by
        rcases h2.2 with ⟨g, _⟩ | ⟨a', g1, g2, g3⟩
        · exact (e g).elim
        · have := hb a' X.length (by omega) (by omega) g2; have := ih a' (by omega); have := mono a' g1; omega
      unfold chooseI
      by_cases e1 : lo = -free
      · by_cases e2 : hi = free
        · rw [if_neg (by omega), if_neg (by omega)]; omega
        · rw [if_neg (by omega), if_pos e2]; exact k2 e2
      · by_cases e2 : hi = free
        · rw [if_pos e1, if_neg (by omega)]; exact k1 e1
        · have e3 := g.le ht (by omega) rfl h1 h2 e1 e2
          have e4 := hf (X.length - 1) (hi - lo + 1) (by omega)
          rw [if_pos e1, if_pos e2]
          have := k1 e1; have := k2 e2; omega
theorem made_point {r : Syst} {picks x : List Int} (hs : (madeS r).Sound) (h : PointP (madeS r) picks x) : x.length = (madeS r).n ∧ gi x 0 = 0 ∧ Feas (madeS r).arcs (gi x) ∧ ∀ v < x.length, -5600 ≤ gi x v ∧ gi x v ≤ 5600 := by
  obtain ⟨h1, h2, _, h4⟩ := h.feas (madeS_ok r) hs
  refine ⟨h1, h2, h4, fun v hv => ?_⟩
  obtain ⟨T, hT, hP, hl⟩ := h
  obtain ⟨p, hp⟩ := hs
  have hn := madeS_n r
  have hm := madeN_bd r
  have hc : ∀ y ∈ (madeS r).arcs, -100 ≤ y.c ∧ y.c ≤ 100 := fun y hy => by
    obtain ⟨i, l, hl, rfl⟩ := arcsOf_mem hy
    obtain ⟨z, rfl⟩ := mem_madeS (List.mem_of_getElem? hl)
    have := (madeLim_ok hm z).2.2.2.1
    show -100 ≤ (madeLim (madeN r) z).M ∧ (madeLim (madeN r) z).M ≤ 100
    omega
  have h5 := hP.small (n := (madeS r).n) (B := 800) (by omega) (fun i n hn => pickI_bd picks i hn) ((madeS_ok r).tabS ⟨p, hp⟩ hT) (fun i j hi hj hne => by
    have := hT.small (madeS_ok r).inn hp hc hi hj hne
    omega) (by omega) v hv
  omega
theorem sumTo_comm (f : Nat → Nat → Int) (m : Nat) : ∀ k, sumTo (fun i => sumTo (fun v => f i v) m) k = sumTo (fun v => sumTo (fun i => f i v) k) m
  | 0 => (sumTo_zero m).symm
  | k + 1 => by
    simp only [sumTo]
    rw [sumTo_comm f m k, ← sumTo_add]
theorem sumTo_mulc (f : Nat → Int) (c : Int) : ∀ n, sumTo (fun v => f v * c) n = sumTo f n * c
  | 0 => by simp [sumTo]
  | n + 1 => by simp only [sumTo]; rw [sumTo_mulc f c n, Int.add_mul]
theorem gl_mem {ls : List Lim} {i : Nat} (h : i < ls.length) : gl ls i ∈ ls := List.mem_of_getElem? (gl_get h)
theorem proof_weak {s : Syst} {w : List Int} {n : Int} {us : List Use} (hok : s.Ok) (h : ProofOk s w n us) {p : Nat → Int} (hp : Feas s.arcs p) : valw w s.n p ≤ n := by
  have hin : ∀ i < us.length, ul s us i ∈ s.lims := fun i hi => gl_mem (by have := (h.use i hi).l0; have := (h.use i hi).l1; omega)
  have h1 : sumTo (fun i => (gu us i).t * ((p (ul s us i).B.toNat - p 0) - (p (ul s us i).A.toNat - p 0))) us.length ≤ n := by
    rw [← h.bound]
    refine sumTo_le fun i hi => ?_
    have h2 := feas_iff.1 hp _ (hin i hi)
    have h3 := (h.use i hi).t0
    exact Int.mul_le_mul_of_nonneg_left (by omega) (by omega)
  have h2 : sumTo (fun i => (gu us i).t * ((p (ul s us i).B.toNat - p 0) - (p (ul s us i).A.toNat - p 0))) us.length = valw w s.n p := by
    have h3 : ∀ i < us.length, (gu us i).t * ((p (ul s us i).B.toNat - p 0) - (p (ul s us i).A.toNat - p 0)) = sumTo (fun v => (gu us i).t * (ind (ul s us i).B.toNat v - ind (ul s us i).A.toNat v) * (p v - p 0)) s.n := fun i hi => by
      obtain ⟨⟨a1, a2⟩, ⟨b1, b2⟩, _⟩ := hok.lim _ (hin i hi)
      have hn : (s.n : Int) = s.many + 1 := by have := hok.m0; simp only [Syst.n]; omega
      rw [sumTo_mulr, sumTo_congr (g := fun v => ind (ul s us i).B.toNat v * (p v - p 0) - ind (ul s us i).A.toNat v * (p v - p 0)) (fun v _ => by rw [Int.sub_mul]), sumTo_sub, ind_sum (by omega) (fun v => p v - p 0), ind_sum (by omega) (fun v => p v - p 0)]
    rw [sumTo_congr h3, sumTo_comm]
    refine sumTo_congr fun v hv => ?_
    rw [sumTo_mulc]
    by_cases e : v = 0
    · subst e; rw [Int.sub_self, Int.mul_zero, Int.mul_zero]
    · have := h.into v (by omega) hv
      unfold intoTo at this
      rw [this]
  omega
variable {s : Syst} {bs : List Int}
theorem leftAt_mono {i j : Nat} (h : i ≤ j) (hj : j ≤ s.lims.length) : leftAt s bs i ≤ leftAt s bs j := by
  induction j with
  | zero => obtain rfl : i = 0 := by omega
            exact Nat.le_refl _
  | succ j ih =>
    by_cases e : i = j + 1
    · subst e; exact Nat.le_refl _
    · obtain ⟨x, hx⟩ := nth (l := s.lims) (k := j) (by omega)
      have := leftAt_succ (bs := bs) hx
      have := ih (by omega) (by omega)
      omega
theorem wo_at {k : Nat} (hk : k < s.lims.length) (hb : (gl s.lims k).S ∉ bs) : (s.wo bs).lims[leftAt s bs k]? = some (gl s.lims k) := by
  have h1 : s.lims = s.lims.take k ++ gl s.lims k :: s.lims.drop (k + 1) := by
    conv => lhs; rw [← List.take_append_drop k s.lims]
    congr 1
    rw [List.drop_eq_getElem_cons hk]
    congr 1
    have := gl_get hk
    rw [List.getElem?_eq_getElem hk] at this
    exact Option.some.inj this
  have h2 : (s.wo bs).lims = ((s.lims.take k).filter fun l => !decide (l.S ∈ bs)) ++ gl s.lims k :: (s.lims.drop (k + 1)).filter fun l => !decide (l.S ∈ bs) := by
    show s.lims.filter _ = _
    conv => lhs; rw [h1]
    rw [List.filter_append, List.filter_cons, if_pos (by simp [hb])]
  rw [h2]
  unfold leftAt
  rw [List.getElem?_append_right (Nat.le_refl _), Nat.sub_self]
  rfl
theorem gu_map (f : Use → Use) {us : List Use} {i : Nat} (h : i < us.length) : gu (us.map f) i = f (gu us i) := by
  have h1 := gu_get h
  have h2 : (us.map f)[i]? = some (f (gu us i)) := by rw [List.getElem?_map, h1]; rfl
  simp only [gu, List.getD] at h2 ⊢
  rw [h2]; rfl
theorem carry_ok {w : List Int} {n : Int} {us : List Use} (h : ProofOk s w n us) (hb : ∀ u ∈ us, (lmA s u.l).S ∉ bs) : ProofOk (s.wo bs) w n (us.map (carryU s bs)) := by
  have hidx : ∀ i < us.length, (gu us i).l.toNat < s.lims.length := fun i hi => by have := (h.use i hi).l0; have := (h.use i hi).l1; omega
  have hnb : ∀ i < us.length, (gl s.lims (gu us i).l.toNat).S ∉ bs := fun i hi => hb _ (List.mem_of_getElem? (gu_get hi))
  have hul : ∀ i < us.length, ul (s.wo bs) (us.map (carryU s bs)) i = ul s us i := fun i hi => by
    unfold ul
    rw [gu_map _ hi]
    show gl (s.wo bs).lims (leftAt s bs (gu us i).l.toNat) = _
    have := wo_at (hidx i hi) (hnb i hi)
    unfold gl at this ⊢
    simp only [List.getD, this, Option.getD_some]
  have hlen : (us.map (carryU s bs)).length = us.length := List.length_map _
  refine ⟨by rw [hlen]; exact h.len, fun i hi => ?_, ?_, fun v h1 h2 => ?_, ?_⟩
  · rw [hlen] at hi
    have h0 := h.use i hi
    have hlt := (List.getElem?_eq_some_iff.1 (wo_at (hidx i hi) (hnb i hi))).1
    refine ⟨?_, ?_, ?_, ?_, fun hp => ?_⟩
    · rw [gu_map _ hi]; exact Int.natCast_nonneg _
    · rw [gu_map _ hi]; show ((leftAt s bs (gu us i).l.toNat : Nat) : Int) < _; omega
    · rw [gu_map _ hi]; exact h0.t0
    · rw [gu_map _ hi]; exact h0.t1
    · rw [gu_map _ hi, gu_map _ (by omega)]
      have h3 := h0.ord hp
      have h4 := (h.use (i - 1) (by omega)).l0
      have h5 := hidx (i - 1) (by omega)
      have h6 := leftAt_succ (bs := bs) (gl_get h5)
      rw [if_neg (hnb (i - 1) (by omega))] at h6
      have h7 := leftAt_mono (s := s) (bs := bs) (i := (gu us (i - 1)).l.toNat + 1) (j := (gu us i).l.toNat) (by omega) (by have := hidx i hi; omega)
      show ((leftAt s bs (gu us (i - 1)).l.toNat : Nat) : Int) < ((leftAt s bs (gu us i).l.toNat : Nat) : Int)
      omega
  · rw [hlen]
    have e : timesTo (us.map (carryU s bs)) us.length = timesTo us us.length := sumTo_congr fun i hi => by rw [gu_map _ hi]; rfl
    rw [e]; exact h.tot
  · rw [hlen]
    have e : intoTo (s.wo bs) (us.map (carryU s bs)) us.length v = intoTo s us us.length v := sumTo_congr fun i hi => by rw [hul i hi, gu_map _ hi]; rfl
    rw [e]; exact h.into v h1 h2
  · rw [hlen]
    have e : boundTo (s.wo bs) (us.map (carryU s bs)) us.length = boundTo s us us.length := sumTo_congr fun i hi => by rw [hul i hi, gu_map _ hi]; rfl
    rw [e]; exact h.bound
end Go.MW

namespace Go.MW
section
variable {P : Program} {s : FS} {H : Heap} {σ : List Ent} {t : TypeId} {x y : Operand}
end
theorem Fin.ret5 {P : Program} {n : Nat} {e : List (Nat × Value)} {w : World} {fn : Func} {R : Value → World → Prop} {t1 t2 t3 t4 t5 : Tmp} {v1 v2 v3 v4 v5 : Value} (hr : fn.results = #[.tmp t1, .tmp t2, .tmp t3, .tmp t4, .tmp t5]) (h1 : get e t1 = some v1) (h2 : get e t2 = some v2) (h3 : get e t3 = some v3) (h4 : get e t4 = some v4) (h5 : get e t5 = some v5) (h : R (.tuple #[v1, v2, v3, v4, v5]) w) : Fin P fn R .ret ⟨n, [], e⟩ w :=
  ⟨_, fun a ha => by have e1 := ha.val _ _ h1; have e2 := ha.val _ _ h2; have e3 := ha.val _ _ h3; have e4 := ha.val _ _ h4; have e5 := ha.val _ _ h5; simp [results, hr]; simp at e1 e2 e3 e4 e5; exact ⟨e1, e2, e3, e4, e5⟩, h⟩
theorem between_keep {a d xa xb ya yb M : Int} (h0 : 0 ≤ a) (h1 : a ≤ d) (hx : xb ≤ xa + M) (hy : yb ≤ ya + M) : (d * xb + a * (yb - xb)) - (d * xa + a * (ya - xa)) ≤ d * M := by
  have e1 := Int.mul_le_mul_of_nonneg_left (show xb - xa ≤ M by omega) (show 0 ≤ d - a by omega)
  have e2 := Int.mul_le_mul_of_nonneg_left (show yb - ya ≤ M by omega) h0
  simp only [Int.mul_sub, Int.sub_mul] at *
  omega
theorem between_sum (w x y : List Int) (d a : Int) : ∀ n, sumTo (fun v => gi w v * (d * gi x v + a * (gi y v - gi x v))) n = d * sumTo (fun v => gi w v * gi x v) n + a * (sumTo (fun v => gi w v * gi y v) n - sumTo (fun v => gi w v * gi x v) n)
  | 0 => by simp [sumTo]
  | n + 1 => by
    simp only [sumTo]
    rw [between_sum w x y d a n]
    simp only [Int.mul_sub, Int.mul_add, Int.mul_left_comm (gi w n)]
    omega
theorem best_point {s : Syst} (h : s.Ok) (hs : s.Sound) {w : List Int} (hl : w.length = s.n) (hz : SizedW w) {m : Int} (ho : OptS s.arcs (s.wt w) s.n m) :
    ∃ p, Feas s.arcs p ∧ valw w s.n p = m ∧ ∀ v < s.n, -1280000 ≤ p v - p 0 ∧ p v - p 0 ≤ 1280000 := by
  have hn := s.n_pos
  have hn1 := h.n65
  have hw : sizesTo w s.n ≤ FF := by unfold SizedW at hz; rwa [hl] at hz
  have h0 := FInv.start (es := s.arcs) (w := w) (lf := (List.range s.n).map (wtOf w s.n)) (k := s.many.toNat) hw (by simp [Syst.n]) (fun v hv => by rw [gi_map_range, if_pos (show v < s.n from hv)]; rfl) hs
  have hc : ArcsC s.arcs s.n := fun x hx => by have := h.arcs.2 x hx; omega
  rcases flow_exists (wt := wtOf w s.n) hn hn1 hc h.numb (wt_sum w hn) _ h0 (Nat.le_refl _) with ⟨ts, g⟩ | g
  · obtain ⟨D, hg⟩ := resid_WG hn hn1 h.arcs g.lt.symm g.fe
    obtain ⟨k1, k2⟩ := g.point hn h.arcs hg.fe
    refine ⟨D, k2, ?_, fun v hv => ?_⟩
    · show sumTo (fun v => gi w v * (D v - D 0)) s.n = m
      rw [k1]
      exact (g.value hn hn1 h.arcs hw).1.uniq ho
    · have a1 := hg.d0 v
      have a2 := hg.d1 v hv
      have a3 := hg.d0 0
      have a4 := hg.d1 0 hn
      omega
  · obtain ⟨p, hp⟩ := hs
    exact (g.no hp ho.2).elim
theorem small_most {s : Syst} {w : List Int} {m : Int} (hn : s.n ≤ 7) (hw : ∀ v, -30 ≤ gi w v ∧ gi w v ≤ 30) (h : MostR s w m 0) : -268800000 ≤ m ∧ m ≤ 268800000 := by
  obtain ⟨hA, hS, _⟩ := h.1.zero
  obtain ⟨h1, h2, h3⟩ := askErr_ok hA
  obtain ⟨p, p1, p2, p3⟩ := best_point h1 hS h2 h3 (h.2.2 rfl).1
  have h4 := sumTo_abs (f := fun v => gi w v * (p v - p 0)) (B := 38400000) (n := s.n) fun v hv => by
    have a1 := mul_size (a := gi w v) (p3 v hv)
    have a2 := hw v
    omega
  unfold valw at p2
  omega
theorem ask_kinds {s : Syst} {w : List Int} {e : Int} (hA : askErr s w = 0) (h : AskR s w e) : e = 23 ∨ e = 22 ∨ e = 0 := by
  cases h with
  | bad h => exact (h hA).elim
  | clash => exact .inl rfl
  | opn => exact .inr (.inl rfl)
  | ok => exact .inr (.inr rfl)
theorem ask_sound {s : Syst} {w : List Int} {e : Int} (hA : askErr s w = 0) (hs : s.Sound) (h : AskR s w e) : (e = 22 ∧ OpenS s.arcs (s.wt w) s.n) ∨ (e = 0 ∧ ¬ OpenS s.arcs (s.wt w) s.n) := by
  by_cases ho : OpenS s.arcs (s.wt w) s.n
  · exact .inl ⟨h.uniq (.opn hA hs ho), ho⟩
  · exact .inr ⟨h.uniq (.ok hA hs ho), ho⟩
theorem range_le {s : Syst} {w : List Int} {lo hi : Int} (h : RangeR s w lo hi 0) : lo ≤ hi := by
  obtain ⟨a, f, b, g, h1, h2, h3⟩ := range_most h
  have hf : f = 0 := by omega
  have hg : g = 0 := by omega
  subst hf; subst hg
  obtain ⟨⟨p, hp, hv⟩, _⟩ := opt_val.1 (h1.2.2 rfl).1
  have h4 := (opt_val.1 (h2.2.2 rfl).1).2 p hp
  rw [valw_neg] at h4
  omega
theorem small_range {s : Syst} {w : List Int} {lo hi e : Int} (hA : askErr s w = 0) (hn : s.n ≤ 7) (hw : ∀ v, -30 ≤ gi w v ∧ gi w v ≤ 30) (h : RangeR s w lo hi e) : e = 23 ∨ e = 22 ∨ (e = 0 ∧ -268800000 ≤ lo ∧ lo ≤ hi ∧ hi ≤ 268800000) := by
  by_cases he : e = 0
  · subst he
    have h0 := range_le h
    obtain ⟨a, f, b, g, h1, h2, h3⟩ := range_most h
    have hf : f = 0 := by omega
    have hg : g = 0 := by omega
    subst hf; subst hg
    have k1 := small_most hn hw h1
    have k2 := small_most hn (fun v => by rw [gi_neg]; have := hw v; omega) h2
    omega
  · obtain ⟨a, f, b, g, h1, h2, h3⟩ := range_most h
    have k1 := ask_kinds hA h1.1
    have k2 := ask_kinds (by rw [askErr_neg]; exact hA) h2.1
    omega
theorem best_hi {s : Syst} {w x : List Int} {lo hi : Int} (h : RangeR s w lo hi 0) (g : BestR s w x) : sumTo (fun v => gi w v * gi x v) s.n = hi := by
  obtain ⟨a, f, b, e, h1, h2, h3⟩ := range_most h
  have hf : f = 0 := by omega
  subst hf
  have := g.sum.uniq (h1.2.2 rfl).1
  omega
theorem best_lo {s : Syst} {w x : List Int} {lo hi : Int} (h : RangeR s w lo hi 0) (g : BestR s (negW w) x) : sumTo (fun v => gi w v * gi x v) s.n = lo := by
  obtain ⟨a, f, b, e, h1, h2, h3⟩ := range_most h
  have he : e = 0 := by omega
  subst he
  have h4 := g.sum.uniq (h2.2.2 rfl).1
  rw [sumTo_congr (g := fun v => -(gi w v * gi x v)) (fun v _ => by rw [gi_neg, Int.neg_mul]), sumTo_neg] at h4
  omega
inductive BetR (s : Syst) (w : List Int) (z : Int) : List Int → List Int → Int → Int → Int → Prop
  | bad {lo hi e : Int} (h : RangeR s w lo hi e) (he : e ≠ 0) : BetR s w z [] [] 0 0 e
  | none {lo hi : Int} (h : RangeR s w lo hi 0) (h1 : ¬ (lo ≤ z ∧ z ≤ hi)) : BetR s w z [] [] 0 0 3
  | ok {lo hi n d : Int} {x y : List Int} (h : RangeR s w lo hi 0) (h1 : lo ≤ z ∧ z ≤ hi) (hx : BestR s (negW w) x) (hy : BestR s w y) (hn : (lo = hi ∧ n = 0 ∧ d = 1) ∨ (lo ≠ hi ∧ n = z - lo ∧ d = hi - lo)) : BetR s w z x y n d 0
end Go.MW
