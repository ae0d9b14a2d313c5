/-
  Texts of this claim, joined: Mwv Mwx Mwy Wt Wu.
-/
import Derived.Test.YtiiokdeehlfeeaaKp
import Derived.Test.YtiiokdeehlfeeaaKn
import Derived.Test.YtiiokdeehlfeeaaKc
/-
  Tables: slices of slices of ints, of the call's own or known to all. No program is named here.
-/
namespace Go.MW
def gr (rs : List (List Int)) (i : Nat) : List Int := rs.getD i []
theorem gr_get {rs : List (List Int)} {i : Nat} (h : i < rs.length) : rs[i]? = some (gr rs i) := by
  simp [gr, List.getD, List.getElem?_eq_getElem h]
theorem gr_set {rs : List (List Int)} {i : Nat} (h : i < rs.length) (r : List Int) (j : Nat) : gr (rs.set i r) j = if j = i then r else gr rs j := by
  unfold gr List.getD
  rw [List.getElem?_set]
  by_cases e : i = j
  · subst e; simp [h]
  · simp [e, Ne.symm e]
/-- a table's entry -/
def gt (rs : List (List Int)) (i j : Nat) : Int := gi (gr rs i) j
/-- a square table -/
def Sq (n : Nat) (rs : List (List Int)) : Prop := rs.length = n ∧ ∀ i < n, (gr rs i).length = n
theorem Sq.set {n : Nat} {rs : List (List Int)} (h : Sq n rs) {a b : Nat} (ha : a < n) (z : Int) : Sq n (rs.set a ((gr rs a).set b z)) :=
  ⟨by simpa using h.1, fun i hi => by
    rw [gr_set (by rw [h.1]; exact ha)]
    split
    · rename_i e; subst e; simpa using h.2 i hi
    · exact h.2 i hi⟩
theorem gt_set {n : Nat} {rs : List (List Int)} (h : Sq n rs) {a b : Nat} (ha : a < n) (hb : b < n) (z : Int) : gt (rs.set a ((gr rs a).set b z)) = tset (gt rs) a b z := by
  funext i j
  unfold gt tset
  rw [gr_set (by rw [h.1]; exact ha)]
  by_cases e : i = a
  · subst e
    rw [if_pos rfl, gi_set (by rw [h.2 i ha]; exact hb)]
    by_cases e2 : j = b
    · rw [if_pos e2, if_pos ⟨rfl, e2⟩]
    · rw [if_neg e2, if_neg (fun g => e2 g.2)]
  · rw [if_neg e, if_neg (fun g => e g.1)]
/-! ### tables known to all -/
def RT (H : Heap) (v : Value) (rs : List (List Int)) : Prop := ∃ us : List Value, us.length = rs.length ∧ RS H 1 v (us.map fun u => [u]) ∧ ∀ (i : Nat) u r, us[i]? = some u → rs[i]? = some r → RI H u r
theorem RT.mono {H H' : Heap} {v : Value} {rs : List (List Int)} (h : RT H v rs) (hl : HLe H H') : RT H' v rs := by
  obtain ⟨us, h1, h2, h3⟩ := h
  exact ⟨us, h1, h2.mono hl, fun i u r hu hr => (h3 i u r hu hr).mono hl⟩
theorem RT.shape {H : Heap} {v : Value} {rs : List (List Int)} (h : RT H v rs) : ∃ a cap, v = .slice a rs.length cap := by
  obtain ⟨us, h1, h2, h3⟩ := h
  obtain ⟨a, cap, e⟩ := h2.shape
  exact ⟨a, cap, by simpa [h1] using e⟩
theorem RT.len {H : Heap} {rs : List (List Int)} {a : Option Addr} {len cap : Nat} (h : RT H (.slice a len cap) rs) : len = rs.length ∧ len ≤ cap ∧ len ≤ 9223372036854775807 := by
  obtain ⟨us, h1, h2, h3⟩ := h
  have := RS.len h2
  simpa [h1] using this
variable {P : Program} {ro : Option Nat} {H : Heap} {σ : List Ent} {s : FS} {w : World} {n d : Nat} {ds : List Deferred} {e : List (Nat × Value)} {x y : Operand} {t : TypeId}
  {K : FS → World → Prop} {ty : TypeId} {pos : String} {aft : Array Edge} {ops : Array Oper} {v : Value}
/-- the address of a table's row, and what lies there -/
theorem WO.ixT {rs : List (List Int)} {k : Nat} {elem : TypeId} {q : IntKind} {i : Int} {rest : List Oper} (hs : St H w σ) (hr : RT H v rs) (hx : FS.ev ⟨n, ds, e⟩ x = some v) (hy : FS.ev ⟨n, ds, e⟩ y = some (.int q i))
    (hu : ∀ w, (underlying t).run P w = .ok (.slice elem) w) (hz : ∀ w, (sizeOf elem).run P w = .ok 1 w) (hk : k < rs.length) (hi : i = (k : Int))
    (kk : ∀ b off a cap, cellAt H b off = some (.slice a (gr rs k).length cap) → RI H (.slice a (gr rs k).length cap) (gr rs k) → WO P ro ops rest K ⟨n, ds, (d, .pointer (some ⟨b, off, none⟩)) :: e⟩ w) (hd : Nat.blt d n = true := by rfl) :
    WO P ro ops (⟨some d, .indexAddr t x y, ty, pos, aft, none⟩ :: rest) K ⟨n, ds, e⟩ w := by
  obtain ⟨us, h1, h2, h3⟩ := hr
  have hu' : us[k]? = some us[k] := List.getElem?_eq_getElem (by omega)
  have hrow := h3 k _ _ hu' (gr_get hk)
  obtain ⟨a, cap, he⟩ := RI.shape hrow
  refine .ixX (enc := fun u => [u]) hs h2 hx hy hu hz hu' hi (fun b off hc => kk b off a cap ?_ ?_) hd
  · rw [← he]; exact hc.one
  · rw [← he]; exact hrow
theorem DO.ixT {rs : List (List Int)} {k : Nat} {elem : TypeId} {q : IntKind} {z : Int} {fuel i : Nat} {g : Option (Nat × Bool)} {Pm : List Prom} {listed listed' : List Bool} (hs : St H w σ) (hi : ops[i]? = some ⟨some d, .indexAddr t x y, ty, pos, aft, g⟩) (hb : takeB ops listed.toArray i = true) (hg : GOk ops e g)
    (hr : RT H v rs) (hx : FS.ev ⟨n, ds, e⟩ x = some v) (hy : FS.ev ⟨n, ds, e⟩ y = some (.int q z))
    (hu : ∀ w, (underlying t).run P w = .ok (.slice elem) w) (hz : ∀ w, (sizeOf elem).run P w = .ok 1 w) (hk : k < rs.length) (hzk : z = (k : Int))
    (kk : ∀ b off a cap, cellAt H b off = some (.slice a (gr rs k).length cap) → RI H (.slice a (gr rs k).length cap) (gr rs k) → DO P ro ops K fuel listed' Pm ⟨n, ds, (d, .pointer (some ⟨b, off, none⟩)) :: e⟩ w) (hl : listed.set i true = listed' := by rfl) (hd : Nat.blt d n = true := by rfl) :
    DO P ro ops K (fuel + 1) listed Pm ⟨n, ds, e⟩ w := by
  obtain ⟨us, h1, h2, h3⟩ := hr
  have hu' : us[k]? = some us[k] := List.getElem?_eq_getElem (by omega)
  have hrow := h3 k _ _ hu' (gr_get hk)
  obtain ⟨a, cap, he⟩ := RI.shape hrow
  refine .ixX (enc := fun u => [u]) hs hi hb hg h2 hx hy hu hz hu' hzk (fun b off hc => kk b off a cap ?_ ?_) hl hd
  · rw [← he]; exact hc.one
  · rw [← he]; exact hrow
/-! ### tables of the call's own -/
def ptr (n : Nat) (b : Nat) : Value := .slice (some ⟨b, 0, none⟩) n n
def rowsE : List Nat → List (List Int) → List Ent
  | b :: bs, r :: rs => .blk b (Is r) :: rowsE bs rs
  | _, _ => []
theorem Mem.of {l : List Ent} {x : Ent} (h : x ∈ l) : Mem l x := by
  induction h with
  | head => exact .here
  | tail _ _ ih => exact .there ih
theorem Mem.pick {l : List Ent} {x : Ent} (h : Mem l x) : ∃ r, Pick l x r := by
  induction h with
  | here => exact ⟨_, .here⟩
  | there _ ih => obtain ⟨r, h⟩ := ih; exact ⟨_, .there h⟩
theorem Sub.one {l : List Ent} {x : Ent} (h : Mem l x) : Sub [x] l := by
  obtain ⟨r, h⟩ := h.pick
  exact .cons h .nil
theorem Mem.app {A B : List Ent} {x : Ent} (h : Mem A x) : Mem (A ++ B) x := .of (List.mem_append.2 (.inl h.mem))
theorem Mem.app2 {A B : List Ent} {x : Ent} (h : Mem B x) : Mem (A ++ B) x := .of (List.mem_append.2 (.inr h.mem))
theorem rowsE_mem : ∀ {bs : List Nat} {rs : List (List Int)} {i b : Nat} {r : List Int}, bs[i]? = some b → rs[i]? = some r → Mem (rowsE bs rs) (.blk b (Is r))
  | [], _, _, _, _, h, _ => by simp at h
  | _ :: _, [], _, _, _, _, h => by simp at h
  | b :: bs, r :: rs, 0, _, _, h, g => by
    simp only [List.getElem?_cons_zero, Option.some.injEq] at h g
    subst h; subst g; exact .here
  | b :: bs, r :: rs, i + 1, _, _, h, g => .there (rowsE_mem (by simpa using h) (by simpa using g))
theorem Upd.app {A A' B : List Ent} {x y : Ent} (h : Upd A x y A') : Upd (A ++ B) x y (A' ++ B) := by
  induction h with
  | here => exact .here
  | there _ ih => exact .there ih
theorem Upd.app2 {A B B' : List Ent} {x y : Ent} (h : Upd B x y B') : Upd (A ++ B) x y (A ++ B') := by
  induction A with
  | nil => exact h
  | cons a A ih => exact .there ih
theorem Pick.app2 {A B B' : List Ent} {x : Ent} (h : Pick B x B') : Pick (A ++ B) x (A ++ B') := by
  induction A with
  | nil => exact h
  | cons a A ih => exact .there ih
theorem rowsE_upd : ∀ {bs : List Nat} {rs : List (List Int)} {i b : Nat} {r : List Int} (r' : List Int), bs[i]? = some b → rs[i]? = some r → Upd (rowsE bs rs) (.blk b (Is r)) (.blk b (Is r')) (rowsE bs (rs.set i r'))
  | [], _, _, _, _, _, h, _ => by simp at h
  | _ :: _, [], _, _, _, _, _, h => by simp at h
  | b :: bs, r :: rs, 0, _, _, r', h, g => by
    simp only [List.getElem?_cons_zero, Option.some.injEq] at h g
    subst h; subst g; exact .here
  | b :: bs, r :: rs, i + 1, _, _, r', h, g => .there (rowsE_upd r' (by simpa using h) (by simpa using g))
theorem rowsE_snoc : ∀ {bs : List Nat} {rs : List (List Int)} (b : Nat) (r : List Int), bs.length = rs.length → rowsE (bs ++ [b]) (rs ++ [r]) = rowsE bs rs ++ [.blk b (Is r)]
  | [], [], _, _, _ => rfl
  | b' :: bs, r' :: rs, b, r, h => by
    simp only [List.cons_append, rowsE]
    rw [rowsE_snoc b r (by simpa using h)]
  | [], _ :: _, _, _, h => by simp at h
  | _ :: _, [], _, _, h => by simp at h
/-- all rows made known, then the table -/
theorem rows_publish : ∀ {bs : List Nat} {rs : List (List Int)} {H : Heap} {σ : List Ent}, bs.length = rs.length → St H w (rowsE bs rs ++ σ) → (∀ r ∈ rs, r.length ≤ 9223372036854775807) →
    ∃ H', HLe H H' ∧ (∀ (i : Nat) b r, bs[i]? = some b → rs[i]? = some r → RI H' (ptr r.length b) r) ∧ St H' w σ
  | [], [], H, σ, _, hs, _ => ⟨H, HLe.refl H, fun i b r h => by simp at h, hs⟩
  | b :: bs, r :: rs, H, σ, hl, hs, hr => by
    obtain ⟨H1, h1, h2, h3⟩ := OwnS.publishI (v := ptr r.length b) (xs := r) (.full (by simp)) (hr r (.head _)) hs (.here (l := rowsE bs rs ++ σ))
    obtain ⟨H2, g1, g2, g3⟩ := rows_publish (by simpa using hl) h3 fun r h => hr r (.tail _ h)
    refine ⟨H2, h1.trans g1, fun i b' r' hb hr' => ?_, g3⟩
    cases i with
    | zero =>
      simp only [List.getElem?_cons_zero, Option.some.injEq] at hb hr'
      subst hb; subst hr'
      exact h2.mono g1
    | succ i => exact g2 i b' r' (by simpa using hb) (by simpa using hr')
  | [], _ :: _, _, _, h, _, _ => by simp at h
  | _ :: _, [], _, _, h, _, _ => by simp at h
theorem flat1 : ∀ l : List Value, (l.map fun u => [u]).flatten = l
  | [] => rfl
  | v :: l => by rw [List.map_cons, List.flatten_cons, flat1 l]; rfl
theorem table_publish {bs : List Nat} {rs : List (List Int)} {b0 : Nat} (hq : Sq n rs) (hl : bs.length = n) (hn : n ≤ 1000) (hs : St H w (.blk b0 (bs.map (ptr n)) :: (rowsE bs rs ++ σ))) :
    ∃ H', HLe H H' ∧ RT H' (ptr n b0) rs ∧ St H' w σ := by
  have hrl : ∀ r ∈ rs, r.length = n := fun r hr => by
    obtain ⟨i, hi⟩ := List.getElem?_of_mem hr
    have h1 := (List.getElem?_eq_some_iff.1 hi).1
    have h2 := hq.2 i (by rw [← hq.1]; exact h1)
    rw [gr_get h1] at hi
    cases hi; exact h2
  obtain ⟨H1, h1, h2, h3⟩ := OwnS.publish (m := 1) (v := ptr n b0) (cs := (bs.map (ptr n)).map fun u => [u]) (en := .blk b0 (bs.map (ptr n)))
    (by rw [flat1]; exact .full (by simpa using hl)) (fun c hc => by simp only [List.mem_map] at hc; obtain ⟨x, _, rfl⟩ := hc; rfl) (by omega) (by simp; omega) hs .here
  obtain ⟨H2, g1, g2, g3⟩ := rows_publish (by rw [hl, hq.1]) h3 fun r hr => by rw [hrl r hr]; omega
  refine ⟨H2, h1.trans g1, ⟨bs.map (ptr n), by simp [hl, hq.1], h2.mono g1, fun i u r hu hr => ?_⟩, g3⟩
  rw [List.getElem?_map] at hu
  cases hb : bs[i]? with
  | none => rw [hb] at hu; simp at hu
  | some b =>
    rw [hb] at hu
    simp only [Option.map_some, Option.some.injEq] at hu
    subst hu
    have := g2 i b r hb hr
    rwa [hrl r (List.mem_of_getElem? hr)] at this
/-! ### a table of the call's own, by place -/
def gb (bs : List Nat) (i : Nat) : Nat := bs.getD i 0
theorem gb_get {bs : List Nat} {i : Nat} (h : i < bs.length) : bs[i]? = some (gb bs i) := by simp [gb, List.getD, List.getElem?_eq_getElem h]
theorem Mem.row {bs : List Nat} {rs : List (List Int)} {i : Nat} (h1 : i < bs.length) (h2 : i < rs.length) : Mem (rowsE bs rs ++ σ) (.blk (gb bs i) (Is (gr rs i))) := (rowsE_mem (gb_get h1) (gr_get h2)).app
theorem ptr_get {bs : List Nat} {i : Nat} (h : i < bs.length) : (bs.map (ptr n))[i]? = some (.slice (some ⟨gb bs i, 0, none⟩) n n) := by
  rw [List.getElem?_map, gb_get h]; rfl
theorem Is_gt {rs : List (List Int)} {i j : Nat} (hq : Sq n rs) (hi : i < n) (hj : j < n) : (Is (gr rs i))[j]? = some (I (gt rs i j)) := Is_gi (by rw [hq.2 i hi]; exact hj)
theorem Upd.row {bs : List Nat} {rs : List (List Int)} {i : Nat} (r : List Int) (h1 : i < bs.length) (h2 : i < rs.length) : Upd (rowsE bs rs ++ σ) (.blk (gb bs i) (Is (gr rs i))) (.blk (gb bs i) (Is r)) (rowsE bs (rs.set i r) ++ σ) := (rowsE_upd r (gb_get h1) (gr_get h2)).app
/-- a row of its own goes behind the others -/
theorem St.rowIn {bs : List Nat} {rs : List (List Int)} {b b0 : Nat} {r : List Int} {c : List Value} (hl : bs.length = rs.length) (hs : St H w (.blk b (Is r) :: .blk b0 c :: (rowsE bs rs ++ σ))) :
    St H w (.blk b0 c :: (rowsE (bs ++ [b]) (rs ++ [r]) ++ σ)) := by
  rw [rowsE_snoc b r hl]
  refine hs.perm ?_
  refine (List.Perm.swap _ _ _).trans (.cons _ ?_)
  rw [List.append_assoc]
  exact List.perm_middle.symm
/-- the first k rows of a table of what a function tells -/
def tabR (f : Nat → Nat → Int) (n k : Nat) : List (List Int) := (List.range k).map fun i => (List.range n).map (f i)
theorem tabR_succ (f : Nat → Nat → Int) (n k : Nat) : tabR f n (k + 1) = tabR f n k ++ [(List.range n).map (f k)] := by simp [tabR, List.range_succ]
theorem tabR_length (f : Nat → Nat → Int) (n k : Nat) : (tabR f n k).length = k := by simp [tabR]
theorem tabR_sq (f : Nat → Nat → Int) (n : Nat) : Sq n (tabR f n n) := ⟨by simp [tabR], fun i hi => by simp [gr, List.getD, tabR, hi]⟩
theorem tabR_gt (f : Nat → Nat → Int) {n i j : Nat} (hi : i < n) (hj : j < n) : gt (tabR f n n) i j = f i j := by
  simp [gt, gr, gi, List.getD, tabR, hi, hj]
theorem range_set (f g : Nat → Int) {n k : Nat} (hk : k < n) (z : Int) (h : ∀ j, j < n → g j = if j = k then z else f j) : ((List.range n).map f).set k z = (List.range n).map g := by
  refine ext_gi' (by simp) fun j hj => ?_
  have hj' : j < n := by simpa using hj
  rw [gi_set (by simpa using hk), gi_map_range, gi_map_range, if_pos hj', if_pos hj', h j hj']
theorem range_const (f : Nat → Int) (n : Nat) (z : Int) (h : ∀ j, j < n → f j = z) : List.replicate n z = (List.range n).map f := by
  refine ext_gi' (by simp) fun j hj => ?_
  have hj' : j < n := by simpa using hj
  rw [gi_replicate _ _ hj', gi_map_range, if_pos hj', h j hj']
theorem flatten_repV (len : Nat) (z : Value) : (List.replicate len [z]).flatten = List.replicate len z := by
  induction len with
  | zero => rfl
  | succ k ih => rw [List.replicate_succ, List.flatten_cons, ih]; rfl
theorem OJ.makeP {elem : TypeId} {i : TypeInfo} {k1 k2 : IntKind} (len : Nat) (hs : St H w σ) (hx : FS.ev ⟨n, ds, e⟩ x = some (.int k1 len)) (hy : FS.ev ⟨n, ds, e⟩ y = some (.int k2 len))
    (hu : ∀ w, (underlying t).run P w = .ok (.slice elem) w) (hi : ∀ w, (typeInfo elem).run P w = .ok i w) (hb : i.bytes = 24) (hz : ∀ w, (sizeOf elem).run P w = .ok 1 w) (hzv : ∀ w, (zeroValue elem).run P w = .ok (.slice none 0 0) w)
    (h1 : len ≤ 1000000000000)
    (k : ∀ b w', St H w' (.blk b (List.replicate len (.slice none 0 0)) :: σ) → K ⟨n, ds, (d, .slice (some ⟨b, 0, none⟩) len len) :: e⟩ w') (hd : Nat.blt d n = true := by rfl) :
    OJ P ro ⟨some d, .makeSlice t x y, ty, pos, aft, none⟩ K ⟨n, ds, e⟩ w :=
  .makeSlice (bytes := 24) hs hx hy hu hi hb hz hzv rfl (by decide) (by omega) (by omega) (fun b w' h => k b w' (by
    have h : St H w' (.blk b (List.replicate len [.slice none 0 0]).flatten :: σ) := h
    rwa [flatten_repV] at h)) (by decide) hd
theorem ptr_set {bs : List Nat} {k b : Nat} (hl : bs.length = k) (hk : k < n) : (bs.map (ptr n) ++ List.replicate (n - k) (Value.slice none 0 0)).set k (Value.slice (some ⟨b, 0, none⟩) n n) = (bs ++ [b]).map (ptr n) ++ List.replicate (n - (k + 1)) (Value.slice none 0 0) := by
  subst hl
  rw [show n - bs.length = (n - (bs.length + 1)) + 1 by omega, List.replicate_succ, List.set_append_right _ _ (by simp)]
  simp [ptr]
theorem ptr_last {bs : List Nat} {k b m : Nat} (hl : bs.length = k) : ((bs ++ [b]).map (ptr n) ++ List.replicate m (Value.slice none 0 0))[k]? = some (Value.slice (some ⟨b, 0, none⟩) n n) := by
  subst hl
  simp [ptr]
theorem range_congr {f g : Nat → Int} {n : Nat} (h : ∀ j, j < n → f j = g j) : (List.range n).map f = (List.range n).map g := List.map_congr_left fun j hj => h j (List.mem_range.1 hj)
end Go.MW

/-
  Greatest sums exist, or are open; what a table of ways tells of them. No program is named here.
-/
namespace Go.MW
theorem Syst.Ok.numb {s : Syst} (h : s.Ok) : Numb s.arcs := fun _ x hx => ⟨arcsOf_l hx, (h.arcs.2 x (List.mem_of_getElem? hx)).2.2.2.2.2⟩
theorem Syst.Ok.inn {s : Syst} (h : s.Ok) : ∀ x ∈ s.arcs, x.f < s.n ∧ x.t < s.n ∧ x.f ≠ x.t ∧ -20000 ≤ x.c ∧ x.c ≤ 20000 := fun x hx => by
  have := h.arcs.2 x hx
  omega
theorem Syst.Ok.n65 {s : Syst} (h : s.Ok) : s.n ≤ 65 := by have := h.m1; simp only [Syst.n]; omega
theorem Syst.n_pos (s : Syst) : 0 < s.n := by simp [Syst.n]
theorem Syst.Ok.opt {s : Syst} (h : s.Ok) (hs : s.Sound) {w : List Int} (hl : w.length = s.n) (hz : SizedW w) :
    (∃ m, OptS s.arcs (s.wt w) s.n m ∧ ¬ OpenS s.arcs (s.wt w) s.n ∧ m ≤ BB ∧ -BB ≤ m) ∨ OpenS s.arcs (s.wt w) s.n := by
  have hn := s.n_pos
  have hn1 := h.n65
  have hw : sizesTo w s.n ≤ FF := by unfold SizedW at hz; rwa [hl] at hz
  have h0 := FInv.start (es := s.arcs) (w := w) (lf := (List.range s.n).map (wtOf w s.n)) (k := s.many.toNat) hw (by simp [Syst.n]) (fun v hv => by rw [gi_map_range, if_pos (show v < s.n from hv)]; rfl) hs
  have ho : ArcsC s.arcs s.n := fun x hx => by have := h.arcs.2 x hx; omega
  rcases flow_exists (wt := wtOf w s.n) hn hn1 ho h.numb (wt_sum w hn) _ h0 (Nat.le_refl _) with ⟨ts, g⟩ | g
  · exact .inl ⟨_, g.value hn hn1 h.arcs hw⟩
  · exact .inr g
theorem Syst.Ok.bd {s : Syst} (h : s.Ok) {w : List Int} (hl : w.length = s.n) (hz : SizedW w) {m : Int} (ho : OptS s.arcs (s.wt w) s.n m) : ¬ OpenS s.arcs (s.wt w) s.n ∧ m ≤ BB ∧ -BB ≤ m := by
  obtain ⟨p, hp, _⟩ := ho.1
  rcases h.opt ⟨p, hp⟩ hl hz with ⟨k, k1, k2, k3, k4⟩ | g
  · have := ho.uniq k1
    subst this
    exact ⟨k2, k3, k4⟩
  · exact (g.no hp ho.2).elim
/-- there is an answer, whatever is asked -/
theorem mostR_some (s : Syst) (w : List Int) : ∃ n e, MostR s w n e := by
  by_cases hA : askErr s w = 0
  · obtain ⟨h1, h2, h3⟩ := askErr_ok hA
    by_cases hs : s.Sound
    · rcases h1.opt hs h2 h3 with ⟨m, k1, k2, k3, k4⟩ | g
      · exact ⟨m, 0, .ok hA hs k2, fun h => (h rfl).elim, fun _ => ⟨k1, k3, k4⟩⟩
      · exact ⟨0, 22, .opn hA hs g, fun _ => rfl, fun h => by omega⟩
    · exact ⟨0, 23, .clash hA hs, fun _ => rfl, fun h => by omega⟩
  · exact ⟨0, _, .bad hA, fun _ => rfl, fun h => (hA h).elim⟩
variable {s : Syst} {w : List Int} {T : Nat → Nat → Int} {fs : List Arc} {m : Int}
theorem mostR_clash (hA : askErr s w = 0) (hs : ¬ s.Sound) : MostR s w 0 23 := ⟨.clash hA hs, fun _ => rfl, fun h => by omega⟩
theorem mostR_open (hA : askErr s w = 0) (hs : s.Sound) (hT : WaysT s.n s.arcs T) (hF : Tab s.n T fs) (ho : OpenS fs (s.wt w) s.n) : MostR s w 0 22 :=
  ⟨.opn hA hs (hT.open (askErr_ok hA).1.inn hF ho), fun _ => rfl, fun h => by omega⟩
theorem mostR_opt (hA : askErr s w = 0) (hT : WaysT s.n s.arcs T) (hF : Tab s.n T fs) (ho : OptS fs (s.wt w) s.n m) : MostR s w m 0 := by
  obtain ⟨h1, h2, h3⟩ := askErr_ok hA
  have h4 := (hT.opt h1.inn hF).1 ho
  obtain ⟨p, hp, _⟩ := h4.1
  obtain ⟨k1, k2, k3⟩ := h1.bd h2 h3 h4
  exact ⟨.ok hA ⟨p, hp⟩ k1, fun h => (h rfl).elim, fun _ => ⟨h4, k2, k3⟩⟩
theorem sound_diag (h : s.Ok) (hT : WaysT s.n s.arcs T) : s.Sound ↔ ∀ i, i < s.n → ¬ T i i < 0 := hT.sound h.inn
end Go.MW

/-
  Steps of the reference's search: how they lie, and its rounds. No program is named here.
-/
namespace Go.MW
/-- a step's cells: whence, and whether back -/
def stepC (es : List Arc) (x : Arc) : List Value := if x.l < 0 then [I (-1), .bool false] else [I (x.f : Int), .bool (decide (¬ fwd es x))]
def StepsC (es : List Arc) (l : List Arc) : List Value := (l.map (stepC es)).flatten
theorem stepC_length (es : List Arc) (x : Arc) : (stepC es x).length = 2 := by unfold stepC; split <;> rfl
theorem StepsC_length (es : List Arc) (l : List Arc) : (StepsC es l).length = l.length * 2 := by
  induction l with
  | nil => rfl
  | cons x l ih => simp only [StepsC, List.map_cons, List.flatten_cons, List.length_append, stepC_length, List.length_cons] at ih ⊢; omega
theorem StepsC_cons (es : List Arc) (x : Arc) (l : List Arc) : StepsC es (x :: l) = stepC es x ++ StepsC es l := rfl
theorem stepC_two (es : List Arc) (x : Arc) : ∃ u v, stepC es x = [u, v] := by unfold stepC; split <;> exact ⟨_, _, rfl⟩
theorem setL_cons (u : Value) : ∀ (vs c : List Value) (k : Nat), setL (u :: c) (k + 1) vs = u :: setL c k vs
  | [], _, _ => rfl
  | v :: vs, c, k => by simp only [setL, List.set_cons_succ]; exact setL_cons u vs (c.set k v) (k + 1)
theorem setL_two {es : List Arc} : ∀ {l : List Arc} {k : Nat} (_ : k < l.length) (y : Arc), setL (StepsC es l) (k * 2) (stepC es y) = StepsC es (l.set k y)
  | x :: l, 0, _, y => by
    obtain ⟨u, v, e⟩ := stepC_two es x
    obtain ⟨u', v', e'⟩ := stepC_two es y
    rw [List.set_cons_zero, StepsC_cons, StepsC_cons, e, e']
    rfl
  | x :: l, k + 1, h, y => by
    have ih := setL_two (es := es) (l := l) (k := k) (by simpa using h) y
    obtain ⟨u, v, e⟩ := stepC_two es x
    obtain ⟨u', v', e'⟩ := stepC_two es y
    rw [List.set_cons_succ, StepsC_cons, StepsC_cons, e, show (k + 1) * 2 = k * 2 + 1 + 1 by omega, ← ih]
    simp only [List.cons_append, List.nil_append, setL_cons]
  | [], _, h, _ => by simp at h
/-- how far the arcs of a round have been looked at: all of unknowns before a, and of a those to unknowns before b -/
def Upto (a b : Nat) (x : Arc) : Prop := x.f < a ∨ (x.f = a ∧ x.t < b)
variable {n : Nat} {M F : Nat → Nat → Int} {es : List Arc} {ts : List Int} {S : Nat → Prop} {D : Nat → Int} {ag : Bool} {s : BS} {a b : Nat}
theorem VInv.zero (h : VInv n (resid es ts) S D (fun _ => False) ag s) : VInv n (resid es ts) S D (Upto 0 0) ag s := h.skip fun _ x _ hx => by unfold Upto at hx; omega
theorem VInv.row (h : VInv n (resid es ts) S D (Upto a n) ag s) (hg : VG n (resid es ts) D) : VInv n (resid es ts) S D (Upto (a + 1) 0) ag s := h.skip fun _ x hx hd hn => by
  have := (hg.ok x hx).2.1
  unfold Upto at hd hn; omega
theorem VInv.far (h : VInv n (resid es ts) S D (Upto a 0) ag s) (hf : gi s.cost a = free) : VInv n (resid es ts) S D (Upto (a + 1) 0) ag s := h.skip fun _ x _ hd hn hc => by
  unfold Upto at hd hn
  have : x.f = a := by omega
  rw [this] at hc
  omega
theorem VInv.all (h : VInv n (resid es ts) S D (Upto n 0) ag s) (hg : VG n (resid es ts) D) : VInv n (resid es ts) S D (fun _ => True) ag s := h.skip fun _ x hx _ hn => by
  have := (hg.ok x hx).1
  unfold Upto at hn; omega
/-- the arcs forth of a pair looked at -/
def UptoF (es : List Arc) (a b : Nat) (x : Arc) : Prop := Upto a b x ∨ (x.f = a ∧ x.t = b ∧ x ∈ es)
theorem VInv.noF (h : VInv n (resid es ts) S D (Upto a b) ag s) (hc : ∀ x ∈ es, x.f = a → x.t = b → ¬ (gi s.cost a < free ∧ gi s.cost a + x.c < gi s.cost b)) : VInv n (resid es ts) S D (UptoF es a b) ag s := h.skip fun _ x _ hd hn hx => by
  rcases hd with hd | ⟨e1, e2, e3⟩
  · exact hn hd
  · refine hc x e3 e1 e2 ?_
    unfold BS.can at hx
    rw [e1, e2] at hx; exact hx
theorem VInv.noB (hT : Tab n M es) (hC : Corr n es ts F) (h : VInv n (resid es ts) S D (UptoF es a b) ag s) (hc : ∀ x ∈ es, x.f = b → x.t = a → 0 < F b a → ¬ (gi s.cost a < free ∧ gi s.cost a - x.c < gi s.cost b)) : VInv n (resid es ts) S D (Upto a (b + 1)) ag s := h.skip fun _ y hy hd hn hx => by
  have e : y.f = a ∧ y.t = b := by
    unfold UptoF Upto at hn
    unfold Upto at hd
    have : ¬ (y.f < a ∨ (y.f = a ∧ y.t < b)) := fun g => hn (.inl g)
    omega
  rcases (resid_iff hT hC).1 hy with g | ⟨x, hx1, hx2, rfl⟩
  · exact hn (.inr ⟨e.1, e.2, g⟩)
  · have e1 : x.f = b := e.2
    have e2 : x.t = a := e.1
    refine hc x hx1 e1 e2 (by rw [← e1, ← e2]; exact hx2) ?_
    unfold BS.can at hx
    rw [e.1, e.2] at hx
    have : x.back.c = -x.c := rfl
    rw [this] at hx
    omega
theorem set_sp {xs : List Int} {k : Nat} (h : k < xs.length) (z : Int) (sp : List Value) : (Is xs ++ sp).set k (I z) = Is (xs.set k z) ++ sp := by
  rw [List.set_append_left _ _ (by simpa using h), Is_set]
theorem rep_set2 (N : Nat) {k : Nat} (hk : k < N) (u : List Value) (hu : u.length = 2) (v : List Value) (hv : v.length = 2) : setL (List.replicate k u ++ List.replicate (N - k) v).flatten (k * 2) u = (List.replicate (k + 1) u ++ List.replicate (N - (k + 1)) v).flatten := by
  obtain ⟨u0, u1, rfl⟩ := len2 hu
  obtain ⟨v0, v1, rfl⟩ := len2 hv
  induction k generalizing N with
  | zero =>
    obtain ⟨M, rfl⟩ : ∃ M, N = M + 1 := ⟨N - 1, by omega⟩
    simp only [List.replicate_zero, List.nil_append, Nat.sub_zero, Nat.zero_mul, List.replicate_succ, List.flatten_cons, Nat.zero_add, Nat.add_sub_cancel, List.cons_append, List.nil_append, setL, List.set_cons_zero, List.set_cons_succ]
  | succ k ih =>
    have := ih (N - 1) (by omega)
    rw [show N - 1 - k = N - (k + 1) by omega, show N - 1 - (k + 1) = N - (k + 1 + 1) by omega] at this
    rw [show List.replicate (k + 1 + 1) [u0, u1] = [u0, u1] :: List.replicate (k + 1) [u0, u1] from rfl, show List.replicate (k + 1) [u0, u1] = [u0, u1] :: List.replicate k [u0, u1] from rfl] at *
    simp only [List.cons_append, List.flatten_cons, List.nil_append, show (k + 1) * 2 = k * 2 + 1 + 1 by omega, setL_cons] at this ⊢
    rw [this]
theorem StepsC_rep (es : List Arc) (N : Nat) : (List.replicate N [I (-1), Value.bool false]).flatten = StepsC es (List.replicate N ⟨0, 0, 0, -1⟩) := by
  unfold StepsC
  rw [List.map_replicate]
  rfl
section
variable {P : Program} {ro : Option Nat} {H : Heap} {σ : List Ent} {w : World} {n d : Nat} {ds : List Deferred} {e : List (Nat × Value)} {x y : Operand} {t : TypeId} {K : FS → World → Prop} {ty : TypeId} {pos : String} {aft : Array Edge}
theorem OJ.makeS {elem : TypeId} {i : TypeInfo} {k1 k2 : IntKind} (len : Nat) (hs : St H w σ) (hx : FS.ev ⟨n, ds, e⟩ x = some (.int k1 len)) (hy : FS.ev ⟨n, ds, e⟩ y = some (.int k2 len))
    (hu : ∀ w, (underlying t).run P w = .ok (.slice elem) w) (hi : ∀ w, (typeInfo elem).run P w = .ok i w) (hb : i.bytes = 16) (hz : ∀ w, (sizeOf elem).run P w = .ok 2 w) (hzv : ∀ w, (zeroValue elem).run P w = .ok (.agg #[I 0, .bool false]) w)
    (h1 : len ≤ 1000000000000)
    (k : ∀ b w', St H w' (.blk b (List.replicate len [I 0, .bool false]).flatten :: σ) → K ⟨n, ds, (d, .slice (some ⟨b, 0, none⟩) len len) :: e⟩ w') (hd : Nat.blt d n = true := by rfl) :
    OJ P ro ⟨some d, .makeSlice t x y, ty, pos, aft, none⟩ K ⟨n, ds, e⟩ w :=
  .makeSlice (bytes := 16) hs hx hy hu hi hb hz hzv rfl (by decide) (by omega) (by omega) (fun b w' h => k b w' h) (by decide) hd
end
/-! ### a way gone back -/
def stepF (x : Arc) : Int := if x.l < 0 then -1 else x.f
def stepB (es : List Arc) (x : Arc) : Bool := if x.l < 0 then false else decide (¬ fwd es x)
theorem stepC_eq (es : List Arc) (x : Arc) : stepC es x = [I (stepF x), .bool (stepB es x)] := by unfold stepC stepF stepB; split <;> rfl
structure AtW (b : List Arc) (t k u i w : Nat) : Prop where
  le : i ≤ k
  bk : ∃ c, Back b t i c w
  to : ∃ d, Back b w (k - i) d u
theorem AtW.start {b : List Arc} {t k u : Nat} {c : Int} (h : Back b t k c u) : AtW b t k u 0 t := ⟨Nat.zero_le _, ⟨0, .nil⟩, ⟨c, h⟩⟩
theorem AtW.next {b : List Arc} {t k u i w : Nat} (h : AtW b t k u i w) (hl : 0 ≤ (ga b w).l) (hu : (ga b u).l < 0) : i < k ∧ AtW b t k u (i + 1) (ga b w).f ∧ trail b t (i + 1) = trail b t i ++ [ga b w] := by
  obtain ⟨c, h1⟩ := h.bk
  obtain ⟨d, h2⟩ := h.to
  have hle := h.le
  generalize hj : k - i = j at h2
  cases h2 with
  | nil => omega
  | @cons _ _ j d _ h3 =>
    refine ⟨by omega, ⟨by omega, ⟨_, h1.trans (.cons hl .nil)⟩, ⟨d, by rw [show k - (i + 1) = j by omega]; exact h3⟩⟩, trail_succ h1⟩
theorem AtW.stop {b : List Arc} {t k u i w : Nat} (h : AtW b t k u i w) (hl : (ga b w).l < 0) : i = k ∧ w = u := by
  obtain ⟨d, h2⟩ := h.to
  have hle := h.le
  generalize hj : k - i = j at h2
  cases h2 with
  | nil => exact ⟨by omega, rfl⟩
  | cons h3 _ => omega
theorem AtW.ne {b : List Arc} {t k u i w : Nat} (h : AtW b t k u i w) (hw : w ≠ u) : 0 ≤ (ga b w).l := by
  false_or_by_contra
  rename_i g
  exact hw (h.stop (by omega)).2
structure Scan (lf cost : List Int) (k : Nat) (to : Int) (left : Bool) : Prop where
  lo : -1 ≤ to
  left_ : left = true ↔ ∃ v, v < k ∧ 0 < gi lf v
  non : to < 0 → ∀ v < k, 0 < gi lf v → gi cost v = free
  som : 0 ≤ to → to.toNat < k ∧ 0 < gi lf to.toNat ∧ gi cost to.toNat ≠ free
theorem Scan.start (lf cost : List Int) : Scan lf cost 0 (-1) false := ⟨by omega, ⟨fun h => (by cases h), fun ⟨v, h, _⟩ => (by omega)⟩, fun _ v h => by omega, fun h => by omega⟩
theorem Scan.take {lf cost : List Int} {k : Nat} {to : Int} {left : Bool} (_ : Scan lf cost k to left) (h1 : 0 < gi lf k) (h2 : gi cost k ≠ free) : Scan lf cost (k + 1) (k : Int) (left || decide (0 < gi lf k)) :=
  ⟨by omega, by simp only [h1, decide_true, Bool.or_true, true_iff]; exact ⟨k, by omega, h1⟩, fun g => by omega, fun _ => ⟨by omega, by simpa using h1, by simpa using h2⟩⟩
theorem Scan.skip {lf cost : List Int} {k : Nat} {to : Int} {left : Bool} (h : Scan lf cost k to left) (h1 : ¬ 0 < gi lf k ∨ gi cost k = free ∨ 0 ≤ to) : Scan lf cost (k + 1) to (left || decide (0 < gi lf k)) := by
  refine ⟨h.lo, ?_, fun g v hv hp => ?_, fun g => by have := h.som g; exact ⟨by omega, this.2⟩⟩
  · rw [Bool.or_eq_true, h.left_, decide_eq_true_eq]
    constructor
    · rintro (⟨v, h1, h2⟩ | h)
      · exact ⟨v, by omega, h2⟩
      · exact ⟨k, by omega, h⟩
    · rintro ⟨v, h1, h2⟩
      by_cases e : v = k
      · subst e; exact .inr h2
      · exact .inl ⟨v, by omega, h2⟩
  · by_cases e : v = k
    · subst e
      rcases h1 with h1 | h1 | h1
      · exact (h1 hp).elim
      · exact h1
      · omega
    · exact h.non g v (by omega) hp
theorem St.app2 {H : Heap} {w : World} {A B : List Ent} (h : St H w (A ++ B)) : St H w B := by
  induction A with
  | nil => exact h
  | cons a A ih => exact ih h.tail
theorem Corr.back (hT : Tab n M es) (hC : Corr n es ts F) {x : Arc} (hx : x ∈ resid es ts) (hf : ¬ fwd es x) : F x.t x.f = gi ts x.l.toNat ∧ ∃ y ∈ es, x = y.back := by
  rcases (resid_iff hT hC).1 hx with h | ⟨y, h1, h2, rfl⟩
  · exact (hf (hT.fwd_iff h).1).elim
  · exact ⟨(hC.arc y h1).symm, y, h1, rfl⟩
theorem Corr.forth (hT : Tab n M es) (hC : Corr n es ts F) {x : Arc} (hx : x ∈ resid es ts) (hf : fwd es x) : x ∈ es := by
  rcases (resid_iff hT hC).1 hx with h | ⟨y, h1, h2, rfl⟩
  · exact h
  · exact ((hT.fwd_iff h1).2 hf).elim
theorem stepF_pos {x : Arc} (h : 0 ≤ x.l) : stepF x = (x.f : Int) := by unfold stepF; rw [if_neg (by omega)]
theorem stepF_neg {x : Arc} (h : ¬ 0 ≤ stepF x) : x.l < 0 := by
  false_or_by_contra
  rename_i g
  rw [stepF_pos (by omega)] at h
  omega
theorem stepF_ge {x : Arc} (h : 0 ≤ stepF x) : 0 ≤ x.l := by
  false_or_by_contra
  rename_i g
  unfold stepF at h
  rw [if_pos (by omega)] at h
  omega
theorem stepB_t {x : Arc} (h : stepB es x = true) : ¬ fwd es x := by
  unfold stepB at h
  split at h
  · cases h
  · exact of_decide_eq_true h
theorem stepB_f {x : Arc} (hl : 0 ≤ x.l) (h : stepB es x = false) : fwd es x := by
  unfold stepB at h
  rw [if_neg (by omega)] at h
  have := of_decide_eq_false h
  exact Decidable.not_not.1 this
end Go.MW

/-
  Walks: the reference's table of ways.
-/
namespace Go.Proofs.Ytiiokdeehlfeeaa
open Go.MW
/-- the table's beginning -/
def ways0 (i j : Nat) : Int := if i = j then 0 else free
theorem ways0_B {n : Nat} (es : List Arc) {T : Nat → Nat → Int} (h : ∀ i j, i < n → j < n → T i j = ways0 i j) : WayB n es 0 T :=
  ⟨fun i hi => by rw [h i i hi hi]; simp [ways0], fun _ _ h => by omega, fun i j hi hj hij => .inl (by rw [h i j hi hj]; simp [ways0, hij])⟩
set_option maxHeartbeats 4000000 in
theorem ref02_Ways_spec {H : Heap} {w : World} {σ : List Ent} {v : Value} {s : Syst} (hs : St H w σ) (hr : RSy H v s) (hok : s.Ok) :
    Cl Try.prog 145 [v] w fun u w' => ∃ H1 rs, HLe H H1 ∧ RT H1 u rs ∧ Sq s.n rs ∧ WaysT s.n s.arcs (gt rs) ∧ St H1 w' σ := by
  obtain ⟨ul, rfl, hl⟩ := hr
  obtain ⟨al, cl, rfl⟩ := RL.shape hl
  have hm0 := hok.m0
  have hm1 := hok.m1
  have hlen := hok.len
  have hnp := s.n_pos
  have hn65 := hok.n65
  have hinn := hok.inn
  have hmn : s.many + 1 = (s.n : Int) := by simp only [Syst.n]; omega
  generalize hn : s.n = n at hnp hn65 hinn hmn ⊢
  refine Cl.of Try.func145 rfl Try.ntmps145 (by simp) (args_cons (k := 0) rfl (args0)) ?_
  refine .regSeq ?_
  refine .o (.box hs rfl rfl ?_); intro b1 w hs
  refine .q hs (q_assign rfl) ?_
  refine .nil ?_
  refine .regSeq ?_
  first | refine .q hs (q_fa0 rfl fa_api_System_0) ?_ | refine .q hs (q_fa rfl fa_api_System_0) ?_
  first | refine .q hs (q_load rfl Try.isAgg3 (hm := by repeat (first | exact .here | assumption | exact Mem.row (by omega) (by omega) | refine .there ?_ | refine Mem.app2 ?_)) (hv := by first | rfl | exact ptr_get (by omega) | exact Is_gt (by assumption) (by omega) (by omega) | exact Is_gi (by first | assumption | omega))) ?_ | refine .q hs (q_loadR rfl Try.isAgg3 (by assumption)) ?_
  first | refine .q hs (q_addF rfl rfl (by omega)) ?_ | refine .q hs (q_addU rfl rfl ⟨by omega, by omega⟩) ?_ | refine .q hs (q_add rfl rfl) ?_
  rw [hmn]
  refine .q hs (q_assign rfl) ?_
  refine .nil ?_
  refine .regSeq ?_
  refine .q hs (q_move rfl) ?_
  refine .o (.makeP n hs rfl rfl Try.runUnderlying87 Try.typeInfo22 rfl Try.sizeOf22 Try.zeroValue22 (by omega) ?_); intro b16 w hs
  refine .q hs (q_assign rfl) ?_
  refine .nil ?_
  refine .seq ?_
  refine .regSeq ?_
  refine .q hs (q_move rfl) ?_
  first | refine .q hs (q_len rfl Try.runUnderlying87) ?_ | refine .q hs (q_lenR (by assumption) rfl Try.runUnderlying87) ?_ | refine .q hs (q_lenI (by assumption) rfl Try.runUnderlying87) ?_
  refine .q hs (q_move rfl) ?_
  refine .nil ?_
  refine .for (N := n) (J := fun k fr w => fr = [(3, I (n : Int)), (4, .slice (some ⟨b16, 0, none⟩) n n), (1, .pointer (some ⟨b1, 0, none⟩))] ∧ ∃ bs : List Nat, bs.length = k ∧ St H w (.blk b16 (bs.map (ptr n) ++ List.replicate (n - k) (.slice none 0 0)) :: (rowsE bs (tabR ways0 n k) ++ (.blk b1 [I s.many, .slice al s.lims.length cl] :: σ)))) (by omega) ?_ ?_ ?_
  · exact .mk ⟨rfl, [], rfl, hs⟩
  · rintro k fr w hk ⟨rfl, bs, hbl, hs⟩
    refine .block ?_
    refine .regSeq ?_
    refine .q hs (q_move rfl) ?_
    refine .q hs (q_assign rfl) ?_
    refine .nil ?_
    refine .regSeq ?_
    refine .q hs (q_move rfl) ?_
    refine .q hs (q_move rfl) ?_
    refine .q hs (q_move rfl) ?_
    refine .o (.makeI n hs rfl rfl Try.runUnderlying22 Try.typeInfo3 rfl Try.sizeOf3 Try.zeroValue3 (by omega) ?_); intro b25 w hs
    first | (refine .ixX hs (by assumption) rfl rfl Try.runUnderlying87 Try.sizeOf22 (by assumption) (by first | rfl | omega) ?_; intro b26 o26 hc26) | refine .q hs (q_ixO rfl rfl Try.runUnderlying87 Try.sizeOf22 (by first | rfl | omega) (by first | assumption | omega)) ?_  -- indexAddr <[][]int> t22 t23
    refine .o (.store hs rfl rfl Try.sizeOf22 ?_ (by repeat constructor) (by simp [hbl]; omega) (ptr_set hbl hk)); intro w hs
    refine .nil ?_
    refine .regSeq ?_
    refine .q hs (q_move rfl) ?_
    refine .q hs (q_move rfl) ?_
    first | (refine .ixX hs (by assumption) rfl rfl Try.runUnderlying87 Try.sizeOf22 (by assumption) (by first | rfl | omega) ?_; intro b29 o29 hc29) | refine .q hs (q_ixO rfl rfl Try.runUnderlying87 Try.sizeOf22 (by first | rfl | omega) (by first | assumption | omega)) ?_  -- indexAddr <[][]int> t27 t28
    refine .q hs (q_load rfl Try.isAgg22 (hv := ptr_last hbl)) ?_
    first | refine .q hs (q_len rfl Try.runUnderlying22) ?_ | refine .q hs (q_lenR (by assumption) rfl Try.runUnderlying22) ?_ | refine .q hs (q_lenI (by assumption) rfl Try.runUnderlying22) ?_
    refine .q hs (q_move rfl) ?_
    refine .nil ?_
    refine .for (N := n) (J := fun j fr w => fr = [(5, I (k : Int)), (19, I (k : Int)), (18, I (n : Int)), (3, I (n : Int)), (4, .slice (some ⟨b16, 0, none⟩) n n), (1, .pointer (some ⟨b1, 0, none⟩))] ∧ St H w (.blk b25 (Is ((List.range n).map fun c => if c < j ∧ k ≠ c then free else 0)) :: .blk b16 ((bs ++ [b25]).map (ptr n) ++ List.replicate (n - (k + 1)) (.slice none 0 0)) :: (rowsE bs (tabR ways0 n k) ++ (.blk b1 [I s.many, .slice al s.lims.length cl] :: σ)))) (by omega) ?_ ?_ ?_
    · rw [range_const (fun c => if c < 0 ∧ k ≠ c then free else 0) n 0 (fun j _ => by simp)] at hs
      exact .mk ⟨rfl, hs⟩
    · rintro j fr w hj ⟨rfl, hs⟩
      refine .block ?_
      refine .regSeq ?_
      refine .q hs (q_move rfl) ?_
      refine .q hs (q_assign rfl) ?_
      refine .nil ?_
      refine .regSeq ?_
      refine .q hs (q_move rfl) ?_
      refine .q hs (q_move rfl) ?_
      refine .q hs (q_neq rfl rfl) ?_
      refine .nil ?_
      refine (.condN rfl (fun hc37 => ?_) (fun hc37 => ?_))
      · refine .region ?_
        refine .q hs (q_move rfl) ?_
        refine .q hs (q_move rfl) ?_
        first | (refine .ixX hs (by assumption) rfl rfl Try.runUnderlying87 Try.sizeOf22 (by assumption) (by first | rfl | omega) ?_; intro b40 o40 hc40) | refine .q hs (q_ixO rfl rfl Try.runUnderlying87 Try.sizeOf22 (by first | rfl | omega) (by first | assumption | omega)) ?_  -- indexAddr <[][]int> t38 t39
        refine .q hs (q_load rfl Try.isAgg22 (hv := ptr_last hbl)) ?_
        refine .q hs (q_move rfl) ?_
        first | (refine .ixY hs (by assumption) rfl rfl Try.runUnderlying22 Try.sizeOf3 (by assumption) (by first | rfl | omega) ?_; intro b43 o43 hc43) | refine .q hs (q_ixO rfl rfl Try.runUnderlying22 Try.sizeOf3 (by first | rfl | omega) (by first | assumption | omega)) ?_  -- indexAddr <[]int> t41 t42
        refine .o (.store hs rfl rfl Try.sizeOf3 ?_ (by repeat constructor) (blt_Is (by simp; omega)) (Is_set _ _ _)); intro w hs
        refine .nil ?_
        refine nB (nT ?_)
        rw [range_set _ (fun c => if c < j + 1 ∧ k ≠ c then free else 0) hj 1000000000 (fun c _ => by
          by_cases e : c = j
          · subst e; rw [if_pos rfl, if_pos ⟨by omega, by omega⟩]
          · rw [if_neg e]; congr 1; apply propext; omega)] at hs
        exact .mk ⟨rfl, hs⟩
      · refine .skip ?_
        refine nB (nT ?_)
        rw [range_congr (g := fun c => if c < j + 1 ∧ k ≠ c then free else 0) (fun c _ => by
          by_cases e : c = j
          · subst e; rw [if_neg (by omega), if_neg (by omega)]
          · congr 1; apply propext; omega)] at hs
        exact .mk ⟨rfl, hs⟩
    · rintro fr w ⟨rfl, hs⟩
      rw [range_congr (g := ways0 k) (fun c hc => by
        unfold ways0
        by_cases e : k = c
        · rw [if_neg (by omega), if_pos e]
        · rw [if_pos ⟨hc, e⟩, if_neg e])] at hs
      replace hs := hs.rowIn (by rw [hbl, tabR_length])
      rw [← tabR_succ] at hs
      refine nB (nT ?_)
      exact .mk ⟨rfl, bs ++ [b25], by simp [hbl], hs⟩
  · rintro fr w ⟨rfl, bs, hbl, hs⟩
    rw [Nat.sub_self, List.replicate_zero, List.append_nil] at hs
    refine nT ?_
    refine .seq ?_
    refine .regSeq ?_
    first | refine .q hs (q_fa0 rfl fa_api_System_1) ?_ | refine .q hs (q_fa rfl fa_api_System_1) ?_
    first | refine .q hs (q_load rfl Try.isAgg30 (hm := by repeat (first | exact .here | assumption | exact Mem.row (by omega) (by omega) | refine .there ?_ | refine Mem.app2 ?_)) (hv := by first | rfl | exact ptr_get (by omega) | exact Is_gt (by assumption) (by omega) (by omega) | exact Is_gi (by first | assumption | omega))) ?_ | refine .q hs (q_loadR rfl Try.isAgg30 (by assumption)) ?_
    first | refine .q hs (q_len rfl Try.runUnderlying30) ?_ | refine .q hs (q_lenR (by assumption) rfl Try.runUnderlying30) ?_ | refine .q hs (q_lenI (by assumption) rfl Try.runUnderlying30) ?_
    refine .q hs (q_move rfl) ?_
    refine .nil ?_
    refine .for (N := s.lims.length) (J := fun k fr w => fr = [(47, .slice al s.lims.length cl), (4, .slice (some ⟨b16, 0, none⟩) n n)] ∧ ∃ rs, Sq n rs ∧ WayB n s.arcs k (gt rs) ∧ St H w (.blk b16 (bs.map (ptr n)) :: (rowsE bs rs ++ (.blk b1 [I s.many, .slice al s.lims.length cl] :: σ)))) (by omega) ?_ ?_ ?_
    · exact .mk ⟨rfl, _, tabR_sq ways0 n, ways0_B s.arcs (fun i j hi hj => tabR_gt ways0 hi hj), hs⟩
    · rintro k fr w hk ⟨rfl, rs, hq, hB, hs⟩
      obtain ⟨x, hx⟩ := nth (l := s.lims) hk
      have hrl := hq.1
      obtain ⟨⟨xa0, xa1⟩, ⟨xb0, xb1⟩, xne, xM, -⟩ := hok.lim x (List.mem_of_getElem? hx)
      have ha : x.A.toNat < n := by omega
      have hb : x.B.toNat < n := by omega
      have hga := arcsOf_get hx
      refine .block ?_
      refine .regSeq ?_
      refine .ixX (enc := Lim.c) hs hl rfl rfl Try.runUnderlying30 Try.sizeOf100 hx rfl ?_; intro b51 o51 hc51
      refine .q hs (q_loadsR (vs := x.c) rfl Try.isAgg100 Try.sizeOf100 hc51) ?_
      refine .o (.alloc hs Try.zeroValue100 rfl ?_); intro b8 w hs
      refine .o (.stores (vs := x.c) hs rfl rfl Try.sizeOf100 ?_); intro w hs
      refine .nil ?_
      refine .draw mix rfl hs ?_; intro w hs
      refine .p (i := 0) rfl (by kernel_rfl) .none (q_move rfl) ?_
      first | refine .p (i := 1) rfl (by kernel_rfl) .none (q_fa0 rfl fa_api_Limit_0) ?_ | refine .p (i := 1) rfl (by kernel_rfl) .none (q_fa rfl fa_api_Limit_0) ?_
      first | refine .load (i := 2) hs rfl (by kernel_rfl) .none rfl Try.isAgg3 ?_ (by repeat (first | exact .here | assumption | exact Mem.row (by omega) (by omega) | refine .there ?_ | refine Mem.app2 ?_)) (by first | rfl | exact ptr_get (by omega) | exact Is_gt (by assumption) (by omega) (by omega) | exact Is_gi (by first | assumption | omega)) | refine .r (i := 2) hs rfl (by kernel_rfl) .none (q_loadR rfl Try.isAgg3 (by assumption)) ?_
      refine .p (i := 3) rfl (by kernel_rfl) .none (q_ixO (k := x.A.toNat) rfl rfl Try.runUnderlying87 Try.sizeOf22 (by omega) ha) ?_
      first | refine .load (i := 4) hs rfl (by kernel_rfl) .none rfl Try.isAgg22 ?_ (by repeat (first | exact .here | assumption | exact Mem.row (by omega) (by omega) | refine .there ?_ | refine Mem.app2 ?_)) (by first | rfl | exact ptr_get (by omega) | exact Is_gt (by assumption) (by omega) (by omega) | exact Is_gi (by first | assumption | omega)) | refine .r (i := 4) hs rfl (by kernel_rfl) .none (q_loadR rfl Try.isAgg22 (by assumption)) ?_
      first | refine .p (i := 5) rfl (by kernel_rfl) .none (q_fa0 rfl fa_api_Limit_1) ?_ | refine .p (i := 5) rfl (by kernel_rfl) .none (q_fa rfl fa_api_Limit_1) ?_
      first | refine .load (i := 6) hs rfl (by kernel_rfl) .none rfl Try.isAgg3 ?_ (by repeat (first | exact .here | assumption | exact Mem.row (by omega) (by omega) | refine .there ?_ | refine Mem.app2 ?_)) (by first | rfl | exact ptr_get (by omega) | exact Is_gt (by assumption) (by omega) (by omega) | exact Is_gi (by first | assumption | omega)) | refine .r (i := 6) hs rfl (by kernel_rfl) .none (q_loadR rfl Try.isAgg3 (by assumption)) ?_
      refine .p (i := 7) rfl (by kernel_rfl) .none (q_move rfl) ?_
      first | refine .p (i := 8) rfl (by kernel_rfl) .none (q_fa0 rfl fa_api_Limit_0) ?_ | refine .p (i := 8) rfl (by kernel_rfl) .none (q_fa rfl fa_api_Limit_0) ?_
      first | refine .load (i := 9) hs rfl (by kernel_rfl) .none rfl Try.isAgg3 ?_ (by repeat (first | exact .here | assumption | exact Mem.row (by omega) (by omega) | refine .there ?_ | refine Mem.app2 ?_)) (by first | rfl | exact ptr_get (by omega) | exact Is_gt (by assumption) (by omega) (by omega) | exact Is_gi (by first | assumption | omega)) | refine .r (i := 9) hs rfl (by kernel_rfl) .none (q_loadR rfl Try.isAgg3 (by assumption)) ?_
      refine .p (i := 10) rfl (by kernel_rfl) .none (q_ixO (k := x.A.toNat) rfl rfl Try.runUnderlying87 Try.sizeOf22 (by omega) ha) ?_
      first | refine .load (i := 11) hs rfl (by kernel_rfl) .none rfl Try.isAgg22 ?_ (by repeat (first | exact .here | assumption | exact Mem.row (by omega) (by omega) | refine .there ?_ | refine Mem.app2 ?_)) (by first | rfl | exact ptr_get (by omega) | exact Is_gt (by assumption) (by omega) (by omega) | exact Is_gi (by first | assumption | omega)) | refine .r (i := 11) hs rfl (by kernel_rfl) .none (q_loadR rfl Try.isAgg22 (by assumption)) ?_
      first | refine .p (i := 12) rfl (by kernel_rfl) .none (q_fa0 rfl fa_api_Limit_1) ?_ | refine .p (i := 12) rfl (by kernel_rfl) .none (q_fa rfl fa_api_Limit_1) ?_
      first | refine .load (i := 13) hs rfl (by kernel_rfl) .none rfl Try.isAgg3 ?_ (by repeat (first | exact .here | assumption | exact Mem.row (by omega) (by omega) | refine .there ?_ | refine Mem.app2 ?_)) (by first | rfl | exact ptr_get (by omega) | exact Is_gt (by assumption) (by omega) (by omega) | exact Is_gi (by first | assumption | omega)) | refine .r (i := 13) hs rfl (by kernel_rfl) .none (q_loadR rfl Try.isAgg3 (by assumption)) ?_
      refine .p (i := 14) rfl (by kernel_rfl) .none (q_ixO (k := x.B.toNat) rfl rfl Try.runUnderlying22 Try.sizeOf3 (by omega) hb) ?_
      first | refine .load (i := 15) hs rfl (by kernel_rfl) .none rfl Try.isAgg3 ?_ (by repeat (first | exact .here | assumption | exact Mem.row (by omega) (by omega) | refine .there ?_ | refine Mem.app2 ?_)) (by first | rfl | exact ptr_get (by omega) | exact Is_gt (by assumption) (by omega) (by omega) | exact Is_gi (by first | assumption | omega)) | refine .r (i := 15) hs rfl (by kernel_rfl) .none (q_loadR rfl Try.isAgg3 (by assumption)) ?_
      first | refine .p (i := 16) rfl (by kernel_rfl) .none (q_fa0 rfl fa_api_Limit_2) ?_ | refine .p (i := 16) rfl (by kernel_rfl) .none (q_fa rfl fa_api_Limit_2) ?_
      first | refine .load (i := 17) hs rfl (by kernel_rfl) .none rfl Try.isAgg3 ?_ (by repeat (first | exact .here | assumption | exact Mem.row (by omega) (by omega) | refine .there ?_ | refine Mem.app2 ?_)) (by first | rfl | exact ptr_get (by omega) | exact Is_gt (by assumption) (by omega) (by omega) | exact Is_gi (by first | assumption | omega)) | refine .r (i := 17) hs rfl (by kernel_rfl) .none (q_loadR rfl Try.isAgg3 (by assumption)) ?_
      first | refine .p (i := 18) rfl (by kernel_rfl) .none (q_minI rfl rfl) ?_ | refine .p (i := 18) rfl (by kernel_rfl) .none (q_min rfl rfl) ?_
      refine .p (i := 19) rfl (by kernel_rfl) .none (q_ixO (k := x.B.toNat) rfl rfl Try.runUnderlying22 Try.sizeOf3 (by omega) hb) ?_
      refine .e1 (i := 20) (by kernel_rfl) rfl rfl .none hs ?_ (hp := by repeat (first | exact .nil | refine .cons (by first | exact HLe.bot _ | exact HLe.refl _ | assumption) (by first | exact .nil | (refine Sub.one ?_; repeat (first | exact .here | assumption | exact Mem.row (by omega) (by omega) | refine .there ?_ | refine Mem.app2 ?_))) ?_))
      refine .store hs rfl rfl Try.sizeOf3 ?_ (.there (.there (Upd.row _ (by omega) (by omega)))) (blt_Is (by rw [hq.2 _ ha]; exact hb)) (Is_set _ _ _); intro w hs
      refine .go ?_
      refine .done (by kernel_rfl) hs ?_ (hp := by repeat (first | exact .nil | refine .cons (by first | exact HLe.bot _ | exact HLe.refl _ | assumption) (by first | exact .nil | (refine Sub.one ?_; repeat (first | exact .here | assumption | exact Mem.row (by omega) (by omega) | refine .there ?_ | refine Mem.app2 ?_))) ?_))
      refine nB (nT ?_)
      exact .mk ⟨rfl, _, hq.set ha _, by rw [gt_set hq ha hb]; exact hB.step hinn hga, hs.tail⟩
    · rintro fr w ⟨rfl, rs, hq, hB, hs⟩
      rw [← arcsOf_length] at hB
      have hI := hB.go hinn hnp
      have hcb : ∀ x ∈ s.arcs, -20000 ≤ x.c ∧ x.c ≤ 20000 := fun x hx => by have := hinn x hx; omega
      refine nT ?_
      refine .seq ?_
      refine .regSeq ?_
      refine .q hs (q_move rfl) ?_
      first | refine .q hs (q_len rfl Try.runUnderlying87) ?_ | refine .q hs (q_lenR (by assumption) rfl Try.runUnderlying87) ?_ | refine .q hs (q_lenI (by assumption) rfl Try.runUnderlying87) ?_
      refine .q hs (q_move rfl) ?_
      refine .nil ?_
      refine .for (N := n) (J := fun m fr w => fr = [(4, .slice (some ⟨b16, 0, none⟩) n n)] ∧ ∃ rs, Sq n rs ∧ (m < n → WayI n s.arcs m (fun _ _ => False) (gt rs)) ∧ (m = n → WaysT n s.arcs (gt rs)) ∧ St H w (.blk b16 (bs.map (ptr n)) :: (rowsE bs rs ++ (.blk b1 [I s.many, .slice al s.lims.length cl] :: σ)))) (by omega) ?_ ?_ ?_
      · exact .mk ⟨rfl, rs, hq, fun _ => hI, fun e => by omega, hs⟩
      · clear hI hB hq
        rintro m fr w hm ⟨rfl, rs, hq, hI, -, hs⟩
        replace hI := hI hm
        refine .block ?_
        refine .regSeq ?_
        refine .q hs (q_move rfl) ?_
        refine .q hs (q_assign rfl) ?_
        refine .nil ?_
        refine .regSeq ?_
        refine .q hs (q_move rfl) ?_
        first | refine .q hs (q_len rfl Try.runUnderlying87) ?_ | refine .q hs (q_lenR (by assumption) rfl Try.runUnderlying87) ?_ | refine .q hs (q_lenI (by assumption) rfl Try.runUnderlying87) ?_
        refine .q hs (q_move rfl) ?_
        refine .nil ?_
        refine .for (N := n) (J := fun i fr w => fr = [(9, I (m : Int)), (76, I (m : Int)), (75, I (n : Int)), (4, .slice (some ⟨b16, 0, none⟩) n n)] ∧ ∃ rs, Sq n rs ∧ WayI n s.arcs m (fun a _ => a < i) (gt rs) ∧ St H w (.blk b16 (bs.map (ptr n)) :: (rowsE bs rs ++ (.blk b1 [I s.many, .slice al s.lims.length cl] :: σ)))) (by omega) ?_ ?_ ?_
        · exact .mk ⟨rfl, rs, hq, hI.skip hcb hm (P := fun _ _ => False) (fun i j h => by omega) (fun _ _ _ _ h => h.elim), hs⟩
        · clear hI hq
          rintro i fr w hi ⟨rfl, rs, hq, hI, hs⟩
          refine .block ?_
          refine .regSeq ?_
          refine .q hs (q_move rfl) ?_
          refine .q hs (q_assign rfl) ?_
          refine .nil ?_
          refine .regSeq ?_
          refine .q hs (q_move rfl) ?_
          first | refine .q hs (q_len rfl Try.runUnderlying87) ?_ | refine .q hs (q_lenR (by assumption) rfl Try.runUnderlying87) ?_ | refine .q hs (q_lenI (by assumption) rfl Try.runUnderlying87) ?_
          refine .q hs (q_move rfl) ?_
          refine .nil ?_
          refine .for (N := n) (J := fun k fr w => fr = [(10, I (i : Int)), (81, I (i : Int)), (80, I (n : Int)), (9, I (m : Int)), (76, I (m : Int)), (75, I (n : Int)), (4, .slice (some ⟨b16, 0, none⟩) n n)] ∧ ∃ rs, Sq n rs ∧ WayI n s.arcs m (fun a b => a < i ∨ (a = i ∧ b < k)) (gt rs) ∧ St H w (.blk b16 (bs.map (ptr n)) :: (rowsE bs rs ++ (.blk b1 [I s.many, .slice al s.lims.length cl] :: σ)))) (by omega) ?_ ?_ ?_
          · exact .mk ⟨rfl, rs, hq, hI.skip hcb hm (P := fun _ _ => False) (fun a b h => by omega) (fun _ _ _ _ h => h.elim), hs⟩
          · clear hI hq
            rintro k fr w hk ⟨rfl, rs, hq, hI, hs⟩
            have hrl := hq.1
            have c1 := hI.cl i m hi hm; have c2 := hI.cl m k hm hk
            have u1 := hI.up i m hi hm; have u2 := hI.up m k hm hk
            refine .block ?_
            refine .regSeq ?_
            refine .q hs (q_move rfl) ?_
            refine .q hs (q_assign rfl) ?_
            refine .nil ?_
            refine .regSeq ?_
            refine .q hs (q_move rfl) ?_
            refine .q hs (q_move rfl) ?_
            first | (refine .ixX hs (by assumption) rfl rfl Try.runUnderlying87 Try.sizeOf22 (by assumption) (by first | rfl | omega) ?_; intro b91 o91 hc91) | refine .q hs (q_ixO rfl rfl Try.runUnderlying87 Try.sizeOf22 (by first | rfl | omega) (by first | assumption | omega)) ?_  -- indexAddr <[][]int> t89 t90
            first | refine .q hs (q_load rfl Try.isAgg22 (hm := by repeat (first | exact .here | assumption | exact Mem.row (by omega) (by omega) | refine .there ?_ | refine Mem.app2 ?_)) (hv := by first | rfl | exact ptr_get (by omega) | exact Is_gt (by assumption) (by omega) (by omega) | exact Is_gi (by first | assumption | omega))) ?_ | refine .q hs (q_loadR rfl Try.isAgg22 (by assumption)) ?_
            refine .q hs (q_move rfl) ?_
            first | (refine .ixY hs (by assumption) rfl rfl Try.runUnderlying22 Try.sizeOf3 (by assumption) (by first | rfl | omega) ?_; intro b94 o94 hc94) | refine .q hs (q_ixO rfl rfl Try.runUnderlying22 Try.sizeOf3 (by first | rfl | omega) (by first | assumption | omega)) ?_  -- indexAddr <[]int> t92 t93
            first | refine .q hs (q_load rfl Try.isAgg3 (hm := by repeat (first | exact .here | assumption | exact Mem.row (by omega) (by omega) | refine .there ?_ | refine Mem.app2 ?_)) (hv := by first | rfl | exact ptr_get (by omega) | exact Is_gt (by assumption) (by omega) (by omega) | exact Is_gi (by first | assumption | omega))) ?_ | refine .q hs (q_loadR rfl Try.isAgg3 (by assumption)) ?_
            refine .q hs (q_neq rfl rfl) ?_
            refine .q hs (q_move rfl) ?_
            refine .bifN (t' := 97) rfl (fun hb97 => ?_) (fun hb97 => ?_)
            · refine .gT rfl rfl ?_
              refine .q hs (q_move rfl) ?_
              refine .gT rfl rfl ?_
              refine .q hs (q_move rfl) ?_
              refine .gT rfl rfl ?_
              first | (refine .ixX hs (by assumption) rfl rfl Try.runUnderlying87 Try.sizeOf22 (by assumption) (by first | rfl | omega) ?_; intro b100 o100 hc100) | refine .q hs (q_ixO rfl rfl Try.runUnderlying87 Try.sizeOf22 (by first | rfl | omega) (by first | assumption | omega)) ?_  -- indexAddr <[][]int> t98 t99
              refine .gT rfl rfl ?_
              first | refine .q hs (q_load rfl Try.isAgg22 (hm := by repeat (first | exact .here | assumption | exact Mem.row (by omega) (by omega) | refine .there ?_ | refine Mem.app2 ?_)) (hv := by first | rfl | exact ptr_get (by omega) | exact Is_gt (by assumption) (by omega) (by omega) | exact Is_gi (by first | assumption | omega))) ?_ | refine .q hs (q_loadR rfl Try.isAgg22 (by assumption)) ?_
              refine .gT rfl rfl ?_
              refine .q hs (q_move rfl) ?_
              refine .gT rfl rfl ?_
              first | (refine .ixY hs (by assumption) rfl rfl Try.runUnderlying22 Try.sizeOf3 (by assumption) (by first | rfl | omega) ?_; intro b103 o103 hc103) | refine .q hs (q_ixO rfl rfl Try.runUnderlying22 Try.sizeOf3 (by first | rfl | omega) (by first | assumption | omega)) ?_  -- indexAddr <[]int> t101 t102
              refine .gT rfl rfl ?_
              first | refine .q hs (q_load rfl Try.isAgg3 (hm := by repeat (first | exact .here | assumption | exact Mem.row (by omega) (by omega) | refine .there ?_ | refine Mem.app2 ?_)) (hv := by first | rfl | exact ptr_get (by omega) | exact Is_gt (by assumption) (by omega) (by omega) | exact Is_gi (by first | assumption | omega))) ?_ | refine .q hs (q_loadR rfl Try.isAgg3 (by assumption)) ?_
              refine .gT rfl rfl ?_
              refine .q hs (q_neq rfl rfl) ?_
              refine .q hs (q_pickT rfl rfl) ?_
              refine .nil ?_
              refine (.condN rfl (fun hc106 => ?_) (fun hc106 => ?_))
              · refine .draw mix rfl hs ?_; intro w hs
                replace u1 := u1 hb97; replace u2 := u2 hc106
                refine .p (i := 0) rfl (by kernel_rfl) .none (q_move rfl) ?_
                refine .p (i := 1) rfl (by kernel_rfl) .none (q_move rfl) ?_
                first | (refine .ixX (i := 2) hs rfl (by kernel_rfl) .none (by assumption) rfl rfl Try.runUnderlying87 Try.sizeOf22 (by assumption) (by first | rfl | omega) ?_; intro b109 o109 hc109) | refine .p (i := 2) rfl (by kernel_rfl) .none (q_ixO rfl rfl Try.runUnderlying87 Try.sizeOf22 (by first | rfl | omega) (by first | assumption | omega)) ?_  -- indexAddr <[][]int> t107 t108
                first | refine .load (i := 3) hs rfl (by kernel_rfl) .none rfl Try.isAgg22 ?_ (by repeat (first | exact .here | assumption | exact Mem.row (by omega) (by omega) | refine .there ?_ | refine Mem.app2 ?_)) (by first | rfl | exact ptr_get (by omega) | exact Is_gt (by assumption) (by omega) (by omega) | exact Is_gi (by first | assumption | omega)) | refine .r (i := 3) hs rfl (by kernel_rfl) .none (q_loadR rfl Try.isAgg22 (by assumption)) ?_
                refine .p (i := 4) rfl (by kernel_rfl) .none (q_move rfl) ?_
                refine .p (i := 5) rfl (by kernel_rfl) .none (q_move rfl) ?_
                refine .p (i := 6) rfl (by kernel_rfl) .none (q_move rfl) ?_
                first | (refine .ixX (i := 7) hs rfl (by kernel_rfl) .none (by assumption) rfl rfl Try.runUnderlying87 Try.sizeOf22 (by assumption) (by first | rfl | omega) ?_; intro b114 o114 hc114) | refine .p (i := 7) rfl (by kernel_rfl) .none (q_ixO rfl rfl Try.runUnderlying87 Try.sizeOf22 (by first | rfl | omega) (by first | assumption | omega)) ?_  -- indexAddr <[][]int> t112 t113
                first | refine .load (i := 8) hs rfl (by kernel_rfl) .none rfl Try.isAgg22 ?_ (by repeat (first | exact .here | assumption | exact Mem.row (by omega) (by omega) | refine .there ?_ | refine Mem.app2 ?_)) (by first | rfl | exact ptr_get (by omega) | exact Is_gt (by assumption) (by omega) (by omega) | exact Is_gi (by first | assumption | omega)) | refine .r (i := 8) hs rfl (by kernel_rfl) .none (q_loadR rfl Try.isAgg22 (by assumption)) ?_
                refine .p (i := 9) rfl (by kernel_rfl) .none (q_move rfl) ?_
                first | (refine .ixX (enc := fun x => [I x]) (i := 10) hs rfl (by kernel_rfl) .none (by assumption) rfl rfl Try.runUnderlying22 Try.sizeOf3 (by assumption) (by first | rfl | omega) ?_; intro b117 o117 hc117; replace hc117 := CellsAt.one hc117) | refine .p (i := 10) rfl (by kernel_rfl) .none (q_ixO rfl rfl Try.runUnderlying22 Try.sizeOf3 (by first | rfl | omega) (by first | assumption | omega)) ?_  -- indexAddr <[]int> t115 t116
                first | refine .load (i := 11) hs rfl (by kernel_rfl) .none rfl Try.isAgg3 ?_ (by repeat (first | exact .here | assumption | exact Mem.row (by omega) (by omega) | refine .there ?_ | refine Mem.app2 ?_)) (by first | rfl | exact ptr_get (by omega) | exact Is_gt (by assumption) (by omega) (by omega) | exact Is_gi (by first | assumption | omega)) | refine .r (i := 11) hs rfl (by kernel_rfl) .none (q_loadR rfl Try.isAgg3 (by assumption)) ?_
                refine .p (i := 12) rfl (by kernel_rfl) .none (q_move rfl) ?_
                refine .p (i := 13) rfl (by kernel_rfl) .none (q_move rfl) ?_
                first | (refine .ixX (i := 14) hs rfl (by kernel_rfl) .none (by assumption) rfl rfl Try.runUnderlying87 Try.sizeOf22 (by assumption) (by first | rfl | omega) ?_; intro b121 o121 hc121) | refine .p (i := 14) rfl (by kernel_rfl) .none (q_ixO rfl rfl Try.runUnderlying87 Try.sizeOf22 (by first | rfl | omega) (by first | assumption | omega)) ?_  -- indexAddr <[][]int> t119 t120
                first | refine .load (i := 15) hs rfl (by kernel_rfl) .none rfl Try.isAgg22 ?_ (by repeat (first | exact .here | assumption | exact Mem.row (by omega) (by omega) | refine .there ?_ | refine Mem.app2 ?_)) (by first | rfl | exact ptr_get (by omega) | exact Is_gt (by assumption) (by omega) (by omega) | exact Is_gi (by first | assumption | omega)) | refine .r (i := 15) hs rfl (by kernel_rfl) .none (q_loadR rfl Try.isAgg22 (by assumption)) ?_
                refine .p (i := 16) rfl (by kernel_rfl) .none (q_move rfl) ?_
                first | (refine .ixX (enc := fun x => [I x]) (i := 17) hs rfl (by kernel_rfl) .none (by assumption) rfl rfl Try.runUnderlying22 Try.sizeOf3 (by assumption) (by first | rfl | omega) ?_; intro b124 o124 hc124; replace hc124 := CellsAt.one hc124) | refine .p (i := 17) rfl (by kernel_rfl) .none (q_ixO rfl rfl Try.runUnderlying22 Try.sizeOf3 (by first | rfl | omega) (by first | assumption | omega)) ?_  -- indexAddr <[]int> t122 t123
                first | refine .load (i := 18) hs rfl (by kernel_rfl) .none rfl Try.isAgg3 ?_ (by repeat (first | exact .here | assumption | exact Mem.row (by omega) (by omega) | refine .there ?_ | refine Mem.app2 ?_)) (by first | rfl | exact ptr_get (by omega) | exact Is_gt (by assumption) (by omega) (by omega) | exact Is_gi (by first | assumption | omega)) | refine .r (i := 18) hs rfl (by kernel_rfl) .none (q_loadR rfl Try.isAgg3 (by assumption)) ?_
                refine .p (i := 19) rfl (by kernel_rfl) .none (q_move rfl) ?_
                refine .p (i := 20) rfl (by kernel_rfl) .none (q_move rfl) ?_
                first | (refine .ixX (i := 21) hs rfl (by kernel_rfl) .none (by assumption) rfl rfl Try.runUnderlying87 Try.sizeOf22 (by assumption) (by first | rfl | omega) ?_; intro b128 o128 hc128) | refine .p (i := 21) rfl (by kernel_rfl) .none (q_ixO rfl rfl Try.runUnderlying87 Try.sizeOf22 (by first | rfl | omega) (by first | assumption | omega)) ?_  -- indexAddr <[][]int> t126 t127
                first | refine .load (i := 22) hs rfl (by kernel_rfl) .none rfl Try.isAgg22 ?_ (by repeat (first | exact .here | assumption | exact Mem.row (by omega) (by omega) | refine .there ?_ | refine Mem.app2 ?_)) (by first | rfl | exact ptr_get (by omega) | exact Is_gt (by assumption) (by omega) (by omega) | exact Is_gi (by first | assumption | omega)) | refine .r (i := 22) hs rfl (by kernel_rfl) .none (q_loadR rfl Try.isAgg22 (by assumption)) ?_
                refine .p (i := 23) rfl (by kernel_rfl) .none (q_move rfl) ?_
                first | (refine .ixX (enc := fun x => [I x]) (i := 24) hs rfl (by kernel_rfl) .none (by assumption) rfl rfl Try.runUnderlying22 Try.sizeOf3 (by assumption) (by first | rfl | omega) ?_; intro b131 o131 hc131; replace hc131 := CellsAt.one hc131) | refine .p (i := 24) rfl (by kernel_rfl) .none (q_ixO rfl rfl Try.runUnderlying22 Try.sizeOf3 (by first | rfl | omega) (by first | assumption | omega)) ?_  -- indexAddr <[]int> t129 t130
                first | refine .load (i := 25) hs rfl (by kernel_rfl) .none rfl Try.isAgg3 ?_ (by repeat (first | exact .here | assumption | exact Mem.row (by omega) (by omega) | refine .there ?_ | refine Mem.app2 ?_)) (by first | rfl | exact ptr_get (by omega) | exact Is_gt (by assumption) (by omega) (by omega) | exact Is_gi (by first | assumption | omega)) | refine .r (i := 25) hs rfl (by kernel_rfl) .none (q_loadR rfl Try.isAgg3 (by assumption)) ?_
                first | refine .p (i := 26) rfl (by kernel_rfl) .none (q_addF rfl rfl (by omega)) ?_ | refine .p (i := 26) rfl (by kernel_rfl) .none (q_addU rfl rfl ⟨by omega, by omega⟩) ?_ | refine .p (i := 26) rfl (by kernel_rfl) .none (q_add rfl rfl) ?_
                first | refine .p (i := 27) rfl (by kernel_rfl) .none (q_minI rfl rfl) ?_ | refine .p (i := 27) rfl (by kernel_rfl) .none (q_min rfl rfl) ?_
                first | refine .p (i := 28) rfl (by kernel_rfl) .none (q_maxI rfl rfl) ?_ | refine .p (i := 28) rfl (by kernel_rfl) .none (q_max rfl rfl) ?_
                first | (refine .ixX (enc := fun x => [I x]) (i := 29) hs rfl (by kernel_rfl) .none (by assumption) rfl rfl Try.runUnderlying22 Try.sizeOf3 (by assumption) (by first | rfl | omega) ?_; intro b136 o136 hc136; replace hc136 := CellsAt.one hc136) | refine .p (i := 29) rfl (by kernel_rfl) .none (q_ixO rfl rfl Try.runUnderlying22 Try.sizeOf3 (by first | rfl | omega) (by first | assumption | omega)) ?_  -- indexAddr <[]int> t110 t111
                refine .e1 (i := 30) (by kernel_rfl) rfl rfl .none hs ?_ (hp := by repeat (first | exact .nil | refine .cons (by first | exact HLe.bot _ | exact HLe.refl _ | assumption) (by first | exact .nil | (refine Sub.one ?_; repeat (first | exact .here | assumption | exact Mem.row (by omega) (by omega) | refine .there ?_ | refine Mem.app2 ?_))) ?_))
                refine .store hs rfl rfl Try.sizeOf3 ?_ (.there (Upd.row _ (by omega) (by omega))) (blt_Is (by rw [hq.2 _ hi]; exact hk)) (Is_set _ _ _); intro w hs
                refine .go ?_
                refine .done (by kernel_rfl) hs ?_ (hp := by repeat (first | exact .nil | refine .cons (by first | exact HLe.bot _ | exact HLe.refl _ | assumption) (by first | exact .nil | (refine Sub.one ?_; repeat (first | exact .here | assumption | exact Mem.row (by omega) (by omega) | refine .there ?_ | refine Mem.app2 ?_))) ?_))
                refine nB (nT ?_)
                exact .mk ⟨rfl, _, hq.set hi _, by rw [gt_set hq hi hk]; exact hI.step hcb hm hi hk (fun a b h => by omega) hb97 hc106, hs⟩
              · refine .skip ?_
                refine nB (nT ?_)
                exact .mk ⟨rfl, rs, hq, hI.skip hcb hm (P := fun a b => a = i ∧ b = k) (fun a b h => by omega) (fun a b _ _ h => by obtain ⟨rfl, rfl⟩ := h; exact .inr hc106), hs⟩
            · refine .gFs 8 8 true rfl rfl rfl ?_
              refine .q hs (q_pickF rfl rfl) ?_
              refine .nil ?_
              refine (.condF rfl rfl ?_)
              refine .skip ?_
              refine nB (nT ?_)
              exact .mk ⟨rfl, rs, hq, hI.skip hcb hm (P := fun a b => a = i ∧ b = k) (fun a b h => by omega) (fun a b _ _ h => by obtain ⟨rfl, rfl⟩ := h; exact .inl hb97), hs⟩
          · rintro fr w ⟨rfl, rs, hq, hI, hs⟩
            refine nB (nT ?_)
            exact .mk ⟨rfl, rs, hq, hI.skip hcb hm (P := fun a b => a = i ∧ n ≤ b) (fun a b h => by omega) (fun a b _ hb h => by omega), hs⟩
        · rintro fr w ⟨rfl, rs, hq, hI, hs⟩
          replace hI : WayI n s.arcs m (fun _ _ => True) (gt rs) := hI.skip hcb hm (P := fun a _ => n ≤ a) (fun a b h => by omega) (fun a b ha _ h => by omega)
          refine nB (nT ?_)
          exact .mk ⟨rfl, rs, hq, fun h => hI.next hcb h hn65, fun h => hI.done hcb h.symm hn65, hs⟩
      · rintro fr w ⟨rfl, rs, hq, -, hT, hs⟩
        replace hT := hT rfl
        refine nT ?_
        refine .regSeq ?_
        refine .q hs (q_move rfl) ?_
        refine .q hs (q_assign rfl) ?_
        refine .nil ?_
        refine .ret (Fin.ret1 Try.results145 rfl ?_)
        obtain ⟨H1, g1, g2, hs⟩ := table_publish hq hbl (by omega) hs
        exact ⟨H1, rs, g1, g2, hq, hT, hs.tail⟩
end Go.Proofs.Ytiiokdeehlfeeaa

/-
  Walks: the reference's soundness, balance and cost.
-/
namespace Go.Proofs.Ytiiokdeehlfeeaa
open Go.MW
theorem ref02_Sound_spec {H : Heap} {w : World} {σ : List Ent} {vm : Value} {rs : List (List Int)} {n : Nat} (hs : St H w σ) (hM : RT H vm rs) (hq : Sq n rs) (hn : n ≤ 1000) :
    Cl Try.prog 167 [vm] w fun v w' => ∃ b, v = .bool b ∧ (b = true ↔ ∀ i, i < n → ¬ gt rs i i < 0) ∧ St H w' σ := by
  obtain ⟨a, c, rfl⟩ := hM.shape
  have hrl := hq.1
  refine Cl.of Try.func167 rfl Try.ntmps167 (by simp) (args_cons (k := 0) rfl (args0)) ?_
  refine .regSeq ?_
  refine .q hs (q_assign rfl) ?_
  refine .nil ?_
  refine .seq ?_
  refine .regSeq ?_
  refine .q hs (q_move rfl) ?_
  first | refine .q hs (q_len rfl Try.runUnderlying87) ?_ | refine .q hs (q_lenR (by assumption) rfl Try.runUnderlying87) ?_ | refine .q hs (q_lenI (by assumption) rfl Try.runUnderlying87) ?_
  refine .q hs (q_move rfl) ?_
  refine .nil ?_
  refine .for (N := rs.length) (J := fun k fr w => fr = [(0, .slice a rs.length c)] ∧ (∀ i, i < k → ¬ gt rs i i < 0) ∧ St H w σ) (by omega) ?_ ?_ ?_
  · exact .mk ⟨rfl, fun i h => by omega, hs⟩
  · rintro k fr w hk ⟨rfl, h0, hs⟩
    refine .block ?_
    refine .regSeq ?_
    refine .q hs (q_move rfl) ?_
    refine .q hs (q_assign rfl) ?_
    refine .nil ?_
    refine .regSeq ?_
    refine .q hs (q_move rfl) ?_
    refine .q hs (q_move rfl) ?_
    refine .ixT hs hM rfl rfl Try.runUnderlying87 Try.sizeOf22 hk rfl ?_; intro b11 o11 a11 c11 hc11 hR11
    refine .q hs (q_loadR rfl Try.isAgg22 hc11) ?_
    refine .q hs (q_move rfl) ?_
    refine .ixY hs hR11 rfl rfl Try.runUnderlying22 Try.sizeOf3 (gi_get (l := gr rs k) (i := k) (by rw [hq.2 k (by omega)]; omega)) rfl ?_; intro b14 o14 hc14
    refine .q hs (q_loadR rfl Try.isAgg3 hc14) ?_
    refine .q hs (q_lss rfl rfl) ?_
    refine .nil ?_
    refine (.condD rfl (fun hc16 => ?_) (fun hc16 => ?_))
    · refine .regSeq ?_
      refine .q hs (q_assign rfl) ?_
      refine .nil ?_
      refine .ret (rB (rT (rB (rT (Fin.ret1 Try.results167 rfl ?_)))))
      exact ⟨false, rfl, ⟨fun h => (by cases h), fun h => (h k (by omega) hc16).elim⟩, hs⟩
    · refine .skip ?_
      refine nB (nT ?_)
      exact .mk ⟨rfl, fun i hi => by
        by_cases e : i = k
        · subst e; exact hc16
        · exact h0 i (by omega), hs⟩
  · rintro fr w ⟨rfl, h0, hs⟩
    refine nT ?_
    refine .regSeq ?_
    refine .q hs (q_assign rfl) ?_
    refine .nil ?_
    refine .ret (Fin.ret1 Try.results167 rfl ?_)
    exact ⟨true, rfl, ⟨fun _ i hi => h0 i (by omega), fun _ => rfl⟩, hs⟩
theorem ref02_balance_spec {H : Heap} {w : World} {σ : List Ent} {v : Value} {ws : List Int} {n : Nat} (hs : St H w σ) (hr : RI H v ws) (hl : ws.length = n + 1) (hn : n ≤ 1000) (hz : sizesTo ws (n + 1) ≤ FF) :
    Cl Try.prog 208 [v] w fun u w' => ∃ b cap sp lf, u = .slice (some ⟨b, 0, none⟩) (n + 1) cap ∧ lf.length = n + 1 ∧ (∀ v < n + 1, gi lf v = wtOf ws (n + 1) v) ∧ St H w' (.blk b (Is lf ++ sp) :: σ) := by
  obtain ⟨a, c, rfl⟩ := RI.shape hr
  have hFF : FF = 3600000000000 := rfl
  refine Cl.of Try.func208 rfl Try.ntmps208 (by simp) (args_cons (k := 0) rfl (args0)) ?_
  refine .regSeq ?_
  refine .q hs (q_assign rfl) ?_
  refine .nil ?_
  refine .regSeq ?_
  refine .o (.buildSlice (cells := []) hs bls_sl_int_0 rfl rfl ?_); intro b6 w hs
  refine .q hs (q_move rfl) ?_
  refine .o (.append (xs := []) hs app_sl_int_int rfl rfl (.full (len := 0) rfl) (.ints hr) (Is_cell ws) (fun l' h => by simp at h; obtain rfl : l' = 0 := (by omega); omega) ?_); intro v8 en8 w hO hs
  rw [List.nil_append] at hO
  rcases hO with ⟨_, _, h0, _⟩ | ⟨b8, l8, c8, sp, rfl, rfl, h5, h6, h7⟩
  · exfalso
    have h1 : ws.length = 0 := by simpa using congrArg List.length h0
    omega
  obtain rfl : l8 = n + 1 := by simp at h5; omega
  refine .q hs (q_assign rfl) ?_
  refine .nil ?_
  refine .regSeq ?_
  refine .q hs (q_move rfl) ?_
  refine .q hs (q_ixO (k := 0) rfl rfl Try.runUnderlying22 Try.sizeOf3 rfl (by omega)) ?_
  refine .o (.store hs rfl rfl Try.sizeOf3 ?_ (by repeat constructor) (by simp; omega) (set_sp (by omega) 0 sp)); intro w hs
  refine .nil ?_
  refine .seq ?_
  refine .regSeq ?_
  refine .q hs (q_move rfl) ?_
  refine .q hs (q_sliceLX (k := 1) rfl rfl Try.runUnderlying22 Try.sizeOf3 rfl (by omega)) ?_
  have hT := RI.tail hr (k := 1) (by omega)
  have hTl : (ws.drop 1).length = n := by rw [List.length_drop]; omega
  first | refine .q hs (q_len rfl Try.runUnderlying22) ?_ | refine .q hs (q_lenR (by assumption) rfl Try.runUnderlying22) ?_ | refine .q hs (q_lenI (by assumption) rfl Try.runUnderlying22) ?_
  refine .q hs (q_move rfl) ?_
  refine .nil ?_
  refine .for (N := n) (J := fun k fr w => fr = [(12, .slice (if c = 1 then a else a.map (·.add (1 * 1))) (ws.length - 1) (c - 1)), (3, .slice (some ⟨b8, 0, none⟩) (n + 1) c8)] ∧ ∃ lf, (lf.length = n + 1 ∧ gi lf 0 = -tailTo ws k ∧ ∀ v, 0 < v → gi lf v = gi ws v) ∧ St H w (.blk b8 (Is lf ++ sp) :: σ)) (by omega) ?_ ?_ ?_
  · exact .mk ⟨rfl, _, ⟨by simp [hl], by rw [gi_set (by omega), if_pos rfl]; rfl, fun v hv => by rw [gi_set (by omega), if_neg (by omega)]⟩, hs⟩ (hs := .consI rfl rfl (.consI rfl (by omega) (by repeat (first | exact .nil rfl rfl | refine .cons rfl ?_))))
  · rintro k fr w hk ⟨rfl, lf, ⟨h8, h9, h10⟩, hs⟩
    have hx := gi_get (l := ws.drop 1) (i := k) (by omega)
    have e1 : gi (ws.drop 1) k = gi ws (k + 1) := by simp [gi, List.getD]
    have hb1 := tail_bound ws k
    have hb2 := sizes_at ws (v := k + 1) (n := n + 1) (by omega)
    have hb3 := sumTo_mono (f := fun v => max (gi ws v) (-gi ws v)) (fun v => by omega) (k := k + 1) (n := n + 1) (by omega)
    change sizesTo ws (k + 1) ≤ sizesTo ws (n + 1) at hb3
    refine .block ?_
    refine .regSeq ?_
    refine .ixY hs hT rfl rfl Try.runUnderlying22 Try.sizeOf3 hx rfl ?_; intro b16 o16 hc16
    refine .q hs (q_loadR rfl Try.isAgg3 hc16) ?_
    rw [e1]
    refine .q hs (q_assign rfl) ?_
    refine .nil ?_
    refine .region ?_
    refine .q hs (q_move rfl) ?_
    refine .q hs (q_ixO (k := 0) rfl rfl Try.runUnderlying22 Try.sizeOf3 rfl (by omega)) ?_
    refine .q hs (q_load rfl Try.isAgg3 (hv := Is_get (gi_get (l := lf) (i := 0) (by omega)) sp)) ?_
    refine .q hs (q_move rfl) ?_
    first | refine .q hs (q_subF rfl rfl (by omega)) ?_ | refine .q hs (q_sub rfl rfl) ?_
    refine .q hs (q_ixO (k := 0) rfl rfl Try.runUnderlying22 Try.sizeOf3 rfl (by omega)) ?_
    refine .o (.store hs rfl rfl Try.sizeOf3 ?_ (by repeat constructor) (by simp; omega) (set_sp (by omega) _ sp)); intro w hs
    refine .nil ?_
    refine nB (nT ?_)
    exact .mk ⟨rfl, _, ⟨by simp [h8], by rw [gi_set (by omega), if_pos rfl, h9]; simp only [tailTo, sumTo]; omega, fun v hv => by rw [gi_set (by omega), if_neg (by omega)]; exact h10 v hv⟩, hs⟩
  · rintro fr w ⟨rfl, lf, ⟨h8, h9, h10⟩, hs⟩
    refine nT ?_
    refine .regSeq ?_
    refine .q hs (q_move rfl) ?_
    refine .q hs (q_assign rfl) ?_
    refine .nil ?_
    refine .ret (Fin.ret1 Try.results208 rfl ?_)
    exact ⟨b8, c8, sp, lf, rfl, h8, fun v hv => by
      cases v with
      | zero => rw [h9, wt_zero]
      | succ v => rw [h10 _ (by omega), wt_succ], hs⟩
theorem ref02_cost_spec {H : Heap} {w : World} {σ : List Ent} {vm : Value} {Ms Fs : List (List Int)} {n bF : Nat} {bs : List Nat} (hs : St H w σ) (hM : RT H vm Ms) (hqM : Sq n Ms) (hn : n ≤ 1000) (hF0 : Mem σ (.blk bF (bs.map (ptr n)))) (hbl : bs.length = n) (hqF : Sq n Fs) (hF : ∀ i, i < n → Mem σ (.blk (gb bs i) (Is (gr Fs i)))) :
    Cl Try.prog 210 [vm, .slice (some ⟨bF, 0, none⟩) n n] w fun v w' => v = I (IntKind.i64.wrap (sumTo (fun a => sumTo (fun b => cell (gt Ms) (gt Fs) a b) n) n)) ∧ St H w' σ := by
  obtain ⟨am, cm, rfl⟩ := hM.shape
  have hml := hqM.1
  have hfl := hqF.1
  refine Cl.of Try.func210 rfl Try.ntmps210 (by simp) (args_cons (k := 0) rfl (args_cons (k := 1) rfl (args0))) ?_
  refine .regSeq ?_
  refine .q hs (q_assign rfl) ?_
  refine .nil ?_
  refine .regSeq ?_
  refine .q hs (q_assign rfl) ?_
  refine .nil ?_
  refine .seq ?_
  refine .regSeq ?_
  refine .q hs (q_move rfl) ?_
  first | refine .q hs (q_len rfl Try.runUnderlying87) ?_ | refine .q hs (q_lenR (by assumption) rfl Try.runUnderlying87) ?_ | refine .q hs (q_lenI (by assumption) rfl Try.runUnderlying87) ?_
  refine .q hs (q_move rfl) ?_
  refine .nil ?_
  refine .for (N := n) (J := fun k fr w => fr = [(5, I (IntKind.i64.wrap (sumTo (fun a => sumTo (fun b => cell (gt Ms) (gt Fs) a b) n) k))), (0, .slice am Ms.length cm), (1, .slice (some ⟨bF, 0, none⟩) n n)] ∧ St H w σ) (by omega) ?_ ?_ ?_
  · exact .mk ⟨rfl, hs⟩ (hs := .consI rfl rfl (.consI rfl (by omega) (.consI rfl (by simp [sumTo, i64wrap_eq]) (by repeat (first | exact .nil rfl rfl | refine .cons rfl ?_)))))
  · rintro i fr w hi ⟨rfl, hs⟩
    have hMi : i < Ms.length := by omega
    refine .block ?_
    refine .regSeq ?_
    refine .q hs (q_move rfl) ?_
    refine .q hs (q_assign rfl) ?_
    refine .nil ?_
    refine .regSeq ?_
    refine .q hs (q_move rfl) ?_
    first | refine .q hs (q_len rfl Try.runUnderlying87) ?_ | refine .q hs (q_lenR (by assumption) rfl Try.runUnderlying87) ?_ | refine .q hs (q_lenI (by assumption) rfl Try.runUnderlying87) ?_
    refine .q hs (q_move rfl) ?_
    refine .nil ?_
    refine .for (N := n) (J := fun k fr w => fr = [(5, I (IntKind.i64.wrap (sumTo (fun a => sumTo (fun b => cell (gt Ms) (gt Fs) a b) n) i + sumTo (fun b => cell (gt Ms) (gt Fs) i b) k))), (6, I (i : Int)), (10, I (i : Int)), (9, I (n : Int)), (0, .slice am Ms.length cm), (1, .slice (some ⟨bF, 0, none⟩) n n)] ∧ St H w σ) (by omega) ?_ ?_ ?_
    · exact .mk ⟨rfl, hs⟩ (hs := .consI rfl rfl (.consI rfl (by omega) (.consI rfl (by simp [sumTo]) (by repeat (first | exact .nil rfl rfl | refine .cons rfl ?_)))))
    · rintro k fr w hk ⟨rfl, hs⟩
      have hrM : (gr Ms i).length = n := hqM.2 i hi
      have hFi := hF i hi
      have hgi : ∀ z, 0 < gt Fs i k → z = gt Fs i k * gt Ms i k → z = cell (gt Ms) (gt Fs) i k := fun z h e => by unfold cell; rw [if_pos h, e]
      refine .block ?_
      refine .regSeq ?_
      refine .q hs (q_move rfl) ?_
      refine .q hs (q_assign rfl) ?_
      refine .nil ?_
      refine .regSeq ?_
      refine .q hs (q_move rfl) ?_
      refine .q hs (q_move rfl) ?_
      refine .q hs (q_ixO (k := i) rfl rfl Try.runUnderlying87 Try.sizeOf22 rfl hi) ?_
      refine .q hs (q_load rfl Try.isAgg22 (hm := hF0) (hv := ptr_get (by omega))) ?_
      refine .q hs (q_move rfl) ?_
      refine .q hs (q_ixO (k := k) rfl rfl Try.runUnderlying22 Try.sizeOf3 rfl hk) ?_
      refine .q hs (q_load rfl Try.isAgg3 (hm := hF i hi) (hv := Is_gt hqF hi hk)) ?_
      refine .q hs (q_gtr rfl rfl) ?_
      refine .nil ?_
      refine (.condD rfl (fun hc25 => ?_) (fun hc25 => ?_))
      · refine .draw mix rfl hs ?_; intro w hs
        refine .p (i := 0) rfl (by kernel_rfl) .none (q_move rfl) ?_
        refine .p (i := 1) rfl (by kernel_rfl) .none (q_move rfl) ?_
        refine .p (i := 2) rfl (by kernel_rfl) .none (q_move rfl) ?_
        refine .p (i := 3) rfl (by kernel_rfl) .none (q_ixO (k := i) rfl rfl Try.runUnderlying87 Try.sizeOf22 rfl hi) ?_
        refine .load (i := 4) hs rfl (by kernel_rfl) .none rfl Try.isAgg22 ?_ hF0 (ptr_get (by omega))
        refine .p (i := 5) rfl (by kernel_rfl) .none (q_move rfl) ?_
        refine .p (i := 6) rfl (by kernel_rfl) .none (q_ixO (k := k) rfl rfl Try.runUnderlying22 Try.sizeOf3 rfl hk) ?_
        refine .load (i := 7) hs rfl (by kernel_rfl) .none rfl Try.isAgg3 ?_ (hF i hi) (Is_gt hqF hi hk)
        refine .p (i := 8) rfl (by kernel_rfl) .none (q_move rfl) ?_
        refine .p (i := 9) rfl (by kernel_rfl) .none (q_move rfl) ?_
        refine .ixT (i := 10) hs rfl (by kernel_rfl) .none hM rfl rfl Try.runUnderlying87 Try.sizeOf22 hMi rfl ?_; intro b36 o36 a36 c36 hc36 hR36
        refine .r (i := 11) hs rfl (by kernel_rfl) .none (q_loadR rfl Try.isAgg22 hc36) ?_
        refine .p (i := 12) rfl (by kernel_rfl) .none (q_move rfl) ?_
        refine .ixX (enc := fun x => [I x]) (i := 13) hs rfl (by kernel_rfl) .none hR36 rfl rfl Try.runUnderlying22 Try.sizeOf3 (gi_get (l := gr Ms i) (i := k) (by omega)) rfl ?_; intro b39 o39 hc39; replace hc39 := CellsAt.one hc39
        refine .r (i := 14) hs rfl (by kernel_rfl) .none (q_loadR rfl Try.isAgg3 hc39) ?_
        refine .p (i := 15) rfl (by kernel_rfl) .none (q_mul rfl rfl) ?_
        refine .p (i := 16) rfl (by kernel_rfl) .none (q_add rfl rfl) ?_
        refine .p (i := 17) rfl (by kernel_rfl) .none (q_assign rfl) ?_
        refine .done (by kernel_rfl) hs ?_ (hp := by repeat (first | exact .nil | refine .cons (by first | exact HLe.bot _ | exact HLe.refl _ | assumption) (by first | exact .nil | (refine Sub.one ?_; repeat (first | exact .here | assumption | exact Mem.row (by omega) (by omega) | refine .there ?_ | refine Mem.app2 ?_))) ?_))
        refine nB (nT ?_)
        exact .mk ⟨rfl, hs⟩ (hs := .consI rfl (by omega) (.consI rfl rfl (.consI rfl (by
          rw [i64wrap_add2, i64wrap_add, show gt Fs i k * gi (gr Ms i) k = cell (gt Ms) (gt Fs) i k from hgi _ hc25 rfl]
          simp only [sumTo]
          congr 1; omega) (by repeat (first | exact .nil rfl rfl | refine .cons rfl ?_)))))
      · refine .skip ?_
        refine nB (nT ?_)
        exact .mk ⟨rfl, hs⟩ (hs := .consI rfl (by omega) (.consI rfl rfl (.consI rfl (by
          have : cell (gt Ms) (gt Fs) i k = 0 := by unfold cell; rw [if_neg hc25]
          simp only [sumTo, this]
          congr 1; omega) (by repeat (first | exact .nil rfl rfl | refine .cons rfl ?_)))))
    · rintro fr w ⟨rfl, hs⟩
      refine nB (nT ?_)
      exact .mk ⟨rfl, hs⟩ (hs := .consI rfl (by omega) (.consI rfl rfl (.consI rfl (by simp only [sumTo]) (by repeat (first | exact .nil rfl rfl | refine .cons rfl ?_)))))
  · rintro fr w ⟨rfl, hs⟩
    refine nT ?_
    refine .regSeq ?_
    refine .q hs (q_move rfl) ?_
    refine .q hs (q_assign rfl) ?_
    refine .nil ?_
    refine .ret (Fin.ret1 Try.results210 rfl ?_)
    exact ⟨rfl, hs⟩
end Go.Proofs.Ytiiokdeehlfeeaa
