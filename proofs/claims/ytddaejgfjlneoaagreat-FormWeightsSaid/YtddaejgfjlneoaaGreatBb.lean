/-
  Texts of these claims, joined: Mwd Mwe Mwf Mwg Mwh Mwi Mwl Mwm Mwn Mwp Mwq Mwr Myq Mwk Mws Mwt Mwo Mwu Mwv Mwx Mwy Mwz Mxa Mxb Mxc Mxd Mxe Mxf Mxg Mxh Mxi Mxk Mxm Mxn Mxo Mxp.
-/
import Derived.Test.YtddaejgfjlneoaaGreatBa
import Derived.Scope
import Derived.Deep.Slices
import Derived.KernelRfl
import Derived.ProofKit
import Derived.OpenShut
import Derived.SizedLaws
import Derived.Sort.Grow
import Derived.Lib.SlicesCompact
namespace Go.MW
variable {P : Program} {ro : Option Nat} {Q : Exit → FS → World → Prop} {K : FS → World → Prop} {ops : Array Oper} {rest : List Oper} {s : FS} {w : World}
  {H : Heap} {σ τ : List Ent} {n d : Nat} {ds : List Deferred} {e : List (Nat × Value)} {op : Op} {ty t : TypeId} {pos : String} {aft : Array Edge} {v : Value} {x y : Operand} {b off : Nat} {c : List Value}
theorem OJ.val {o : Op} {w' : World} (hdf : ∀ c, o ≠ .defer c) (hx : ∀ a, Sim ⟨n, ds, e⟩ a → (execOp a.eval ⟨some d, o, ty, pos, aft, none⟩).run P w = .ok (.value v) w') (hd : Nat.blt d n = true) (k : K ⟨n, ds, (d, v) :: e⟩ w') :
    OJ P ro ⟨some d, o, ty, pos, aft, none⟩ K ⟨n, ds, e⟩ w := fun a ha => by
  refine ⟨fun _ _ => trivial, ?_⟩
  rw [Oper.semAt_eq _ _ _ hdf, hx a ha]
  exact ⟨_, ha.put hd v, k⟩
theorem OJ.sk {o : Op} {w' : World} (hdf : ∀ c, o ≠ .defer c) (hx : ∀ a, Sim s a → (execOp a.eval ⟨none, o, ty, pos, aft, none⟩).run P w = .ok .skip w') (k : K s w') :
    OJ P ro ⟨none, o, ty, pos, aft, none⟩ K s w := fun a ha => by
  refine ⟨fun _ _ => trivial, ?_⟩
  rw [Oper.semAt_eq _ _ _ hdf, hx a ha]
  exact ⟨_, ha, k⟩
theorem OJ.alloc {z : Value} {zl : List Value} (hs : St H w σ) (hz : ∀ w, (zeroValue t).run P w = .ok z w) (hc : z.cells = zl.toArray)
    (k : ∀ b w', St H w' (.blk b zl :: σ) → K ⟨n, ds, (d, .pointer (some ⟨b, 0, none⟩)) :: e⟩ w') (hd : Nat.blt d n = true := by rfl) : OJ P ro ⟨some d, .alloc t, ty, pos, aft, none⟩ K ⟨n, ds, e⟩ w :=
  .val (w' := { w with heap := w.heap.push (.cells zl.toArray t) }) (fun _ => by simp) (fun a _ => by simp only [execOp, Instr.alloc, Sem.run_bind, hz w, Result.andThen, newVar, newRow, hc, newObj, Sem.run, Sem.run_pure]) hd (k _ _ (hs.newCells _ _))
theorem OJ.box {cl : List Value} (hs : St H w σ) (hx : FS.ev ⟨n, ds, e⟩ x = some v) (hc : v.cells = cl.toArray)
    (k : ∀ b w', St H w' (.blk b cl :: σ) → K ⟨n, ds, (d, .pointer (some ⟨b, 0, none⟩)) :: e⟩ w') (hd : Nat.blt d n = true := by rfl) : OJ P ro ⟨some d, .box t x, ty, pos, aft, none⟩ K ⟨n, ds, e⟩ w :=
  .val (w' := { w with heap := w.heap.push (.cells cl.toArray t) }) (fun _ => by simp) (fun a ha => by simp only [execOp, Instr.box, ha.ev hx, Sem.run_bind, Result.andThen, newVar, newRow, hc, newObj, Sem.run, Sem.run_pure]) hd (k _ _ (hs.newCells _ _))
def BldS (P : Program) (t : TypeId) (len m : Nat) (zs : List Value) : Prop :=
  ∀ (parts : List (Nat × Value)) (cells : List Value) (w : World), Instr.fill (fun i => some (i * m, m)) zs.toArray parts = some cells.toArray →
    ∃ T, (Instr.buildSlice t len parts.toArray).run P w = .ok (.slice (some ⟨w.heap.size, 0, none⟩) len len) { w with heap := w.heap.push (.cells cells.toArray T) }
theorem OJ.buildSlice {len m : Nat} {zs cells : List Value} {ps : List (Nat × Operand)} {vs : List (Nat × Value)} (hs : St H w σ) (hb : BldS P t len m zs) (hp : evp ⟨n, ds, e⟩ ps = some vs)
    (hc : Instr.fill (fun i => some (i * m, m)) zs.toArray vs = some cells.toArray)
    (k : ∀ b w', St H w' (.blk b cells :: σ) → K ⟨n, ds, (d, .slice (some ⟨b, 0, none⟩) len len) :: e⟩ w') (hd : Nat.blt d n = true := by rfl) : OJ P ro ⟨some d, .buildSlice t len ps.toArray, ty, pos, aft, none⟩ K ⟨n, ds, e⟩ w := by
  obtain ⟨T, hT⟩ := hb vs cells w hc
  exact .val (w' := { w with heap := w.heap.push (.cells cells.toArray T) }) (fun _ => by simp) (fun a ha => by simp only [execOp, List.map_toArray, evp_map ha hp, Sem.run_bind, hT, Result.andThen, Sem.run_pure]) hd (k _ _ (hs.newCells _ _))
theorem run_store1 {w : World} {a : Addr} {v u : Value} (hv : v.oneCell' = true) (hc : w.cell? a = some u) (hf : w.frozen? a = false) : (store a v).run P w = .ok () (w.setCell a v) := by
  unfold store
  cases v <;> first | (simp [Value.oneCell'] at hv; done) | simp [Sem.run, hc, hf]
theorem oneCell_cells {v : Value} (h : v.oneCell' = true) : v.cells = #[v] := by
  cases v <;> first | rfl | (simp [Value.oneCell'] at h; done)
theorem OJ.store {b off : Nat} {c c' : List Value} (hs : St H w σ) (hx : FS.ev s x = some (.pointer (some ⟨b, off, none⟩))) (hy : FS.ev s y = some v) (hz : ∀ w, (sizeOf t).run P w = .ok 1 w)
    (k : ∀ w', St H w' τ → K s w') (hu : Upd σ (.blk b c) (.blk b c') τ := by repeat constructor) (hl : Nat.blt off c.length = true := by first | rfl | exact blt_Is (by first | assumption | omega)) (hc : c.set off v = c' := by first | exact Is_set _ _ _ | rfl) (hv : v.oneCell' = true := by rfl) : OJ P ro ⟨none, .store t x y, ty, pos, aft, none⟩ K s w := by
  subst hc
  have hl : off < c.length := by simpa using hl
  have h1 : w.cell? ⟨b, off, none⟩ = some c[off] := (cell?_own hs hu.mem off).trans (List.getElem?_eq_getElem hl)
  refine .sk (w' := w.setCell ⟨b, off, none⟩ v) (fun _ => by simp) (fun a ha => ?_) (k _ (hs.setCell hu))
  simp only [execOp, ha.ev hx, ha.ev hy, Instr.storeAt, Instr.sureAddr, storeVar, Sem.run_bind, Sem.run_pure, Result.andThen, hz w, oneCell_cells hv, List.size_toArray, List.length_cons, List.length_nil, ne_eq, Nat.zero_add, not_true, if_false]
  simp only [storeCells, Addr.add, if_true, Sem.run_bind, run_store1 hv h1 (frozen?_own hs hu.mem off), Result.andThen, Sem.run_pure]
def setL : List Value → Nat → List Value → List Value
  | c, _, [] => c
  | c, off, v :: vs => setL (c.set off v) (off + 1) vs
theorem ble_Arcs {l : List Arc} {k : Nat} {x : Arc} (h : k < l.length) : Nat.ble (k * 4 + x.v.length) (Arcs l).length = true := by rw [Arcs_length]; simp [Arc.v]; omega
theorem setL_Arcs {l : List Arc} {k : Nat} (h : k < l.length) (x : Arc) : setL (Arcs l) (k * 4) x.v = Arcs (l.set k x) := by
  have hl : (Arcs (l.take k)).length = k * 4 := by rw [Arcs_length, List.length_take]; omega
  rw [Arcs_put h, Arcs_at h]
  simp only [Arc.v, setL]
  rw [List.set_append_right _ _ (by omega), List.set_append_right _ _ (by omega), List.set_append_right _ _ (by omega), List.set_append_right _ _ (by omega), hl]
  simp [show k * 4 + 1 - k * 4 = 1 by omega, show k * 4 + 1 + 1 - k * 4 = 2 by omega, show k * 4 + 1 + 1 + 1 - k * 4 = 3 by omega]
theorem run_storeL {b : Nat} : ∀ (vs : List Value) (off i : Nat) (c : List Value) (w : World) (σ τ : List Ent), St H w σ → (∀ v ∈ vs, v.oneCell' = true) → off + i + vs.length ≤ c.length →
    Upd σ (.blk b c) (.blk b (setL c (off + i) vs)) τ → ∃ w', (storeCells ⟨b, off, none⟩ vs i).run P w = .ok () w' ∧ St H w' τ := by
  intro vs
  induction vs with
  | nil =>
    intro off i c w σ τ hs _ _ hu
    refine ⟨w, by simp [storeCells], ?_⟩
    obtain ⟨r, h1, h2⟩ := hu.picks
    exact (hs.pick h1).unpick h2
  | cons v vs ih =>
    intro off i c w σ τ hs hv hl hu
    simp only [List.length_cons] at hl
    have hlt : off + i < c.length := by omega
    obtain ⟨ρ, hu1, hu2⟩ : ∃ ρ, Upd σ (.blk b c) (.blk b (c.set (off + i) v)) ρ ∧ Upd ρ (.blk b (c.set (off + i) v)) (.blk b (setL (c.set (off + i) v) (off + (i + 1)) vs)) τ := by
      have : ∀ {σ τ : List Ent} {p q : Ent}, Upd σ p q τ → ∀ m, ∃ ρ, Upd σ p m ρ ∧ Upd ρ m q τ := fun h m => by
        induction h with
        | here => exact ⟨_, .here, .here⟩
        | there _ ih => obtain ⟨ρ, a, b⟩ := ih; exact ⟨_, .there a, .there b⟩
      simp only [setL] at hu
      exact this hu _
    have h1 : w.cell? ⟨b, off + i, none⟩ = some c[off + i] := (cell?_own hs hu1.mem _).trans (List.getElem?_eq_getElem hlt)
    obtain ⟨w', h2, h3⟩ := ih off (i + 1) (c.set (off + i) v) _ ρ τ (hs.setCell hu1) (fun u hu => hv u (.tail _ hu)) (by simp; omega) hu2
    refine ⟨w', ?_, h3⟩
    simp only [storeCells, addr_add, Sem.run_bind, run_store1 (hv v (.head _)) h1 (frozen?_own hs hu1.mem _), Result.andThen, h2]
theorem OJ.stores {b off : Nat} {c c' vs : List Value} (hs : St H w σ) (hx : FS.ev s x = some (.pointer (some ⟨b, off, none⟩))) (hy : FS.ev s y = some (.agg vs.toArray)) (hz : ∀ w, (sizeOf t).run P w = .ok vs.length w)
    (k : ∀ w', St H w' τ → K s w') (hu : Upd σ (.blk b c) (.blk b c') τ := by repeat constructor) (hl : Nat.ble (off + vs.length) c.length = true := by first | rfl | exact ble_Arcs (by first | assumption | omega)) (hc : setL c off vs = c' := by first | exact setL_Arcs (by first | assumption | omega) _ | rfl) (hv : vs.all Value.oneCell' = true := by rfl) : OJ P ro ⟨none, .store t x y, ty, pos, aft, none⟩ K s w := by
  subst hc
  obtain ⟨w', h1, h2⟩ := run_storeL (P := P) vs off 0 c w σ τ hs (by simpa using hv) (by have := Nat.le_of_ble_eq_true hl; omega) (by simpa using hu)
  refine .sk (w' := w') (fun _ => by simp) (fun a ha => ?_) (k _ h2)
  simp only [execOp, ha.ev hx, ha.ev hy, Instr.storeAt, Instr.sureAddr, storeVar, Sem.run_bind, Sem.run_pure, Result.andThen, hz w, Value.cells, List.size_toArray, ne_eq, not_true, if_false, h1]
def RS (H : Heap) (m : Nat) (v : Value) (cs : List (List Value)) : Prop :=
  ∃ a cap, v = .slice a cs.length cap ∧ cs.length ≤ cap ∧ cs.length ≤ 9223372036854775807 ∧ ∀ i c, cs[i]? = some c → c.length = m ∧ ∃ b off, a = some ⟨b, off, none⟩ ∧ CellsAt H b (off + i * m) c
theorem RS.mono {H H' : Heap} {m : Nat} {v : Value} {cs : List (List Value)} (h : RS H m v cs) (hl : HLe H H') : RS H' m v cs := by
  obtain ⟨a, cap, h1, h2, h3, h4⟩ := h
  exact ⟨a, cap, h1, h2, h3, fun i c hi => let ⟨h5, b, off, h6, h7⟩ := h4 i c hi; ⟨h5, b, off, h6, h7.mono hl⟩⟩
theorem RS.nil (H : Heap) (m : Nat) (a : Option Addr) (cap : Nat) : RS H m (.slice a 0 cap) [] := ⟨a, cap, rfl, Nat.zero_le _, by simp, fun _ _ h => by cases h⟩
theorem RS.shape {m : Nat} {cs : List (List Value)} (h : RS H m v cs) : ∃ a cap, v = .slice a cs.length cap := by
  obtain ⟨a, cap, h1, _⟩ := h; exact ⟨a, cap, h1⟩
theorem RS.len {m len cap : Nat} {a : Option Addr} {cs : List (List Value)} (h : RS H m (.slice a len cap) cs) : len = cs.length ∧ len ≤ cap ∧ len ≤ 9223372036854775807 := by
  obtain ⟨a', cap', h1, h2, h3, _⟩ := h; cases h1; exact ⟨rfl, h2, h3⟩
theorem RS.at {m len cap : Nat} {a : Option Addr} {cs : List (List Value)} (h : RS H m (.slice a len cap) cs) {i : Nat} (hi : i < cs.length) :
    ∃ b off, a = some ⟨b, off, none⟩ ∧ CellsAt H b (off + i * m) cs[i] ∧ cs[i].length = m := by
  obtain ⟨a', cap', h1, h2, h3, h4⟩ := h
  cases h1
  obtain ⟨h5, b, off, h6, h7⟩ := h4 i _ (List.getElem?_eq_getElem hi)
  exact ⟨b, off, h6, h7, h5⟩
theorem WO.ix {m : Nat} {cs : List (List Value)} {elem : TypeId} {k : IntKind} {i : Int} (hs : St H w σ) (hr : RS H m v cs) (hx : FS.ev ⟨n, ds, e⟩ x = some v) (hy : FS.ev ⟨n, ds, e⟩ y = some (.int k i))
    (hu : ∀ w, (underlying t).run P w = .ok (.slice elem) w) (hz : ∀ w, (sizeOf elem).run P w = .ok m w) (hi : 0 ≤ i ∧ i < cs.length)
    (kk : ∀ b off, CellsAt H b off (cs[i.toNat]'(by omega)) → WO P ro ops rest K ⟨n, ds, (d, .pointer (some ⟨b, off, none⟩)) :: e⟩ w) (hd : Nat.blt d n = true := by rfl) :
    WO P ro ops (⟨some d, .indexAddr t x y, ty, pos, aft, none⟩ :: rest) K ⟨n, ds, e⟩ w := by
  obtain ⟨a, cap, rfl⟩ := hr.shape
  obtain ⟨b, off, rfl, h1, h2⟩ := hr.at (i := i.toNat) (by omega)
  exact .q hs (q_index hx hy hu hz hi) (kk _ _ h1) hd
theorem CellsAt.one {v : Value} (h : CellsAt H b off [v]) : cellAt H b off = some v := h 0 v rfl
theorem CellsAt.get {vs : List Value} (h : CellsAt H b off vs) (i : Nat) {v : Value} (hi : vs[i]? = some v) : cellAt H b (off + i) = some v := h i v hi
theorem q_lenR {m : Nat} {cs : List (List Value)} {elem : TypeId} (hr : RS H m v cs) (hx : FS.ev s x = some v) (hu : ∀ w, (underlying t).run P w = .ok (.slice elem) w) :
    QJ P H σ s (.call ⟨.builtin .len, #[x], #[t]⟩) (.int .i64 cs.length) := by
  obtain ⟨a, cap, rfl⟩ := hr.shape
  exact q_len hx hu
theorem Sub.refl : ∀ l : List Ent, Sub l l
  | [] => .nil
  | _ :: l => .cons .here (Sub.refl l)
theorem Sub.weaken {l r : List Ent} {x : Ent} (h : Sub r l) : Sub r (x :: l) := by
  induction h with
  | nil => exact .nil
  | @cons y l r t h k ih => exact .cons (.there h) ih
theorem Pick.sub {σ r : List Ent} {x : Ent} (h : Pick σ x r) : Sub r σ := by
  induction h with
  | here => exact (Sub.refl _).weaken
  | there _ ih => exact .cons .here ih
def OwnS (m : Nat) (v : Value) (xs : List Value) (en : Ent) : Prop :=
  (∃ a, v = .slice a 0 0 ∧ xs = [] ∧ en = .nul) ∨
  (∃ b len cap spare, v = .slice (some ⟨b, 0, none⟩) len cap ∧ en = .blk b (xs ++ spare) ∧ xs.length = len * m ∧ (xs ++ spare).length = cap * m ∧ len ≤ cap)
theorem OwnS.nil (m : Nat) (a : Option Addr) : OwnS m (.slice a 0 0) [] .nul := .inl ⟨a, rfl, rfl, rfl⟩
theorem OwnS.full {m len : Nat} {b : Nat} {xs : List Value} (h : xs.length = len * m) : OwnS m (.slice (some ⟨b, 0, none⟩) len len) xs (.blk b xs) :=
  .inr ⟨b, len, len, [], rfl, by simp, h, by simpa using h, Nat.le_refl _⟩
theorem OwnS.shape {m : Nat} {v : Value} {xs : List Value} {en : Ent} (h : OwnS m v xs en) : ∃ a len cap, v = .slice a len cap ∧ xs.length = len * m := by
  rcases h with ⟨a, h1, h2, _⟩ | ⟨b, len, cap, spare, h1, _, h3, _⟩
  · exact ⟨a, 0, 0, h1, by simp [h2]⟩
  · exact ⟨_, len, cap, h1, h3⟩
def Src (P : Program) (H : Heap) (σ : List Ent) (m : Nat) (u : Value) (k : Nat) (ys : List Value) : Prop :=
  (∃ a cap, u = .slice a k cap) ∧ ys.length = k * m ∧ ∀ w, St H w σ → (Builtin.firstCells m k u).run P w = .ok ys.toArray w
theorem Src.rs {m : Nat} {u : Value} {cs : List (List Value)} (h : RS H m u cs) : Src P H σ m u cs.length cs.flatten := by
  obtain ⟨a, cap, rfl, _, _, h4⟩ := h
  have hlen : ∀ l : List (List Value), (∀ c ∈ l, c.length = m) → l.flatten.length = l.length * m := by
    intro l
    induction l with
    | nil => intro _; simp
    | cons c l ih => intro hl; simp only [List.flatten_cons, List.length_append, List.length_cons, hl c (.head _), ih fun c hc => hl c (.tail _ hc), Nat.add_mul, Nat.one_mul]; omega
  have hall : ∀ c ∈ cs, c.length = m := fun c hc => by
    obtain ⟨i, hi⟩ := List.getElem?_of_mem hc
    exact (h4 i c hi).1
  refine ⟨⟨a, cap, rfl⟩, hlen cs hall, fun w hs => ?_⟩
  cases a with
  | none =>
    cases cs with
    | nil => simp [Builtin.firstCells]
    | cons c cs => obtain ⟨_, b, off, hh, _⟩ := h4 0 c rfl; cases hh
  | some a =>
    obtain ⟨b, off, sp⟩ := a
    cases cs with
    | nil => simp [Builtin.firstCells, loadCells, loadCellsFrom]
    | cons c0 cs' =>
      obtain ⟨_, b', off', hh, _⟩ := h4 0 c0 rfl
      cases hh
      generalize hcs : c0 :: cs' = cs at *
      have hc : ∀ j v, cs.flatten[j]? = some v → w.cell? ⟨b, off + j, none⟩ = some v := by
        have key : ∀ (l : List (List Value)) (i : Nat), (∀ c ∈ l, c.length = m) → (∀ k c, l[k]? = some c → CellsAt H b (off + (i + k) * m) c) → ∀ j v, l.flatten[j]? = some v → cellAt H b (off + i * m + j) = some v := by
          intro l
          induction l with
          | nil => intro i _ _ j v h; simp at h
          | cons c l ih =>
            intro i h1 h2 j v hj
            have hcl := h1 c (.head _)
            rcases Nat.lt_or_ge j c.length with hlt | hge
            · rw [List.flatten_cons, List.getElem?_append_left hlt] at hj
              have := h2 0 c rfl j v hj
              simpa using this
            · rw [List.flatten_cons, List.getElem?_append_right hge] at hj
              have := ih (i + 1) (fun c hc => h1 c (.tail _ hc)) (fun k c hk => by have := h2 (k + 1) c hk; rwa [show i + (k + 1) = i + 1 + k from by omega] at this) (j - c.length) v hj
              rw [Nat.add_mul, Nat.one_mul] at this
              rwa [show off + (i * m + m) + (j - c.length) = off + i * m + j from by omega] at this
        intro j v hj
        have := key cs 0 hall (fun k c hk => by
          obtain ⟨_, b2, o2, e2, h5⟩ := h4 k c hk
          cases e2
          simpa using h5) j v hj
        simp only [Nat.zero_mul, Nat.add_zero] at this
        exact cell?_ro hs this
      simp only [Builtin.firstCells]
      rw [← hlen cs hall]
      exact run_loadList hc
theorem Src.own {m k cap b off : Nat} {c ys : List Value} (hm : Mem σ (.blk b c)) (hy : (c.drop off).take ys.length = ys) (hl : ys.length = k * m) : Src P H σ m (.slice (some ⟨b, off, none⟩) k cap) k ys := by
  refine ⟨⟨_, _, rfl⟩, hl, fun w hs => ?_⟩
  simp only [Builtin.firstCells]
  rw [← hl]
  refine run_loadList fun i v hi => ?_
  rw [cell?_own hs hm]
  have hlt := (List.getElem?_eq_some_iff.1 hi).1
  rw [← hy, List.getElem?_take, List.getElem?_drop] at hi
  simpa [hlt] using hi
theorem Src.none {m : Nat} : Src P H σ m (.slice none 0 0) 0 [] := ⟨⟨_, _, rfl⟩, by simp, fun w _ => by simp [Builtin.firstCells]⟩
theorem growBy_le (nl : Nat) : ∀ (r c : Nat), c ≤ nl + (nl + 768) / 4 → Builtin.growBy nl r c ≤ nl + (nl + 768) / 4 := by
  intro r
  induction r with
  | zero => intro c h; exact h
  | succ r ih =>
    intro c h
    simp only [Builtin.growBy]
    split
    · exact h
    · exact ih _ (by omega)
theorem nsc_le {nl oc : Nat} (h : oc < nl) : Builtin.nextslicecap nl oc ≤ 2 * nl := by
  unfold Builtin.nextslicecap
  split
  · omega
  · split
    · omega
    · exact Nat.le_trans (growBy_le nl 4 oc (by omega)) (by omega)
theorem run_askRoom (b : Nat) (w : World) : (askRoom b).run P w = .ok () w := by
  unfold askRoom; split <;> simp [mark, Sem.run]
theorem zeroCells_size (z : Array Value) (k : Nat) : (Builtin.zeroCells z k).size = k * z.size := by simp [Builtin.zeroCells]
structure AppT (P : Program) (sT xT elem : TypeId) (m bytes : Nat) : Prop where
  s : ∀ w, (underlying sT).run P w = .ok (.slice elem) w
  x : ∀ w, (underlying xT).run P w = .ok (.slice elem) w
  size : ∀ w, (sizeOf elem).run P w = .ok m w
  bytes : ∃ i, (∀ w, (typeInfo elem).run P w = .ok i w) ∧ i.bytes = bytes ∧ 0 < bytes
  zero : ∃ z, (∀ w, (zeroValue elem).run P w = .ok z w) ∧ z.cells.size = m
def nnil : Value → Bool
  | .slice (some _) _ _ => true
  | _ => false
theorem OJ.appendN {sT xT elem : TypeId} {m bytes k : Nat} {u : Value} {xs ys : List Value} {en : Ent} {r : List Ent} (hs : St H w σ) (ht : AppT P sT xT elem m bytes)
    (hx : FS.ev ⟨n, ds, e⟩ x = some v) (hy : FS.ev ⟨n, ds, e⟩ y = some u) (ho : OwnS m v xs en) (hu : Src P H σ m u k ys) (h1 : ∀ v ∈ ys, v.oneCell' = true)
    (hb : ∀ l, xs.length = l * m → (l + k) * bytes ≤ 140737488355328)
    (kk : ∀ v' en' w', (nnil v = true → nnil v' = true) → OwnS m v' (xs ++ ys) en' → St H w' (en' :: r) → K ⟨n, ds, (d, v') :: e⟩ w') (hp : Pick σ en r := by repeat constructor) (hd : Nat.blt d n = true := by rfl) :
    OJ P ro ⟨some d, .call ⟨.builtin .append, #[x, y], #[sT, xT]⟩, ty, pos, aft, none⟩ K ⟨n, ds, e⟩ w := by
  obtain ⟨⟨ua, ucap, rfl⟩, hyl, hld⟩ := hu
  obtain ⟨i, hi, hib, hbp⟩ := ht.bytes
  obtain ⟨z, hz, hzm⟩ := ht.zero
  obtain ⟨base, len, cap, rfl, hxl, hle, hcells, hstore⟩ : ∃ base len cap, v = .slice base len cap ∧ xs.length = len * m ∧ len ≤ cap ∧ ((Builtin.firstCells m len (.slice base len cap)).run P w = .ok xs.toArray w) ∧
      (len + k ≤ cap → ∃ w' en', (match base with | some a => storeCells (a.add (len * m)) ys | none => pure ()).run P w = .ok () w' ∧ OwnS m (.slice base (len + k) cap) (xs ++ ys) en' ∧ St H w' (en' :: r)) := by
    rcases ho with ⟨a, rfl, rfl, rfl⟩ | ⟨b, len, cap, spare, rfl, rfl, h2, h3, h4⟩
    · refine ⟨a, 0, 0, rfl, by simp, Nat.le_refl _, ?_, fun hk => ?_⟩
      · cases a with
        | none => simp [Builtin.firstCells]
        | some a => simp [Builtin.firstCells, loadCells, loadCellsFrom]
      · have hk0 : k = 0 := by omega
        subst hk0
        have : ys = [] := List.length_eq_zero_iff.1 (by simpa using hyl)
        subst this
        exact ⟨w, .nul, by cases a <;> simp [storeCells], .nil m a, hs.pick hp⟩
    · have hpk := hs.pick hp
      refine ⟨some ⟨b, 0, none⟩, len, cap, rfl, h2, h4, ?_, fun hk => ?_⟩
      · simp only [Builtin.firstCells]
        rw [← h2]
        refine run_loadList fun j v hj => ?_
        have hlt := (List.getElem?_eq_some_iff.1 hj).1
        rw [cell?_own hpk .here, Nat.zero_add, List.getElem?_append_left hlt]
        exact hj
      · have hsp : ys.length ≤ spare.length := by
          rw [List.length_append, h2] at h3
          rw [hyl]
          have : k * m ≤ (cap - len) * m := Nat.mul_le_mul_right m (by omega)
          rw [Nat.sub_mul] at this; omega
        have hset : ∀ (ys pre spare : List Value), ys.length ≤ spare.length → setL (pre ++ spare) pre.length ys = pre ++ ys ++ spare.drop ys.length := by
          intro ys
          induction ys with
          | nil => intro pre spare _; simp [setL]
          | cons y ys ih =>
            intro pre spare h
            cases spare with
            | nil => simp at h
            | cons s0 spare =>
              simp only [setL]
              have e1 : (pre ++ s0 :: spare).set pre.length y = (pre ++ [y]) ++ spare := by
                rw [List.set_append_right _ _ (Nat.le_refl _)]; simp
              have e2 : pre.length + 1 = (pre ++ [y]).length := by simp
              rw [e1, e2, ih (pre ++ [y]) spare (by simpa using h)]
              simp
        obtain ⟨w', h5, h6⟩ := run_storeL (P := P) ys (len * m) 0 (xs ++ spare) w _ _ hpk h1 (by rw [List.length_append, h2]; omega) (.here : Upd (.blk b (xs ++ spare) :: r) _ (.blk b (setL (xs ++ spare) (len * m + 0) ys)) _)
        rw [Nat.add_zero, ← h2, hset ys xs spare hsp] at h6
        refine ⟨w', .blk b ((xs ++ ys) ++ spare.drop ys.length), ?_, .inr ⟨b, len + k, cap, _, rfl, rfl, ?_, ?_, hk⟩, h6⟩
        · simp only [addr_add, Nat.zero_add]; exact h5
        · rw [List.length_append, h2, hyl, Nat.add_mul]
        · rw [← h3]; simp only [List.length_append, List.length_drop]; omega
  have hbound := hb len hxl
  have hsmall : len + k ≤ 140737488355328 := Nat.le_trans (Nat.le_mul_of_pos_right _ hbp) hbound
  by_cases hfit : len + k ≤ cap
  · obtain ⟨w', en', h2, h3, h4⟩ := hstore hfit
    refine .val (w' := w') (fun _ => by simp) (fun a ha => ?_) hd (kk _ _ _ (by cases base <;> simp [nnil]) h3 h4)
    simp only [execOp, resolve, List.map_toArray, List.map_cons, List.map_nil, ha.ev hx, ha.ev hy, Sem.run_bind, Sem.run_pure, Result.andThen, invoke, builtin, Builtin.append_]
    simp only [List.getElem?_toArray, List.getElem?_cons_zero, List.getElem?_cons_succ, Sem.run_bind, ht.s w, ht.x w, ht.size w, Result.andThen, Sem.run_pure, Builtin.lenOf, Bool.false_eq_true, if_false, Bool.not_false, if_true, hfit, hld w hs]
    cases base with
    | none => simp only [Sem.run_pure] at h2 ⊢; cases h2; rfl
    | some a =>
      have h2' : Sem.run P (storeCells (a.add (len * m)) ys) w = .ok () w' := h2
      simp only [Sem.run_bind, h2', Result.andThen, Sem.run_pure]
  · have hn : Builtin.nextslicecap (len + k) cap ≤ 2 * (len + k) := nsc_le (by omega)
    have hn2 : ¬ Builtin.nextslicecap (len + k) cap * i.bytes > 2 ^ 48 := by
      have := Nat.mul_le_mul_right i.bytes hn
      rw [Nat.mul_assoc, hib] at this
      rw [hib]; omega
    obtain ⟨nc, hnc⟩ : ∃ nc, nc = Question.cut (.appendCap (len + k) cap elem) (w.tape w.drawn (.appendCap (len + k) cap elem)) := ⟨_, rfl⟩
    have hge : len + k ≤ nc := by rw [hnc]; simp only [Question.cut]; omega
    obtain ⟨sp, hsp⟩ : ∃ sp, sp = (Builtin.zeroCells z.cells (nc - (len + k))).toList := ⟨_, rfl⟩
    have hspl : sp.length = (nc - (len + k)) * m := by rw [hsp, Array.length_toList, zeroCells_size, hzm]
    have hs1 : St H { w with drawn := w.drawn + 1 } σ := hs.drawn _
    refine .val (v := .slice (some ⟨w.heap.size, 0, none⟩) (len + k) nc) (w' := { w with drawn := w.drawn + 1, heap := w.heap.push (.cells (xs ++ ys ++ sp).toArray elem) }) (fun _ => by simp) (fun a ha => ?_) hd
      (kk _ (.blk w.heap.size (xs ++ ys ++ sp)) _ (fun _ => rfl) (.inr ⟨_, len + k, nc, sp, rfl, rfl, by rw [List.length_append, hxl, hyl, Nat.add_mul], ?_, hge⟩) ?_)
    · have hc2 : (Builtin.firstCells m len (.slice base len cap)).run P { w with drawn := w.drawn + 1 } = .ok xs.toArray { w with drawn := w.drawn + 1 } := by
        rcases ho with ⟨a, h1, rfl, rfl⟩ | ⟨b, len', cap', spare, h1, rfl, h2, h3, h4⟩
        · cases h1
          cases base with
          | none => simp [Builtin.firstCells]
          | some a => simp [Builtin.firstCells, loadCells, loadCellsFrom]
        · cases h1
          simp only [Builtin.firstCells]
          rw [← h2]
          refine run_loadList fun j v hj => ?_
          have hlt := (List.getElem?_eq_some_iff.1 hj).1
          rw [cell?_own (hs1.pick hp) .here, Nat.zero_add, List.getElem?_append_left hlt]
          exact hj
      have hg : ¬ (((len + k : Nat) : Int) > IntKind.i64.max ∧ (False ∨ i.bytes = 0)) := by rw [hib]; intro hh; exact hh.2.elim (fun h => h) (fun h => by omega)
      simp only [execOp, resolve, List.map_toArray, List.map_cons, List.map_nil, ha.ev hx, ha.ev hy, Sem.run_bind, Sem.run_pure, Result.andThen, invoke, builtin, Builtin.append_]
      simp only [List.getElem?_toArray, List.getElem?_cons_zero, List.getElem?_cons_succ, Sem.run_bind, ht.s w, ht.x w, ht.size w, Result.andThen, Sem.run_pure, Builtin.lenOf, Bool.false_eq_true, if_false, Bool.not_false, if_true, hfit, hi w, hg, hn2]
      simp only [choose, Sem.run, Question.forced, Bool.false_eq_true, if_false, ← hnc, run_askRoom, hi, hc2, hld _ hs1, hz, Result.andThen, Sem.run_bind, Sem.run_pure, newRow, newObj, hsp]
      have he : ∀ z : Array Value, xs.toArray ++ ys.toArray ++ z = (xs ++ ys ++ z.toList).toArray := fun z => by apply Array.ext'; simp
      simp only [he]
    · simp only [List.length_append, hxl, hyl, hspl]
      rw [← Nat.add_mul, ← Nat.add_mul]; congr 1; omega
    · have h5 := (hs1.newCells (xs ++ ys ++ sp).toArray elem)
      exact h5.sub (.cons .here hp.sub)
theorem OJ.append {sT xT elem : TypeId} {m bytes k : Nat} {u : Value} {xs ys : List Value} {en : Ent} {r : List Ent} (hs : St H w σ) (ht : AppT P sT xT elem m bytes)
    (hx : FS.ev ⟨n, ds, e⟩ x = some v) (hy : FS.ev ⟨n, ds, e⟩ y = some u) (ho : OwnS m v xs en) (hu : Src P H σ m u k ys) (h1 : ∀ v ∈ ys, v.oneCell' = true)
    (hb : ∀ l, xs.length = l * m → (l + k) * bytes ≤ 140737488355328)
    (kk : ∀ v' en' w', OwnS m v' (xs ++ ys) en' → St H w' (en' :: r) → K ⟨n, ds, (d, v') :: e⟩ w') (hp : Pick σ en r := by repeat constructor) (hd : Nat.blt d n = true := by rfl) :
    OJ P ro ⟨some d, .call ⟨.builtin .append, #[x, y], #[sT, xT]⟩, ty, pos, aft, none⟩ K ⟨n, ds, e⟩ w :=
  .appendN hs ht hx hy ho hu h1 hb (fun v' en' w' _ => kk v' en' w') hp hd
theorem OJ.makeRoom {elem : TypeId} {m bytes q : Nat} {len : Int} {i : TypeInfo} {z : Value} {k1 k2 : IntKind} (hs : St H w σ) (hx : FS.ev ⟨n, ds, e⟩ x = some (.int k1 q)) (hq : (q : Int) ≤ len) (hy : FS.ev ⟨n, ds, e⟩ y = some (.int k2 len))
    (hu : ∀ w, (underlying t).run P w = .ok (.slice elem) w) (hi : ∀ w, (typeInfo elem).run P w = .ok i w) (hb : i.bytes = bytes) (hz : ∀ w, (sizeOf elem).run P w = .ok m w) (hzv : ∀ w, (zeroValue elem).run P w = .ok z w)
    (hzm : z.cells.size = m := by rfl) (hm : 0 < m := by decide) (h0 : 0 ≤ len) (h1 : len * bytes ≤ 140737488355328)
    (k : ∀ b w', St H w' (.blk b (List.replicate len.toNat z.cells.toList).flatten :: σ) → K ⟨n, ds, (d, .slice (some ⟨b, 0, none⟩) q len.toNat) :: e⟩ w') (hb0 : 0 < bytes := by decide) (hd : Nat.blt d n = true := by rfl) :
    OJ P ro ⟨some d, .makeSlice t x y, ty, pos, aft, none⟩ K ⟨n, ds, e⟩ w := by
  obtain ⟨l, rfl⟩ := Int.eq_ofNat_of_zero_le h0
  have hl : l ≤ 140737488355328 := by
    have h2 : ((l * bytes : Nat) : Int) ≤ 140737488355328 := by rw [Int.natCast_mul]; exact h1
    have h3 := Nat.le_mul_of_pos_right l hb0
    omega
  have hw : IntKind.i64.wrap (l : Int) = l := i64wrap (by omega)
  have hwq : IntKind.i64.wrap (q : Int) = q := i64wrap (by omega)
  have hbig : ¬ ((bytes : Int) * (l : Int) > 2 ^ 48) := by rw [Int.mul_comm]; omega
  have hcells : ∀ (zz : Array Value), zz.size = m → ((Array.range (l * m)).map (fun j => zz[j % zz.size]!)).toList = (List.replicate l zz.toList).flatten := by
    intro zz hzz
    apply List.ext_getElem?
    intro j
    have key : ∀ (l : Nat) (q : List Value), q.length = m → ∀ j, (List.replicate l q).flatten[j]? = if j < l * m then q[j % m]? else none := by
      intro l q hq
      induction l with
      | zero => intro j; simp
      | succ l ih =>
        intro j
        rw [List.replicate_succ, List.flatten_cons, List.getElem?_append, hq, ih]
        by_cases h1 : j < m
        · have : j < (l + 1) * m := by rw [Nat.add_mul, Nat.one_mul]; omega
          simp only [h1, this, if_true, Nat.mod_eq_of_lt h1]
        · simp only [h1, if_false]
          have e1 : (j - m < l * m) ↔ (j < (l + 1) * m) := by rw [Nat.add_mul, Nat.one_mul]; omega
          have e2 : (j - m) % m = j % m := by rw [← Nat.mod_eq_sub_mod (by omega)]
          simp only [e1, e2]
    rw [key l zz.toList (by simpa using hzz) j]
    by_cases h1 : j < l * m
    · have h2 : j % m < m := Nat.mod_lt _ hm
      simp [h1, hzz, h2]
    · simp [h1]
  obtain ⟨zs, hzs⟩ : ∃ zs, zs = (List.replicate l z.cells.toList).flatten := ⟨_, rfl⟩
  refine .val (v := .slice (some ⟨w.heap.size, 0, none⟩) q l) (w' := { w with heap := w.heap.push (.cells zs.toArray elem) }) (fun _ => by simp) (fun a ha => ?_) hd (by subst hzs; simpa using k _ _ (hs.newCells _ _))
  have hfin : ((Array.range (l * m)).map (fun j => (if l * m = 0 then #[] else z.cells)[j % (if l * m = 0 then #[] else z.cells).size]!)) = zs.toArray := by
    rw [hzs]
    apply Array.ext'
    by_cases h1 : l * m = 0
    · have : l = 0 := by rcases Nat.mul_eq_zero.1 h1 with h | h <;> omega
      subst this; simp
    · simp only [h1, if_false]; simpa using hcells z.cells hzm
  simp only [execOp, ha.ev hx, ha.ev hy, Instr.makeSlice, asInt, asIntOf, Sem.run_bind, hu w, Result.andThen, Sem.run_pure, hi w, hb, hw, hwq, Int.toNat_natCast]
  simp only [show ¬ ((l : Int) < 0) by omega, show ¬ ((q : Int) < 0) by omega, show ¬ ((q : Int) > l) by omega, decide_false, hbig, Bool.or_false, Bool.false_eq_true, if_false]
  simp only [Sem.run_bind, run_askRoom, hz w, Result.andThen]
  by_cases h9 : l * m = 0
  · simp only [h9, if_true] at hfin ⊢
    simp only [Sem.run_bind, Sem.run_pure, Result.andThen, newRow, newObj, Sem.run, hfin]
  · simp only [h9, if_false] at hfin ⊢
    simp only [Sem.run_bind, Sem.run_pure, hzv w, Result.andThen, newRow, newObj, Sem.run, hfin]
theorem OJ.makeSlice {elem : TypeId} {m bytes : Nat} {len : Int} {i : TypeInfo} {z : Value} {k1 k2 : IntKind} (hs : St H w σ) (hx : FS.ev ⟨n, ds, e⟩ x = some (.int k1 len)) (hy : FS.ev ⟨n, ds, e⟩ y = some (.int k2 len))
    (hu : ∀ w, (underlying t).run P w = .ok (.slice elem) w) (hi : ∀ w, (typeInfo elem).run P w = .ok i w) (hb : i.bytes = bytes) (hz : ∀ w, (sizeOf elem).run P w = .ok m w) (hzv : ∀ w, (zeroValue elem).run P w = .ok z w)
    (hzm : z.cells.size = m := by rfl) (hm : 0 < m := by decide) (h0 : 0 ≤ len) (h1 : len * bytes ≤ 140737488355328)
    (k : ∀ b w', St H w' (.blk b (List.replicate len.toNat z.cells.toList).flatten :: σ) → K ⟨n, ds, (d, .slice (some ⟨b, 0, none⟩) len.toNat len.toNat) :: e⟩ w') (hb0 : 0 < bytes := by decide) (hd : Nat.blt d n = true := by rfl) :
    OJ P ro ⟨some d, .makeSlice t x y, ty, pos, aft, none⟩ K ⟨n, ds, e⟩ w := by
  obtain ⟨l, rfl⟩ := Int.eq_ofNat_of_zero_le h0
  exact .makeRoom hs hx (Int.le_refl _) hy hu hi hb hz hzv hzm hm h0 h1 k hb0 hd
theorem q_sliceH {elem : TypeId} {a' : Option Addr} {len cap m : Nat} {k2 : IntKind} {hi : Int} (hx : FS.ev s x = some (.slice a' len cap)) {yh : Operand} (hh : FS.ev s yh = some (.int k2 hi))
    (hu : ∀ w, (underlying t).run P w = .ok (.slice elem) w) (hz : ∀ w, (sizeOf elem).run P w = .ok m w) (h1 : 0 ≤ hi ∧ hi ≤ cap) :
    QJ P H σ s (.slice t x none (some yh) none) (.slice a' hi.toNat cap) :=
  ⟨fun _ => by simp, fun a w _ _ _ _ _ ha _ => by
    have he : (if cap = 0 then a' else a'.map (·.add 0)) = a' := by
      split
      · rfl
      · cases a' <;> simp [Addr.add]
    simp only [execOp, ha.ev hx, Option.map_some, Option.map_none, ha.ev hh, Instr.sliceAt, Instr.slice, Instr.sliceBounds, Instr.sliceBound, asIntOf, Sem.run_bind, hu w, Result.andThen, Sem.run_pure, h1, and_self, if_true, hz w, Nat.zero_mul, he, Nat.sub_zero]⟩
theorem q_sliceL {elem : TypeId} {a' : Option Addr} {len cap m : Nat} {k1 : IntKind} {lo : Int} (hx : FS.ev s x = some (.slice a' len cap)) {yl : Operand} (hl : FS.ev s yl = some (.int k1 lo))
    (hu : ∀ w, (underlying t).run P w = .ok (.slice elem) w) (hz : ∀ w, (sizeOf elem).run P w = .ok m w) (h1 : 0 ≤ lo ∧ lo ≤ len) :
    QJ P H σ s (.slice t x (some yl) none none) (.slice (if cap = lo.toNat then a' else a'.map (·.add (lo.toNat * m))) (len - lo.toNat) (cap - lo.toNat)) :=
  ⟨fun _ => by simp, fun a w _ _ _ _ _ ha _ => by
    simp only [execOp, ha.ev hx, Option.map_some, Option.map_none, ha.ev hl, Instr.sliceAt, Instr.slice, Instr.sliceBounds, Instr.sliceBound, asIntOf, Sem.run_bind, hu w, Result.andThen, Sem.run_pure, h1, and_self, if_true, hz w]⟩
theorem RS.part {m len cap lo hi : Nat} {a : Option Addr} {cs : List (List Value)} (h : RS H m (.slice a len cap) cs) (h1 : lo ≤ hi) (h2 : hi ≤ len) :
    RS H m (.slice (if cap = lo then a else a.map (·.add (lo * m))) (hi - lo) (cap - lo)) ((cs.take hi).drop lo) := by
  obtain ⟨a', cap', e, h3, h4, h5⟩ := h
  cases e
  have hlen : ((cs.take hi).drop lo).length = hi - lo := by simp; omega
  refine ⟨_, _, by rw [hlen], by omega, by omega, fun i c hi' => ?_⟩
  have hlt := (List.getElem?_eq_some_iff.1 hi').1
  rw [List.getElem?_drop, List.getElem?_take] at hi'
  split at hi'
  · obtain ⟨h6, b, off, rfl, h7⟩ := h5 _ c hi'
    refine ⟨h6, b, off + lo * m, ?_, by rw [Nat.add_assoc, ← Nat.add_mul]; exact h7⟩
    rw [if_neg (by omega)]
    simp [addr_add]
  · cases hi'
theorem run_eqX {u v : Value} {r : Bool} {op : BinOp} {ty' : TypeId} (ho : op = .eql ∨ op = .neq) (hb : ∀ w, (binOp op t u v).run P w = (do let r ← Op.equal t u v; pure (.bool (bif decide (op = .eql) then r else !r)) : Sem Value).run P w)
    (hg : ∀ x y, (eqGuard op t x y u v) = pure ()) (hx : FS.ev s x = some u) (hy : FS.ev s y = some v) (h : ∀ (d : Nat) (w : World), (Op.equalIn (d + 1) t u v).run P w = .ok r w) :
    QJ P H σ s (.binOp op t x y ty') (.bool (bif decide (op = .eql) then r else !r)) :=
  ⟨fun _ => by simp, fun a w _ _ _ _ _ ha _ => by
    have h2 : (Op.equal t u v).run P w = .ok r w := h 9999 w
    simp only [execOp, ha.ev hx, ha.ev hy, hg, pure_bind, Sem.run_bind, hb]
    rcases ho with rfl | rfl <;> simp [h2]⟩
theorem q_eqPN {elem : TypeId} {a' : Option Addr} {ty' : TypeId} (hx : FS.ev s x = some (.pointer a')) (hy : FS.ev s y = some (.pointer none)) (hu : ∀ w, (underlying t).run P w = .ok (.pointer elem) w) :
    QJ P H σ s (.binOp .eql t x y ty') (.bool a'.isNone) :=
  run_eqX (.inl rfl) (fun w => by simp [binOp]) (fun x y => by simp [eqGuard]) hx hy (fun d w => by cases a' <;> simp [Op.equalIn, hu w])
theorem q_eqSN {elem : TypeId} {a' : Option Addr} {len cap : Nat} {ty' : TypeId} (hx : FS.ev s x = some (.slice a' len cap)) (hy : FS.ev s y = some (.slice none 0 0)) (hu : ∀ w, (underlying t).run P w = .ok (.slice elem) w) :
    QJ P H σ s (.binOp .eql t x y ty') (.bool a'.isNone) :=
  run_eqX (.inl rfl) (fun w => by simp [binOp]) (fun x y => by simp [eqGuard]) hx hy (fun d w => by cases a' <;> simp [Op.equalIn, hu w])
def Cl (P : Program) (f : FuncId) (args : List Value) (w : World) (R : Value → World → Prop) : Prop :=
  Calls P f args.toArray w fun e w' => ∃ v, e = .returned v ∧ R v w'
theorem Cl.mono {f : FuncId} {args : List Value} {R R' : Value → World → Prop} (h : Cl P f args w R) (hr : ∀ v w', R v w' → R' v w') : Cl P f args w R' :=
  Calls.mono h fun _ _ ⟨v, h1, h2⟩ => ⟨v, h1, hr _ _ h2⟩
theorem callsIn_FW {nn : Nat} {f : FuncId} {args : Array Value} {R : Ending → World → Prop} (h : Calls P f args w R) : CallsIn (FW ro) nn P f args w R :=
  ⟨trivial, fun cs _ => (callsIn_wide (n := nn).2 h).2 cs (room_wide _)⟩
theorem OJ.callG {f : FuncId} {fx : Operand} {l : List Operand} {first cap vs : List Value} {ts : Array TypeId} {R : Value → World → Prop} (hf : FS.ev ⟨n, ds, e⟩ fx = some (.func (.func f) first.toArray cap.toArray)) (hv : evs ⟨n, ds, e⟩ l = some vs)
    (hc : ∀ args w, (callFunc f args).run P w = .ok (.enter f args) w) (hcall : Cl P f (first ++ vs ++ cap) w R) (k : ∀ v w', R v w' → K ⟨n, ds, (d, v) :: e⟩ w') (hd : Nat.blt d n = true := by rfl) :
    OJ P ro ⟨some d, .call ⟨.value fx, l.toArray, ts⟩, ty, pos, aft, none⟩ K ⟨n, ds, e⟩ w := fun a ha => by
  refine ⟨fun _ _ => trivial, ?_⟩
  rw [Oper.semAt_eq _ _ _ (by simp)]
  simp only [execOp, resolve, List.map_toArray, evs_map ha hv, ha.ev hf, Deferred.ofValue, Sem.run_bind, Sem.run_pure, Result.andThen, invoke, hc]
  refine ⟨fun h => (by cases h), ?_⟩
  have h2 : (first.toArray ++ vs.toArray ++ cap.toArray) = (first ++ vs ++ cap).toArray := by simp
  rw [h2]
  refine CallsIn.mono (callsIn_FW hcall) fun en w' ⟨v, h1, h3⟩ => ?_
  subst h1
  exact ⟨_, ha.put hd v, k v w' h3⟩
theorem OJ.call {f : FuncId} {l : List Operand} {vs : List Value} {ts : Array TypeId} {R : Value → World → Prop} (hc : ∀ args w, (callFunc f args).run P w = .ok (.enter f args) w) (hv : evs ⟨n, ds, e⟩ l = some vs)
    (hcall : Cl P f vs w R) (k : ∀ v w', R v w' → K ⟨n, ds, (d, v) :: e⟩ w') (hd : Nat.blt d n = true := by rfl) :
    OJ P ro ⟨some d, .call ⟨.value (.func f), l.toArray, ts⟩, ty, pos, aft, none⟩ K ⟨n, ds, e⟩ w :=
  .callG (first := []) (cap := []) rfl hv hc (by simpa using hcall) k hd
def Lv (P : Program) (fn : Func) (R : Value → World → Prop) (s : FS) : List Deferred → World → Prop
  | [], w => ∃ v, (∀ a, Sim s a → (results fn a.tmps).run P w = .ok v w) ∧ R v w
  | d :: ds, w => ∃ r w', d.target = .collected r ∧ (Instr.takeDeferred r).run P w = .ok [] w' ∧ Lv P fn R s ds w'
def Fin (P : Program) (fn : Func) (R : Value → World → Prop) : Exit → FS → World → Prop
  | .normal, s, w => Lv P fn R s s.ds w
  | .ret, s, w => Lv P fn R s s.ds w
  | .exit _, _, _ => False
  | .goto _, _, _ => False
  | .panic _, _, _ => False
  | .outgrown, _, _ => False
theorem Lv.leaves {fn : Func} {R : Value → World → Prop} {s : FS} {a : Act} (ha : Sim s a) : ∀ (l : List Deferred) (w : World), Lv P fn R s l w →
    LeavesInM (FW none) 0 P fn a.tmps (fun e w' => ∃ v, e = .returned v ∧ R v w') l .returning w := by
  intro l
  induction l with
  | nil => intro w ⟨v, h1, h2⟩; exact ⟨v, h1 a ha, v, rfl, h2⟩
  | cons d l ih => intro w ⟨r, w', h1, h2, h3⟩; exact ⟨by simp, .inl ⟨r, w', h1, h2, ih w' h3⟩⟩
theorem getElem?_args {args : List Value} {k i : Nat} {v : Value} (h : args[i]? = some v) : (args.toArray ++ Array.replicate k undef).getD i undef = v := by
  have hl := (List.getElem?_eq_some_iff.1 h).1
  rw [Array.getD_eq_getD_getElem?, Array.getElem?_append_left (by simpa using hl)]
  simp [h]
theorem Cl.of {f : FuncId} {fn : Func} {c : Code} {args : List Value} {R : Value → World → Prop} {nn : Nat} {e : List (Nat × Value)} (hf : P.funcs[f]? = some fn) (hb : fn.body = some c) (hn : fn.ntmps = nn)
    (hl : args.length ≤ nn) (he : ∀ i v, get e i = some v → args[i]? = some v) (h : WE P none c (Fin P fn R) ⟨nn, [], e⟩ w) : Cl P f args w R := by
  refine (callsIn_wide (n := 0)).1 (callsIn_of_wp_marks hf hb trivial ?_)
  refine wpIn_mono (h _ ⟨?_, rfl, fun t v hv => ?_⟩) ?_
  · simp [hn]; omega
  · exact getElem?_args (he t v hv)
  · rintro x a w ⟨s, h1, h2⟩
    cases x with
    | normal => simp only [bodyPostM, h1.ds]; exact Lv.leaves h1 _ _ h2
    | ret => simp only [bodyPostM, h1.ds]; exact Lv.leaves h1 _ _ h2
    | _ => exact h2.elim
theorem args0 {args : List Value} : ∀ i v, get [] i = some v → args[i]? = some v := fun _ _ h => by cases h
theorem args_cons {args : List Value} {k : Nat} {u : Value} {e : List (Nat × Value)} (hk : args[k]? = some u) (h : ∀ i v, get e i = some v → args[i]? = some v) : ∀ i v, get ((k, u) :: e) i = some v → args[i]? = some v := fun i v hi => by
  simp only [get] at hi
  cases hb : Nat.beq k i with
  | true => rw [hb] at hi; simp only [cond_true, Option.some.injEq] at hi; rw [← Nat.eq_of_beq_eq_true hb, ← hi]; exact hk
  | false => rw [hb] at hi; exact h i v hi
theorem Fin.ret0 {fn : Func} {R : Value → World → Prop} (hr : fn.results = #[]) (h : R (.tuple #[]) w) : Fin P fn R .ret ⟨n, [], e⟩ w :=
  ⟨_, fun a _ => by simp [results, hr], h⟩
theorem Fin.end0 {fn : Func} {R : Value → World → Prop} (hr : fn.results = #[]) (h : R (.tuple #[]) w) : Fin P fn R .normal ⟨n, [], e⟩ w :=
  ⟨_, fun a _ => by simp [results, hr], h⟩
theorem Fin.ret1 {fn : Func} {R : Value → World → Prop} {t : Tmp} (hr : fn.results = #[.tmp t]) (hv : get e t = some v) (h : R v w) : Fin P fn R .ret ⟨n, [], e⟩ w :=
  ⟨v, fun a ha => by have := ha.val t v hv; simp [results, hr]; simpa using this, h⟩
theorem Fin.ret2 {fn : Func} {R : Value → World → Prop} {t1 t2 : Tmp} {v1 v2 : Value} (hr : fn.results = #[.tmp t1, .tmp t2]) (h1 : get e t1 = some v1) (h2 : get e t2 = some v2) (h : R (.tuple #[v1, v2]) w) : Fin P fn R .ret ⟨n, [], e⟩ w :=
  ⟨_, fun a ha => by have e1 := ha.val _ _ h1; have e2 := ha.val _ _ h2; simp [results, hr]; simp at e1 e2; exact ⟨e1, e2⟩, h⟩
theorem Fin.ret3 {fn : Func} {R : Value → World → Prop} {t1 t2 t3 : Tmp} {v1 v2 v3 : Value} (hr : fn.results = #[.tmp t1, .tmp t2, .tmp t3]) (h1 : get e t1 = some v1) (h2 : get e t2 = some v2) (h3 : get e t3 = some v3) (h : R (.tuple #[v1, v2, v3]) w) : Fin P fn R .ret ⟨n, [], e⟩ w :=
  ⟨_, fun a ha => by have e1 := ha.val _ _ h1; have e2 := ha.val _ _ h2; have e3 := ha.val _ _ h3; simp [results, hr]; simp at e1 e2 e3; exact ⟨e1, e2, e3⟩, h⟩
end Go.MW

namespace Go.MW
variable {P : Program} {ro : Option Nat} {Q : Exit → FS → World → Prop} {K : FS → World → Prop} {ops : Array Oper} {s : FS} {w : World}
  {H : Heap} {σ τ : List Ent} {n d : Nat} {ds : List Deferred} {e : List (Nat × Value)} {op : Op} {ty t : TypeId} {pos : String} {aft : Array Edge} {v : Value} {x y : Operand}
def AnyA (P : Program) (ro : Option Nat) (ops : Array Oper) (K : Act → World → Prop) : Nat → Array Bool → Act → World → Prop :=
  wpAnyIn (FW ro) 0 P .any ops (fun x a w => match x with | .normal => K a w | _ => False)
def YI (P : Program) (ops : Array Oper) (I : World → Prop) (o : Oper) (v : Value) (a : Act) : Prop :=
  (∀ c, o.op ≠ .defer c) ∧ ((Region.wanted o (yielded ops a.tmps) = true ∧ ∀ w, I w → (execOp a.eval o).run P w = .ok (.value v) w) ∨
  (Region.wanted o (yielded ops a.tmps) = false ∧ v = undef))
theorem YI.same {I : World → Prop} {o : Oper} {v : Value} {a a' : Act} (hy : YI P ops I o v a) (he : execOp a'.eval o = execOp a.eval o)
    (hw : Region.wanted o (yielded ops a'.tmps) = Region.wanted o (yielded ops a.tmps)) : YI P ops I o v a' := by
  unfold YI at *; rw [he, hw]; exact hy
abbrev Prom := Nat × Heap × List Ent
def Hold (Pm : List Prom) (w : World) : Prop := ∀ p ∈ Pm, St p.2.1 w p.2.2
def bnd (ops : Array Oper) (j i : Nat) : Bool :=
  match ops[j]? with
  | some o => o.after.toList.any fun e => Region.binds .any e && Nat.beq e.on i
  | none => false
def AnyI (P : Program) (ro : Option Nat) (ops : Array Oper) (K : Act → World → Prop) : Nat → Array Bool → List Prom → Act → World → Prop
  | 0, listed, _, a, w => Region.ready .any ops listed = [] ∧ K a w
  | fuel + 1, listed, Pm, a, w => Hold Pm w ∧
    (Region.ready .any ops listed = [] → K a w) ∧
    ∀ i ∈ Region.ready .any ops listed, wpOpIn (FW ro) 0 P ops (fun _ _ _ => False) i (fun a' w' => ∃ Pm' : List Prom, (∀ p ∈ Pm, bnd ops i p.1 = true ∨ p ∈ Pm') ∧ Hold Pm' w' ∧ AnyI P ro ops K fuel (listed.setIfInBounds i true) Pm' a' w') a w
theorem AnyI.any {K : Act → World → Prop} : ∀ (fuel : Nat) (listed : Array Bool) (Pm : List Prom) (a : Act) (w : World), AnyI P ro ops K fuel listed Pm a w → AnyA P ro ops K fuel listed a w := by
  have hQ : ∀ i (K1 K2 : Act → World → Prop), (∀ a w, K1 a w → K2 a w) → ∀ a w, wpOpIn (FW ro) 0 P ops (fun _ _ _ => False) i K1 a w → wpOpIn (FW ro) 0 P ops (fun x a w => match x with | .normal => K a w | _ => False) i K2 a w := by
    intro i K1 K2 hk a w h
    have h := wpOpIn_mono hk h
    unfold wpOpIn at *
    split
    · rename_i e; simpa [e] using h
    · rename_i o e
      simp only [e] at h
      split
      · rename_i hw; simp only [hw, if_true] at h; exact wpIn_Q h
      · rename_i hw; simp only [hw] at h; exact h
  intro fuel
  induction fuel with
  | zero => intro listed Pm a w h; exact h
  | succ fuel ih =>
    intro listed Pm a w h
    exact ⟨h.2.1, fun i hi => hQ i _ _ (fun a w ⟨Pm', _, _, h⟩ => ih _ Pm' a w h) a w (h.2.2 i hi)⟩
theorem AnyI.drop {K : Act → World → Prop} {fuel : Nat} {listed : Array Bool} {Pm Pn : List Prom} {a : Act} {w : World} (h : AnyI P ro ops K fuel listed Pm a w) (hp : ∀ p ∈ Pn, p ∈ Pm) : AnyI P ro ops K fuel listed Pn a w := by
  cases fuel with
  | zero => exact h
  | succ fuel => exact ⟨fun p hpn => h.1 p (hp p hpn), h.2.1, fun i hi => wpOpIn_mono (fun a' w' ⟨Pm', g1, g2⟩ => ⟨Pm', fun p hpn => g1 p (hp p hpn), g2⟩) (h.2.2 i hi)⟩
theorem YI.run {I : World → Prop} {i : Nat} {o : Oper} {v : Value} {a : Act} (hi : ops[i]? = some o) (hy : YI P ops I o v a)
    {K : Act → World → Prop} {w : World} (hw : I w) (h : K (a.put o.dst v) w) : wpOpIn (FW ro) 0 P ops (fun _ _ _ => False) i K a w := by
  unfold wpOpIn
  simp only [hi]
  obtain ⟨hd, ⟨h1, h2⟩ | ⟨h1, rfl⟩⟩ := hy
  · simp only [h1, if_true]
    refine ⟨fun _ _ => trivial, ?_⟩
    rw [Oper.semAt_eq _ _ _ hd, h2 w hw]
    exact h
  · simp only [h1, Bool.false_eq_true, if_false]
    exact ⟨fun _ _ => trivial, h⟩
theorem opIn_put {I : World → Prop} {j : Nat} {oi oj : Oper} {v : Value} (hj : ops[j]? = some oj) (hap : oi.apart ops oj = true)
    (hsi : ∀ cs b, oi.op ≠ .select cs b) (hsj : ∀ cs b, oj.op ≠ .select cs b) {K : Act → World → Prop} {a : Act} {w : World}
    (hy : YI P ops I oi v a) (h : wpOpIn (FW ro) 0 P ops (fun _ _ _ => False) j K (a.put oi.dst v) w) :
    wpOpIn (FW ro) 0 P ops (fun _ _ _ => False) j (fun a' w' => YI P ops I oi v a' ∧ K (a'.put oi.dst v) w') a w := by
  obtain ⟨h1, h2, h3⟩ := Oper.apart_spec hap
  have keep : ∀ (a : Act), YI P ops I oi v a → ∀ u, YI P ops I oi v (a.put oj.dst u) := fun a hy u =>
    hy.same (execOp_put oi hsi a oj.dst u h3) (wanted_put oi a oj.dst u h3)
  have keepD : ∀ d, YI P ops I oi v { a with defers := d :: a.defers } := fun d => hy.same rfl rfl
  unfold wpOpIn at *
  simp only [hj] at *
  rw [wanted_put oj a oi.dst v h1] at h
  have hsem : oj.semAt (FW ro).round (a.put oi.dst v).eval = oj.semAt (FW ro).round a.eval := by
    have he := execOp_put oj hsj a oi.dst v h1
    by_cases hdf : ∃ c, oj.op = .defer c
    · obtain ⟨c, hop⟩ := hdf
      have hr : ∀ x ∈ c.operands, (a.put oi.dst v).eval x = a.eval x := fun x hx => Act.eval_put fun d hd hxd => h1 d hd (by
        subst hxd
        exact List.mem_append_left _ (List.mem_filterMap.2 ⟨.tmp d, by rw [hop]; simpa [Op.operands] using hx, rfl⟩))
      unfold Oper.semAt
      rw [hop]
      cases ro with
      | none => simp only [he]
      | some l => simp only [resolve_congr c oj.type hr]
    · rw [Oper.semAt_eq _ _ _ (fun c e => hdf ⟨c, e⟩), Oper.semAt_eq _ _ _ (fun c e => hdf ⟨c, e⟩), he]
  split
  · rename_i hw
    simp only [hw, if_true] at h
    unfold Oper.wpIn at *
    refine ⟨fun _ _ => trivial, ?_⟩
    have h := h.2
    rw [hsem] at h
    generalize (oj.semAt (FW ro).round a.eval).run P w = r at *
    cases r with
    | ok x w' =>
      cases x <;> simp only [Oper.uponIn] at h ⊢
      case value u => exact ⟨keep a hy u, by rw [← Act.put_comm a v u h2]; exact h⟩
      case skip => exact ⟨keep a hy _, by rw [← Act.put_comm a v undef h2]; exact h⟩
      case defer d =>
        refine ⟨keep _ (keepD d) _, ?_⟩
        rw [← Act.put_comm _ v undef h2, ← Act.put_defers]
        exact h
      case enter f args =>
        refine ⟨h.1, CallsIn.mono h.2 fun e w'' he => ?_⟩
        cases e with
        | returned u => exact ⟨keep a hy u, by rw [← Act.put_comm a v u h2]; exact he⟩
        | panicked c => exact he
        | outgrown => exact he
      case row row args => exact ⟨h.1, RowsIn.mono h.2 fun u w'' he => ⟨keep a hy u, by rw [← Act.put_comm a v u h2]; exact he⟩⟩
      case round l f tmps assign body =>
        refine ⟨h.1, RoundIn.mono h.2 fun e w'' he => ?_⟩
        cases e with
        | returned u => exact ⟨keep a hy u, by rw [← Act.put_comm a v u h2]; exact he⟩
        | panicked c => exact he
        | outgrown => exact he
    | halt x w' => cases x <;> simp only [Oper.uponIn] at h ⊢
  · rename_i hw
    simp only [hw] at h
    exact ⟨fun _ _ => trivial, keep a hy _, by rw [← Act.put_comm a v undef h2]; exact h.2⟩
theorem AnyI.first {i : Nat} {oi : Oper} {v : Value} {pr : Heap × List Ent} (hi : ops[i]? = some oi) (hsel : ∀ (j : Nat) (o : Oper) cs b, ops[j]? = some o → o.op ≠ .select cs b) {K : Act → World → Prop} :
    ∀ (fuel : Nat) (listed : Array Bool) (Pm : List Prom) (a : Act) (w : World),
      (∀ j oj, ops[j]? = some oj → j ≠ i → listed.getD j true = false → (∀ e ∈ oj.after, Region.binds .any e = true → e.on ≠ i) → oi.apart ops oj = true) →
      i ∈ Region.ready .any ops listed → YI P ops (fun w => St pr.1 w pr.2) oi v a → Hold ((i, pr) :: Pm) w →
      AnyI P ro ops K fuel (listed.setIfInBounds i true) ((i, pr) :: Pm) (a.put oi.dst v) w → AnyI P ro ops K (fuel + 1) listed Pm a w := by
  intro fuel
  induction fuel with
  | zero =>
    intro listed Pm a w _ hr hy hw H
    refine ⟨fun p hp => hw p (.tail _ hp), fun h => (by rw [h] at hr; cases hr), fun j hj => ?_⟩
    by_cases hji : j = i
    · subst hji; exact hy.run hi (hw _ (.head _)) ⟨(j, pr) :: Pm, fun p hp => .inr (.tail _ hp), hw, H⟩
    · have := ready_mono hj hji
      rw [H.1] at this
      cases this
  | succ fuel ih =>
    intro listed Pm a w hfree hr hy hw H
    refine ⟨fun p hp => hw p (.tail _ hp), fun h => (by rw [h] at hr; cases hr), fun j hj => ?_⟩
    by_cases hji : j = i
    · subst hji; exact hy.run hi (hw _ (.head _)) ⟨(j, pr) :: Pm, fun p hp => .inr (.tail _ hp), hw, H⟩
    · have h1 := H.2.2 j (ready_mono hj hji)
      obtain ⟨hjun, oj, hoj, hall⟩ := mem_ready.1 hj
      have hnot : ∀ e ∈ oj.after, Region.binds .any e = true → e.on ≠ i := fun e he hb heq => by
        have h1 := hall e he hb
        have h0 := (mem_ready.1 hr).1
        rw [heq] at h1
        rcases Nat.lt_or_ge i listed.size with h' | h'
        · simp [h'] at h0 h1; rw [h0] at h1; cases h1
        · simp [Array.getElem?_eq_none h'] at h1
      have hnb : bnd ops j i = false := by
        unfold bnd
        rw [hoj]
        simp only [List.any_eq_false, Bool.and_eq_true, not_and]
        intro e he hb hn
        exact hnot e (by simpa using he) hb (Nat.eq_of_beq_eq_true hn)
      have h2 := opIn_put hoj (hfree j oj hoj hji hjun hnot) (fun cs b => hsel i oi cs b hi) (fun cs b => hsel j oj cs b hoj) hy h1
      have hfree' : ∀ k ok, ops[k]? = some ok → k ≠ i → (listed.setIfInBounds j true).getD k true = false →
          (∀ e ∈ ok.after, Region.binds .any e = true → e.on ≠ i) → oi.apart ops ok = true := fun k ok hk hki hun hno => by
        refine hfree k ok hk hki ?_ hno
        by_cases hjk : j = k
        · subst hjk; exact hjun
        · rw [getD_set_ne true hjk] at hun; exact hun
      refine wpOpIn_mono (fun a' w' ⟨h3, Pm', h4, h5, h6⟩ => ?_) h2
      have hin : (i, pr) ∈ Pm' := by
        rcases h4 _ (.head _) with h | h
        · rw [hnb] at h; cases h
        · exact h
      refine ⟨Pm', fun p hp => h4 p (.tail _ hp), h5, ih (listed.setIfInBounds j true) Pm' a' w' hfree' (ready_mono hr (Ne.symm hji)) h3 (fun p hp => ?_) ?_⟩
      · cases hp with
        | head => exact h5 _ hin
        | tail _ hp => exact h5 _ hp
      · rw [Array.setIfInBounds_comm _ _ hji]
        exact h6.drop fun p hp => by
          cases hp with
          | head => exact hin
          | tail _ hp => exact hp
def DO (P : Program) (ro : Option Nat) (ops : Array Oper) (K : FS → World → Prop) (fuel : Nat) (listed : List Bool) (Pm : List Prom) (s : FS) (w : World) : Prop :=
  Hold Pm w ∧ ∀ a, Sim s a → AnyI P ro ops (fun a w => ∃ s, Sim s a ∧ K s w) fuel listed.toArray Pm a w
theorem WE.draw {id : Nat} {l : List Oper} {k : Nat} (hm : P.follows .mixedOrders = true) (hk : l.length = k) (hs : St H w σ) (h : ∀ w, St H w σ → DO P ro l.toArray (Q .normal) k (List.replicate k false) [] s w) :
    WE P ro (.region id l.toArray true) Q s w := fun a ha => by
  refine wpIn_mono (wpIn_region_any hm (AnyI.any _ _ [] _ _ ?_)) (fun x a w hx => ?_) (Q := fun x a w => match x with | .normal => ∃ s, Sim s a ∧ Q .normal s w | _ => False)
  · have := (h _ (hs.drawn (w.drawn + 1))).2 a ha; simpa [hk] using this
  · cases x with
    | normal => exact hx
    | _ => exact hx.elim
inductive PSub (H : Heap) (σ : List Ent) : List Prom → Prop
  | nil : PSub H σ []
  | cons {i : Nat} {H' : Heap} {σ' : List Ent} {Pm : List Prom} (hl : HLe H' H) (hs : Sub σ' σ) (t : PSub H σ Pm) : PSub H σ ((i, H', σ') :: Pm)
theorem PSub.hold {Pm : List Prom} (h : PSub H σ Pm) (hs : St H w σ) : Hold Pm w := by
  induction h with
  | nil => intro p hp; cases hp
  | cons hl hsub t ih =>
    intro p hp
    cases hp with
    | head => exact (hs.le hl).sub hsub
    | tail _ hp => exact ih p hp
theorem DO.done {fuel : Nat} {listed : List Bool} {Pm : List Prom} (hr : Region.ready .any ops listed.toArray = []) (hs : St H w σ) (h : K s w)
    (hp : PSub H σ Pm := by repeat (first | exact .nil | refine .cons (by first | exact HLe.bot _ | exact HLe.refl _ | assumption) (by repeat constructor) ?_)) : DO P ro ops K fuel listed Pm s w := by
  refine ⟨hp.hold hs, fun a ha => ?_⟩
  cases fuel with
  | zero => exact ⟨hr, s, ha, h⟩
  | succ f => exact ⟨hp.hold hs, fun _ => ⟨s, ha, h⟩, by rw [hr]; simp⟩
def takeB (ops : Array Oper) (listed : Array Bool) (i : Nat) : Bool := Region.noSelect ops && Region.free .any ops listed i && (Region.ready .any ops listed).contains i
theorem wantedT {s : FS} {a : Act} (o : Oper) {j t' : Nat} {want bb : Bool} (hg : o.guard = some (j, want)) (ha : Sim s a) (hj : (ops[j]?).bind (·.dst) = some t') (ht : get s.e t' = some (.bool bb)) (hbb : bb = want) : Region.wanted o (yielded ops a.tmps) = true := by
  have hl : t' < a.tmps.size := by
    rcases Nat.lt_or_ge t' a.tmps.size with h | h
    · exact h
    · have := ha.val t' _ ht; simp [Array.getElem?_eq_none h, undef] at this
  have hv : a.tmps[t']? = some (.bool bb) := by have := ha.val t' _ ht; simp [hl] at this ⊢; exact this
  have hy : yielded ops a.tmps j = some bb := by unfold yielded; rw [hj]; simp [hv]
  simp [Region.wanted, hg, hy, hbb]
inductive GOk (ops : Array Oper) (e : List (Nat × Value)) : Option (Nat × Bool) → Prop
  | none : GOk ops e none
  | some {j t' : Nat} {want : Bool} (hj : (ops[j]?).bind (·.dst) = some t') (ht : get e t' = some (.bool want)) : GOk ops e (some (j, want))
theorem GOk.wanted {g : Option (Nat × Bool)} {dst : Option Tmp} {a : Act} (h : GOk ops e g) (ha : Sim ⟨n, ds, e⟩ a) : Region.wanted ⟨dst, op, ty, pos, aft, g⟩ (yielded ops a.tmps) = true := by
  cases h with
  | none => rfl
  | some hj ht => exact wantedT _ rfl ha hj ht rfl
theorem DO.q {fuel i : Nat} {g : Option (Nat × Bool)} {Pm : List Prom} {listed listed' : List Bool} (σ' : List Ent) (hi : ops[i]? = some ⟨some d, op, ty, pos, aft, g⟩) (hb : takeB ops listed.toArray i = true) (hg : GOk ops e g) (hq : QJ P H σ' ⟨n, ds, e⟩ op v)
    (k : DO P ro ops K fuel listed' ((i, H, σ') :: Pm) ⟨n, ds, (d, v) :: e⟩ w) (hl : listed.set i true = listed' := by rfl) (hd : Nat.blt d n = true := by rfl) : DO P ro ops K (fuel + 1) listed Pm ⟨n, ds, e⟩ w := by
  subst hl
  simp only [takeB, Bool.and_eq_true] at hb
  refine ⟨fun p hp => k.1 p (.tail _ hp), fun a ha => ?_⟩
  refine AnyI.first (v := v) (pr := (H, σ')) hi (Region.noSelect_spec hb.1.1) fuel _ _ a w (Region.free_spec hi hb.1.2) (by simpa using hb.2) ⟨hq.1, .inl ⟨hg.wanted ha, fun w hw => hq.2 a w _ _ _ _ _ ha hw⟩⟩ k.1 ?_
  have := k.2 _ (ha.put hd v)
  simpa using this
theorem St.triv (w : World) : St .bot w [] := ⟨fun _ _ h => (by cases h), fun _ h => (by cases h), .nil, fun _ h => (by cases h), fun _ h => (by cases h)⟩
theorem DO.p {fuel i : Nat} {g : Option (Nat × Bool)} {Pm : List Prom} {listed listed' : List Bool} (hi : ops[i]? = some ⟨some d, op, ty, pos, aft, g⟩) (hb : takeB ops listed.toArray i = true) (hg : GOk ops e g) (hq : QJ P .bot [] ⟨n, ds, e⟩ op v)
    (k : DO P ro ops K fuel listed' Pm ⟨n, ds, (d, v) :: e⟩ w) (hl : listed.set i true = listed' := by rfl) (hd : Nat.blt d n = true := by rfl) : DO P ro ops K (fuel + 1) listed Pm ⟨n, ds, e⟩ w := by
  have triv' : ∀ (fuel : Nat) (listed : Array Bool) (Pm : List Prom) (a : Act) (w : World), AnyI P ro ops (fun a w => ∃ s, Sim s a ∧ K s w) fuel listed Pm a w → AnyI P ro ops (fun a w => ∃ s, Sim s a ∧ K s w) fuel listed ((i, .bot, []) :: Pm) a w := by
    intro fuel
    induction fuel with
    | zero => intro listed Pm a w h; exact h
    | succ fuel ih =>
      intro listed Pm a w h
      refine ⟨fun p hp => ?_, h.2.1, fun j hj => wpOpIn_mono (fun a' w' ⟨Pm', g1, g2, g3⟩ => ⟨(i, .bot, []) :: Pm', fun p hp => ?_, fun p hp => ?_, ih _ _ _ _ g3⟩) (h.2.2 j hj)⟩
      · cases hp with
        | head => exact St.triv w
        | tail _ hp => exact h.1 p hp
      · cases hp with
        | head => exact .inr (.head _)
        | tail _ hp => exact (g1 p hp).imp id (fun h => .tail _ h)
      · cases hp with
        | head => exact St.triv _
        | tail _ hp => exact g2 p hp
  exact .q [] hi hb hg hq ⟨fun p hp => by
    cases hp with
    | head => exact St.triv w
    | tail _ hp => exact k.1 p hp, fun a ha => triv' _ _ _ _ _ (k.2 a ha)⟩ hl hd
theorem DO.load {fuel i : Nat} {g : Option (Nat × Bool)} {Pm : List Prom} {listed listed' : List Bool} {b off : Nat} {c : List Value} (_ : St H w σ) (hi : ops[i]? = some ⟨some d, .load t x, ty, pos, aft, g⟩) (hb : takeB ops listed.toArray i = true) (hg : GOk ops e g)
    (hx : FS.ev ⟨n, ds, e⟩ x = some (.pointer (some ⟨b, off, none⟩))) (ha : ∀ w, (isAgg t).run P w = .ok false w)
    (k : DO P ro ops K fuel listed' ((i, .bot, [.blk b c]) :: Pm) ⟨n, ds, (d, v) :: e⟩ w) (_ : Mem σ (.blk b c) := by repeat (first | exact .here | refine .there ?_)) (hv : c[off]? = some v := by first | rfl | exact Is_gi (by first | assumption | omega)) (hl : listed.set i true = listed' := by rfl) (hd : Nat.blt d n = true := by rfl) :
    DO P ro ops K (fuel + 1) listed Pm ⟨n, ds, e⟩ w := .q [.blk b c] hi hb hg (q_load hx ha .here hv) k hl hd
theorem DO.loads {fuel i : Nat} {g : Option (Nat × Bool)} {Pm : List Prom} {listed listed' : List Bool} {b off : Nat} {c vs : List Value} (_ : St H w σ) (hi : ops[i]? = some ⟨some d, .load t x, ty, pos, aft, g⟩) (hb : takeB ops listed.toArray i = true) (hg : GOk ops e g)
    (hx : FS.ev ⟨n, ds, e⟩ x = some (.pointer (some ⟨b, off, none⟩))) (ha : ∀ w, (isAgg t).run P w = .ok true w) (hz : ∀ w, (sizeOf t).run P w = .ok vs.length w)
    (k : DO P ro ops K fuel listed' ((i, .bot, [.blk b c]) :: Pm) ⟨n, ds, (d, .agg vs.toArray) :: e⟩ w) (_ : Mem σ (.blk b c) := by repeat (first | exact .here | refine .there ?_)) (hv : (c.drop off).take vs.length = vs := by rfl) (hl : listed.set i true = listed' := by rfl) (hd : Nat.blt d n = true := by rfl) :
    DO P ro ops K (fuel + 1) listed Pm ⟨n, ds, e⟩ w := .q [.blk b c] hi hb hg (q_loads hx ha hz .here hv) k hl hd
theorem DO.r {fuel i : Nat} {g : Option (Nat × Bool)} {Pm : List Prom} {listed listed' : List Bool} (_ : St H w σ) (hi : ops[i]? = some ⟨some d, op, ty, pos, aft, g⟩) (hb : takeB ops listed.toArray i = true) (hg : GOk ops e g) (hq : QJ P H [] ⟨n, ds, e⟩ op v)
    (k : DO P ro ops K fuel listed' ((i, H, []) :: Pm) ⟨n, ds, (d, v) :: e⟩ w) (hl : listed.set i true = listed' := by rfl) (hd : Nat.blt d n = true := by rfl) :
    DO P ro ops K (fuel + 1) listed Pm ⟨n, ds, e⟩ w := .q [] hi hb hg hq k hl hd
theorem DO.ixX {α : Type} {enc : α → List Value} {xs : List α} {m k : Nat} {x' : α} {elem : TypeId} {q : IntKind} {z : Int} {fuel i : Nat} {g : Option (Nat × Bool)} {Pm : List Prom} {listed listed' : List Bool} (_ : St H w σ) (hi : ops[i]? = some ⟨some d, .indexAddr t x y, ty, pos, aft, g⟩) (hb : takeB ops listed.toArray i = true) (hg : GOk ops e g)
    (hr : RS H m v (xs.map enc)) (hx : FS.ev ⟨n, ds, e⟩ x = some v) (hy : FS.ev ⟨n, ds, e⟩ y = some (.int q z))
    (hu : ∀ w, (underlying t).run P w = .ok (.slice elem) w) (hz : ∀ w, (sizeOf elem).run P w = .ok m w) (hk : xs[k]? = some x') (hzk : z = (k : Int))
    (kk : ∀ b off, CellsAt H b off (enc x') → DO P ro ops K fuel listed' Pm ⟨n, ds, (d, .pointer (some ⟨b, off, none⟩)) :: e⟩ w) (hl : listed.set i true = listed' := by rfl) (hd : Nat.blt d n = true := by rfl) :
    DO P ro ops K (fuel + 1) listed Pm ⟨n, ds, e⟩ w := by
  subst hzk
  obtain ⟨hlt, he⟩ := List.getElem?_eq_some_iff.1 hk
  obtain ⟨a, cap, rfl⟩ := hr.shape
  obtain ⟨b, off, rfl, h1, h2⟩ := hr.at (i := k) (by simpa using hlt)
  have hp : QJ P .bot [] ⟨n, ds, e⟩ (.indexAddr t x y) (.pointer (some ⟨b, off + k * m, none⟩)) := by
    have := q_index (P := P) (H := .bot) (σ := []) hx hy hu hz (i := (k : Int)) ⟨by omega, by simpa using hlt⟩
    simpa using this
  exact .p hi hb hg hp (kk _ _ (by simpa [he] using h1)) hl hd
theorem DO.qF {fuel i j t' : Nat} {want : Bool} {u : Value} {Pm : List Prom} {listed listed' : List Bool} (hi : ops[i]? = some ⟨some d, op, ty, pos, aft, some (j, want)⟩) (hb : takeB ops listed.toArray i = true)
    (hj : (ops[j]?).bind (·.dst) = some t') (ht : get e t' = some u)
    (k : DO P ro ops K fuel listed' ((i, .bot, []) :: Pm) ⟨n, ds, (d, undef) :: e⟩ w) (hl : listed.set i true = listed' := by rfl) (hbb : u ≠ .bool want := by simp [undef]) (hdf : ∀ c, op ≠ .defer c := by simp) (hd : Nat.blt d n = true := by rfl) : DO P ro ops K (fuel + 1) listed Pm ⟨n, ds, e⟩ w := by
  subst hl
  simp only [takeB, Bool.and_eq_true] at hb
  refine ⟨fun p hp => k.1 p (.tail _ hp), fun a ha => ?_⟩
  have hw : Region.wanted ⟨some d, op, ty, pos, aft, some (j, want)⟩ (yielded ops a.tmps) = false := by
    have hy : ¬ yielded ops a.tmps j = some want := by
      unfold yielded; rw [hj]
      intro hh
      simp only [Option.bind_some] at hh
      rcases Nat.lt_or_ge t' a.tmps.size with hl | hl
      · have := ha.val t' _ ht
        simp only [Array.getD_eq_getD_getElem?, Array.getElem?_eq_getElem hl, Option.getD_some] at this
        rw [Array.getElem?_eq_getElem hl, this] at hh
        cases u <;> simp at hh
        exact hbb (by rw [hh])
      · rw [Array.getElem?_eq_none hl] at hh; simp at hh
    simp [Region.wanted, hy]
  refine AnyI.first (v := undef) (pr := ((.bot : Heap), [])) hi (Region.noSelect_spec hb.1.1) fuel _ _ a w (Region.free_spec hi hb.1.2) (by simpa using hb.2) ⟨hdf, .inr ⟨hw, rfl⟩⟩ k.1 ?_
  have := k.2 _ (ha.put hd undef)
  simpa using this
theorem DO.bif {fuel t' : Nat} {listed : List Bool} {Pm : List Prom} {bb : Bool} (ht : get e t' = some (.bool bb)) (h1 : bb = true → DO P ro ops K fuel listed Pm ⟨n, ds, (t', .bool true) :: e⟩ w) (h2 : bb = false → DO P ro ops K fuel listed Pm ⟨n, ds, (t', .bool false) :: e⟩ w) :
    DO P ro ops K fuel listed Pm ⟨n, ds, e⟩ w := by
  have key : ∀ (a : Act), Sim ⟨n, ds, e⟩ a → ∀ b : Bool, bb = b → Sim ⟨n, ds, (t', .bool b) :: e⟩ a := fun a ha b hb => ⟨ha.size, ha.ds, fun k v hk => by
    simp only [get] at hk
    cases hh : Nat.beq t' k with
    | true => rw [hh] at hk; simp only [cond_true, Option.some.injEq] at hk; rw [← Nat.eq_of_beq_eq_true hh, ← hk, ← hb]; exact ha.val _ _ ht
    | false => rw [hh] at hk; exact ha.val _ _ hk⟩
  cases bb with
  | true => exact ⟨(h1 rfl).1, fun a ha => (h1 rfl).2 a (key a ha true rfl)⟩
  | false => exact ⟨(h2 rfl).1, fun a ha => (h2 rfl).2 a (key a ha false rfl)⟩
theorem DO.bifD {fuel t' : Nat} {listed : List Bool} {Pm : List Prom} {p : Prop} [Decidable p] (ht : get e t' = some (.bool (decide p))) (h1 : p → DO P ro ops K fuel listed Pm ⟨n, ds, (t', .bool true) :: e⟩ w) (h2 : ¬ p → DO P ro ops K fuel listed Pm ⟨n, ds, (t', .bool false) :: e⟩ w) :
    DO P ro ops K fuel listed Pm ⟨n, ds, e⟩ w := .bif ht (fun h => h1 (of_decide_eq_true h)) (fun h => h2 (of_decide_eq_false h))
theorem DO.bifN {fuel t' : Nat} {listed : List Bool} {Pm : List Prom} {p : Prop} [Decidable p] (ht : get e t' = some (.bool (!decide p))) (h1 : ¬ p → DO P ro ops K fuel listed Pm ⟨n, ds, (t', .bool true) :: e⟩ w) (h2 : p → DO P ro ops K fuel listed Pm ⟨n, ds, (t', .bool false) :: e⟩ w) :
    DO P ro ops K fuel listed Pm ⟨n, ds, e⟩ w := .bif ht (fun h => h1 (by simpa using h)) (fun h => h2 (by simpa using h))
def DE (P : Program) (ro : Option Nat) (ops : Array Oper) (K : FS → World → Prop) (fuel : Nat) (listed : List Bool) (i : Nat) (Pm : List Prom) (s : FS) (w : World) : Prop :=
  ∃ Pm', (∀ p ∈ Pm, bnd ops i p.1 = true ∨ p ∈ Pm') ∧ DO P ro ops K fuel listed Pm' s w
def keptP (ops : Array Oper) (i : Nat) : List Prom → List Prom
  | [] => []
  | p :: l => bif bnd ops i p.1 then keptP ops i l else p :: keptP ops i l
theorem DE.go {fuel i : Nat} {listed : List Bool} {Pm : List Prom} (h : DO P ro ops K fuel listed (keptP ops i Pm) s w) : DE P ro ops K fuel listed i Pm s w := by
  refine ⟨_, fun p hp => ?_, h⟩
  clear h
  induction Pm with
  | nil => cases hp
  | cons q l ih =>
    unfold keptP
    cases hb : bnd ops i q.1 with
    | true =>
      simp only [cond_true]
      cases hp with
      | head => exact .inl hb
      | tail _ hp => exact ih hp
    | false =>
      simp only [cond_false]
      cases hp with
      | head => exact .inr (.head _)
      | tail _ hp => exact (ih hp).imp id (fun h => .tail _ h)
theorem OJ.inI {dst : Option Tmp} {g : Option (Nat × Bool)} {fuel i : Nat} {listed : List Bool} {Pm : List Prom} {a : Act} (hi : ops[i]? = some ⟨dst, op, ty, pos, aft, g⟩)
    (hw : Region.wanted ⟨dst, op, ty, pos, aft, g⟩ (yielded ops a.tmps) = true) (ha : Sim s a)
    (h : OJ P ro ⟨dst, op, ty, pos, aft, none⟩ (DE P ro ops K fuel (listed.set i true) i Pm) s w) :
    wpOpIn (FW ro) 0 P ops (fun _ _ _ => False) i (fun a' w' => ∃ Pm' : List Prom, (∀ p ∈ Pm, bnd ops i p.1 = true ∨ p ∈ Pm') ∧ Hold Pm' w' ∧ AnyI P ro ops (fun a w => ∃ s, Sim s a ∧ K s w) fuel (listed.toArray.setIfInBounds i true) Pm' a' w') a w := by
  unfold wpOpIn
  simp only [hi, hw, if_true]
  have h1 := h a ha
  have h2 : Oper.wpIn (FW ro) 0 P ⟨dst, op, ty, pos, aft, g⟩ a w (fun a' w' => ∃ s', Sim s' a' ∧ DE P ro ops K fuel (listed.set i true) i Pm s' w') (fun _ _ _ => False) := h1
  refine Oper.wpIn_mono (fun a' w' ⟨s', g1, Pm', g2, g3⟩ => ⟨Pm', g2, g3.1, ?_⟩) h2
  have := g3.2 a' g1
  simpa using this
theorem DO.e1 {dst : Option Tmp} {fuel i : Nat} {g : Option (Nat × Bool)} {listed listed' : List Bool} {Pm : List Prom} (hr : Region.ready .any ops listed.toArray = [i]) (hi : ops[i]? = some ⟨dst, op, ty, pos, aft, g⟩) (hl : listed.set i true = listed') (hg : GOk ops e g) (hs : St H w σ)
    (h : OJ P ro ⟨dst, op, ty, pos, aft, none⟩ (DE P ro ops K fuel listed' i Pm) ⟨n, ds, e⟩ w)
    (hp : PSub H σ Pm := by repeat (first | exact .nil | refine .cons (by first | exact HLe.bot _ | exact HLe.refl _ | assumption) (by repeat constructor) ?_)) : DO P ro ops K (fuel + 1) listed Pm ⟨n, ds, e⟩ w := by
  subst hl
  have hI := hp.hold hs
  refine ⟨hI, fun a ha => ⟨hI, fun h0 => (by rw [hr] at h0; cases h0), fun j hj => ?_⟩⟩
  rw [hr] at hj
  obtain rfl : j = i := by simpa using hj
  exact OJ.inI hi (hg.wanted ha) ha h
theorem DO.e2 {d1 d2 : Option Tmp} {o1 o2 : Op} {t1 t2 : TypeId} {p1 p2 : String} {a1 a2 : Array Edge} {g1 g2 : Option (Nat × Bool)} {fuel i j : Nat} {l1 l2 listed : List Bool} {Pm : List Prom} (hr : Region.ready .any ops listed.toArray = [i, j])
    (hi : ops[i]? = some ⟨d1, o1, t1, p1, a1, g1⟩) (hj : ops[j]? = some ⟨d2, o2, t2, p2, a2, g2⟩) (hl1 : listed.set i true = l1) (hl2 : listed.set j true = l2) (hg1 : GOk ops e g1) (hg2 : GOk ops e g2) (hs : St H w σ)
    (h1 : OJ P ro ⟨d1, o1, t1, p1, a1, none⟩ (DE P ro ops K fuel l1 i Pm) ⟨n, ds, e⟩ w) (h2 : OJ P ro ⟨d2, o2, t2, p2, a2, none⟩ (DE P ro ops K fuel l2 j Pm) ⟨n, ds, e⟩ w)
    (hp : PSub H σ Pm := by repeat (first | exact .nil | refine .cons (by first | exact HLe.bot _ | exact HLe.refl _ | assumption) (by repeat constructor) ?_)) : DO P ro ops K (fuel + 1) listed Pm ⟨n, ds, e⟩ w := by
  subst hl1; subst hl2
  have hI := hp.hold hs
  refine ⟨hI, fun a ha => ⟨hI, fun h0 => (by rw [hr] at h0; cases h0), fun k hk => ?_⟩⟩
  rw [hr] at hk
  simp only [List.mem_cons, List.not_mem_nil, or_false] at hk
  rcases hk with rfl | rfl
  · exact OJ.inI hi (hg1.wanted ha) ha h1
  · exact OJ.inI hj (hg2.wanted ha) ha h2
theorem DO.e3 {d1 d2 d3 : Option Tmp} {o1 o2 o3 : Op} {t1 t2 t3 : TypeId} {p1 p2 p3 : String} {a1 a2 a3 : Array Edge} {g1 g2 g3 : Option (Nat × Bool)} {fuel i j m : Nat} {l1 l2 l3 listed : List Bool} {Pm : List Prom} (hr : Region.ready .any ops listed.toArray = [i, j, m])
    (hi : ops[i]? = some ⟨d1, o1, t1, p1, a1, g1⟩) (hj : ops[j]? = some ⟨d2, o2, t2, p2, a2, g2⟩) (hm : ops[m]? = some ⟨d3, o3, t3, p3, a3, g3⟩) (hl1 : listed.set i true = l1) (hl2 : listed.set j true = l2) (hl3 : listed.set m true = l3) (hg1 : GOk ops e g1) (hg2 : GOk ops e g2) (hg3 : GOk ops e g3) (hs : St H w σ)
    (h1 : OJ P ro ⟨d1, o1, t1, p1, a1, none⟩ (DE P ro ops K fuel l1 i Pm) ⟨n, ds, e⟩ w) (h2 : OJ P ro ⟨d2, o2, t2, p2, a2, none⟩ (DE P ro ops K fuel l2 j Pm) ⟨n, ds, e⟩ w) (h3 : OJ P ro ⟨d3, o3, t3, p3, a3, none⟩ (DE P ro ops K fuel l3 m Pm) ⟨n, ds, e⟩ w)
    (hp : PSub H σ Pm := by repeat (first | exact .nil | refine .cons (by first | exact HLe.bot _ | exact HLe.refl _ | assumption) (by repeat constructor) ?_)) : DO P ro ops K (fuel + 1) listed Pm ⟨n, ds, e⟩ w := by
  subst hl1; subst hl2; subst hl3
  have hI := hp.hold hs
  refine ⟨hI, fun a ha => ⟨hI, fun h0 => (by rw [hr] at h0; cases h0), fun k hk => ?_⟩⟩
  rw [hr] at hk
  simp only [List.mem_cons, List.not_mem_nil, or_false] at hk
  rcases hk with rfl | rfl | rfl
  · exact OJ.inI hi (hg1.wanted ha) ha h1
  · exact OJ.inI hj (hg2.wanted ha) ha h2
  · exact OJ.inI hm (hg3.wanted ha) ha h3
theorem WE.cut {c d : Code} (M : FS → World → Prop) (h : WE P ro c (thn M Q) s w) (k : ∀ s w, M s w → WE P ro d Q s w) : WE P ro (.seq c d) Q s w :=
  .seq (h.mono fun x s w hx => by cases x <;> first | exact k s w hx | exact hx)
end Go.MW

namespace Go.MW
variable {P : Program} {ro : Option Nat} {Q : Exit → FS → World → Prop} {K : FS → World → Prop} {ops : Array Oper} {s : FS} {w : World}
  {H : Heap} {σ τ : List Ent} {n d : Nat} {ds : List Deferred} {e : List (Nat × Value)} {ty t : TypeId} {pos : String} {aft : Array Edge} {v : Value} {x y : Operand}
def Yd (P : Program) (l : Nat) (vs : List Value) (w : World) (R : Value → World → Prop) : Prop :=
  ∃ fn tmps assign body, (Instr.yield l vs.toArray).run P w = .ok (.round l fn tmps assign body) w ∧ RoundIn (FW none) 0 P l fn tmps assign body w (fun e w' => ∃ v, e = .returned v ∧ R v w')
theorem Yd.mono {l : Nat} {vs : List Value} {R R' : Value → World → Prop} (h : Yd P l vs w R) (hr : ∀ v w', R v w' → R' v w') : Yd P l vs w R' := by
  obtain ⟨fn, tmps, assign, body, h1, h2⟩ := h
  exact ⟨fn, tmps, assign, body, h1, RoundIn.mono h2 fun _ _ ⟨v, a, b⟩ => ⟨v, a, hr _ _ b⟩⟩
theorem OJ.yield {l : Nat} {fx : Operand} {args : List Operand} {vs : List Value} {ts : Array TypeId} {R : Value → World → Prop} (hf : FS.ev ⟨n, ds, e⟩ fx = some (.func (.yield l) #[] #[])) (hv : evs ⟨n, ds, e⟩ args = some vs)
    (h : Yd P l vs w R) (k : ∀ v w', R v w' → K ⟨n, ds, (d, v) :: e⟩ w') (hd : Nat.blt d n = true := by rfl) :
    OJ P ro ⟨some d, .call ⟨.value fx, args.toArray, ts⟩, ty, pos, aft, none⟩ K ⟨n, ds, e⟩ w := fun a ha => by
  refine ⟨fun _ _ => trivial, ?_⟩
  rw [Oper.semAt_eq _ _ _ (by simp)]
  obtain ⟨fn, tmps, assign, body, h1, h2⟩ := h
  simp only [execOp, resolve, List.map_toArray, evs_map ha hv, ha.ev hf, Deferred.ofValue, Sem.run_bind, Sem.run_pure, Result.andThen, invoke]
  have h3 : (#[] ++ vs.toArray : Array Value) = vs.toArray := by simp
  rw [h3, h1]
  refine ⟨fun h => (by cases h), ?_⟩
  have h4 : RoundIn (FW ro) 0 P l fn tmps assign body w (fun e w' => ∃ v, e = .returned v ∧ R v w') := h2
  refine RoundIn.mono h4 fun en w' ⟨v, g1, g2⟩ => ?_
  subst g1
  exact ⟨_, ha.put hd v, k v w' g2⟩
def Iter (P : Program) (gf : FuncId) (cap : List Value) (H : Heap) (xs : List (List Value)) : Prop :=
  ∀ (l : Nat) (I : Nat → Heap → List Ent → Prop) (Ix : Heap → List Ent → Prop),
    (∀ k H1 H2 σ, HLe H1 H2 → I k H1 σ → I k H2 σ) → (∀ H1 H2 σ, HLe H1 H2 → Ix H1 σ → Ix H2 σ) →
    (∀ k (hk : k < xs.length) H' σb σf w, HLe H H' → I k H' σb → St H' w (σb ++ σf) →
      Yd P l xs[k] w fun v w' => ∃ H'' σb', HLe H' H'' ∧ St H'' w' (σb' ++ σf) ∧ ((v = .bool true ∧ I (k + 1) H'' σb') ∨ (v = .bool false ∧ Ix H'' σb'))) →
    ∀ H' σb σf w, HLe H H' → I 0 H' σb → St H' w (σb ++ σf) →
      Cl P gf ([.func (.yield l) #[] #[]] ++ cap) w fun _ w' => ∃ H'' σb', HLe H' H'' ∧ St H'' w' (σb' ++ σf) ∧ (I xs.length H'' σb' ∨ Ix H'' σb')
def IterE (P : Program) (gf : FuncId) (cap : List Value) (H : Heap) (N : Nat) (E : Nat → Heap → List Value → Prop) : Prop :=
  ∀ (l : Nat) (I : Nat → Heap → List Ent → Prop) (Ix : Heap → List Ent → Prop),
    (∀ k H1 H2 σ, HLe H1 H2 → I k H1 σ → I k H2 σ) → (∀ H1 H2 σ, HLe H1 H2 → Ix H1 σ → Ix H2 σ) →
    (∀ k (_ : k < N) z H' σb σf w, HLe H H' → E k H' z → I k H' σb → St H' w (σb ++ σf) →
      Yd P l z w fun v w' => ∃ H'' σb', HLe H' H'' ∧ St H'' w' (σb' ++ σf) ∧ ((v = .bool true ∧ I (k + 1) H'' σb') ∨ (v = .bool false ∧ Ix H'' σb'))) →
    ∀ H' σb σf w, HLe H H' → I 0 H' σb → St H' w (σb ++ σf) →
      Cl P gf ([.func (.yield l) #[] #[]] ++ cap) w fun _ w' => ∃ H'' σb', HLe H' H'' ∧ St H'' w' (σb' ++ σf) ∧ (I N H'' σb' ∨ Ix H'' σb')
theorem Iter.toE {gf : FuncId} {cap : List Value} {xs : List (List Value)} (h : Iter P gf cap H xs) : IterE P gf cap H xs.length (fun k _ z => xs[k]? = some z) :=
  fun l I Ix hmI hmX hy => h l I Ix hmI hmX fun k hk H' σb σf w h1 h2 h3 => hy k hk _ H' σb σf w h1 (List.getElem?_eq_getElem hk) h2 h3
theorem Iter.mono {gf : FuncId} {cap : List Value} {H H' : Heap} {xs : List (List Value)} (h : Iter P gf cap H xs) (hl : HLe H H') : Iter P gf cap H' xs :=
  fun l I Ix hmI hmX hy H1 σb σf w h1 h2 h3 =>
    (h l (fun k H2 σb => HLe H' H2 ∧ I k H2 σb) Ix (fun k _ _ σ g1 g2 => ⟨g2.1.trans g1, hmI k _ _ σ g1 g2.2⟩) hmX (fun k hk H2 σb σf w _ h5 h6 =>
      (hy k hk H2 σb σf w h5.1 h5.2 h6).mono fun _ _ ⟨H3, σ3, g1, g2, g3⟩ =>
        ⟨H3, σ3, g1, g2, g3.imp (fun ⟨g4, g5⟩ => ⟨g4, h5.1.trans g1, g5⟩) id⟩) H1 σb σf w (hl.trans h1) ⟨h1, h2⟩ h3).mono
      fun _ _ ⟨H3, σ3, g1, g2, g3⟩ => ⟨H3, σ3, g1, g2, g3.imp (fun g => g.2) id⟩
def setPs : List Nat → List Value → List (Nat × Value) → List (Nat × Value)
  | p :: ps, v :: vs, e => setPs ps vs ((p, v) :: e)
  | _, _, e => e
theorem Sim.setPs {n : Nat} (ps : List Nat) (vs : List Value) (e : List (Nat × Value)) (tmps : Array Value) (hp : ps.all (Nat.blt · n) = true) (h : Sim ⟨n, [], e⟩ ⟨tmps, []⟩) :
    Sim ⟨n, [], setPs ps vs e⟩ ⟨(ps.toArray.zip vs.toArray).foldl (fun t (p, v) => t.setIfInBounds p v) tmps, []⟩ := by
  have h0 : ps.toArray.zip vs.toArray = (ps.zip vs).toArray := by simp
  rw [h0, List.foldl_toArray]
  induction ps generalizing vs e tmps with
  | nil => simpa [MW.setPs] using h
  | cons p ps ih =>
    cases vs with
    | nil => simpa [MW.setPs] using h
    | cons v vs =>
      simp only [List.all_cons, Bool.and_eq_true] at hp
      have := ih vs ((p, v) :: e) (tmps.setIfInBounds p v) hp.2 (h.put hp.1 v) (by simp)
      simpa [MW.setPs] using this
def BPost (I : Nat → Heap → List Ent → Prop) (Ix : Code → Heap → List Ent → Prop) (k : Nat) (H1 : Heap) (σf : List Ent) : Exit → FS → World → Prop
  | .normal, _, w => ∃ H2 σb, HLe H1 H2 ∧ St H2 w (σb ++ σf) ∧ I (k + 1) H2 σb
  | .ret, _, w => ∃ H2 σb, HLe H1 H2 ∧ St H2 w (σb ++ σf) ∧ Ix .ret H2 σb
  | .exit i, _, w => ∃ H2 σb, HLe H1 H2 ∧ St H2 w (σb ++ σf) ∧ Ix (.exit i) H2 σb
  | .goto _, _, _ => False
  | .panic _, _, _ => False
  | .outgrown, _, _ => False
def Outer (ro : Option Nat) (σf : List Ent) : Prop :=
  match ro with
  | none => True
  | some l0 => ∃ r0, Mem σf (.obj l0 (.loop r0))
def markOf (ro : Option Nat) (D : Nat) : List Deferred :=
  match ro with
  | none => [{ target := .collected D, args := #[] }]
  | some _ => []
def entOf (ro : Option Nat) (D : Nat) : Ent :=
  match ro with
  | none => .obj D (.deferred (some []))
  | some _ => .nul
theorem WE.rangeE {g : Operand} {ps : List Nat} {assign body : Code} {gf : FuncId} {cap : List Value} {N : Nat} {E : Nat → Heap → List Value → Prop} {σb σf : List Ent} (hs : St H w (σb ++ σf)) (ho : Outer ro σf)
    (hx : FS.ev ⟨n, ds, e⟩ g = some (.func (.func gf) #[] cap.toArray)) (hit : IterE P gf cap H N E) (hc : ∀ args w, (callFunc gf args).run P w = .ok (.enter gf args) w) (hps : ∀ k H' z, E k H' z → z.length = ps.length) (hp : ps.all (Nat.blt · n) = true)
    (I : Nat → Heap → List Ent → Prop) (Ix : Code → Heap → List Ent → Prop) (hmI : ∀ k H1 H2 σ, HLe H1 H2 → I k H1 σ → I k H2 σ) (hmX : ∀ c H1 H2 σ, HLe H1 H2 → Ix c H1 σ → Ix c H2 σ) (h0 : I 0 H σb)
    (hbody : ∀ l k (_ : k < N) z H' σb σf' w, HLe H H' → E k H' z → I k H' σb → St H' w (σb ++ σf') → (∃ r, Mem σf' (.obj l (.loop r))) →
      WE P (some l) assign (thn (fun s1 w1 => ∃ H1 σ1, HLe H' H1 ∧ St H1 w1 (σ1 ++ σf') ∧ ∀ w2 σf2, (∃ r, Mem σf2 (.obj l (.loop r))) → St H1 w2 (σ1 ++ σf2) → WE P (some l) body (BPost I Ix k H1 σf2) s1 w2) (fun _ _ _ => False))
        ⟨n, [], setPs ps z e⟩ w)
    (hdone : ∀ D H' σb w, HLe H H' → I N H' σb → St H' w (entOf ro D :: (σb ++ σf)) → Q .normal ⟨n, markOf ro D ++ ds, e⟩ w)
    (hstop : ∀ D c H' σb w, HLe H H' → Ix c H' σb → St H' w (entOf ro D :: (σb ++ σf)) → WE P ro c Q ⟨n, markOf ro D ++ ds, e⟩ w) :
    WE P ro (.rangeFunc g ps.toArray assign body) Q ⟨n, ds, e⟩ w := fun a ha => by
  refine wpIn_rangeFunc fun fn _ => ?_
  obtain ⟨D, l, w1, rec, hrec, hent, hst, hrun⟩ : ∃ (D l : Nat) (w1 : World) (rec : LoopState → Option Code → Loop),
      (∀ st pe, rec st pe = { state := st, pending := pe, fn, tmps := a.tmps, params := ps.toArray, assign, body, defers := (rec .ready none).defers }) ∧ True ∧
      St H w1 (.obj l (.loop (rec .ready none)) :: entOf ro D :: (σb ++ σf)) ∧ (Instr.enterLoop fn a.tmps ps.toArray assign body ro).run P w = .ok (l, markOf ro D) w1 := by
    cases ro with
    | none =>
      refine ⟨w.heap.size, w.heap.size + 1, _, fun st pe => { state := st, pending := pe, fn, tmps := a.tmps, params := ps.toArray, assign, body, defers := w.heap.size }, fun _ _ => rfl, trivial, ?_, run_enterLoop_outer _ _ _ _ _⟩
      have h1 := (hs.newObj (.deferred (some []))).newObj (.loop { state := .ready, pending := none, fn, tmps := a.tmps, params := ps.toArray, assign, body, defers := w.heap.size })
      simp only [Array.size_push] at h1
      exact h1
    | some l0 =>
      obtain ⟨r0, hm⟩ := ho
      have hl : w.heap[l0]? = some (.loop r0) := hs.own (.obj l0 (.loop r0)) (List.mem_append_right _ hm.mem)
      refine ⟨0, w.heap.size, _, fun st pe => { state := st, pending := pe, fn, tmps := a.tmps, params := ps.toArray, assign, body, defers := r0.defers }, fun _ _ => rfl, trivial, ?_, run_enterLoop_inner hl _ _ _ _ _⟩
      have h1 := hs.nul.newObj (.loop { state := .ready, pending := none, fn, tmps := a.tmps, params := ps.toArray, assign, body, defers := r0.defers })
      exact h1
  have hmv : ∀ (o : Obj) (H' : Heap) (w : World) (σ : List Ent), St H' w (σ ++ (.obj l o :: entOf ro D :: σf)) → St H' w (.obj l o :: entOf ro D :: (σ ++ σf)) := fun o H' w σ h =>
    h.perm (by
      have : (σ ++ (Ent.obj l o :: entOf ro D :: σf)).Perm ((Ent.obj l o :: entOf ro D :: σf) ++ σ) := List.perm_append_comm
      refine this.trans ?_
      simp only [List.cons_append]
      exact (List.Perm.cons _ (List.Perm.cons _ List.perm_append_comm)))
  have hmv' : ∀ (o : Obj) (H' : Heap) (w : World) (σ : List Ent), St H' w (.obj l o :: entOf ro D :: (σ ++ σf)) → St H' w (σ ++ (.obj l o :: entOf ro D :: σf)) := fun o H' w σ h =>
    h.perm (by
      have : (σ ++ (Ent.obj l o :: entOf ro D :: σf)).Perm ((Ent.obj l o :: entOf ro D :: σf) ++ σ) := List.perm_append_comm
      refine List.Perm.symm (this.trans ?_)
      simp only [List.cons_append]
      exact (List.Perm.cons _ (List.Perm.cons _ List.perm_append_comm)))
  have hs1 : (rec .ready none).state = .ready := by rw [hrec]
  have hs2 : ∀ c, (rec .done (some c)).state = .done := fun c => by rw [hrec]
  have hpn : (rec .ready none).pending = none := by rw [hrec]
  have hpd : ∀ c, (rec .done (some c)).pending = some c := fun c => by rw [hrec]
  refine ⟨l, markOf ro D, w1, { target := .fn (.func gf) cap.toArray, args := #[.func (.yield l) #[] #[]] }, w1, gf, #[.func (.yield l) #[] #[]] ++ cap.toArray, w1, hrun, ?_, fun _ _ => trivial, ?_, fun h => (by cases h), ?_⟩
  · simp only [resolve, ha.ev hx, Deferred.ofValue]; simp [Act.eval]
  · simp only [invoke]; exact hc _ _
  have hcall := hit l (fun k H' σ => ∃ σ', σ = σ' ++ [.obj l (.loop (rec .ready none))] ∧ I k H' σ') (fun H' σ => ∃ σ' c, σ = σ' ++ [.obj l (.loop (rec .done (some c)))] ∧ Ix c H' σ') (fun k _ _ σ g1 ⟨σ', g2, g3⟩ => ⟨σ', g2, hmI k _ _ σ' g1 g3⟩) (fun _ _ σ g1 ⟨σ', c, g2, g3⟩ => ⟨σ', c, g2, hmX c _ _ σ' g1 g3⟩) ?_
    H (σb ++ [.obj l (.loop (rec .ready none))]) (entOf ro D :: σf) w1 (HLe.refl H) ⟨σb, rfl, h0⟩ (by have := hmv' _ _ _ _ hst; simpa using this)
  · have e0 : (#[Value.func (.yield l) #[] #[]] ++ cap.toArray : Array Value) = ([Value.func (.yield l) #[] #[]] ++ cap).toArray := by simp
    rw [e0]
    refine CallsIn.mono (callsIn_FW hcall) ?_
    rintro en w2 ⟨v, rfl, H2, σ2, hle, hst2, hcase⟩
    rcases hcase with ⟨σ', rfl, hi⟩ | ⟨σ', c, rfl, hix⟩
    · have h3 : St H2 w2 (.obj l (.loop (rec .ready none)) :: entOf ro D :: (σ' ++ σf)) := hmv _ _ _ _ (by simpa using hst2)
      have hl : w2.heap[l]? = some (.loop (rec .ready none)) := h3.own _ (.head _)
      have he := run_endLoop (P := P) hl (by rw [hs1]; simp)
      refine ⟨none, _, he.trans (congrArg (fun p => Result.ok p _) hpn), ?_⟩
      have h4 := (h3.putObj (o' := .loop { rec .ready none with state := .exhausted }) .here).tail
      refine ⟨⟨n, markOf ro D ++ ds, e⟩, ⟨ha.size, by simp [ha.ds], ha.val⟩, hdone D H2 σ' _ hle hi h4⟩
    · have h3 : St H2 w2 (.obj l (.loop (rec .done (some c))) :: entOf ro D :: (σ' ++ σf)) := hmv _ _ _ _ (by simpa using hst2)
      have hl : w2.heap[l]? = some (.loop (rec .done (some c))) := h3.own _ (.head _)
      have he := run_endLoop (P := P) hl (by rw [hs2 c]; simp)
      refine ⟨some c, _, he.trans (congrArg (fun p => Result.ok p _) (hpd c)), ?_⟩
      have h4 := (h3.putObj (o' := .loop { rec .done (some c) with state := .exhausted }) .here).tail
      exact hstop D c H2 σ' _ hle hix h4 _ ⟨ha.size, by simp [ha.ds], ha.val⟩
  ·
    rintro k hk z H1 σ1 σf1 w2 hle hE ⟨σ', rfl, hi⟩ hst2
    have hmem : ∀ (σ : List Ent) (o : Obj), Mem (.obj l o :: σ) (.obj l o) := fun _ _ => .here
    have h3 : St H1 w2 (σ' ++ (.obj l (.loop (rec .ready none)) :: σf1)) := by simpa using hst2
    have hl : w2.heap[l]? = some (.loop (rec .ready none)) := h3.own _ (List.mem_append_right _ (.head _))
    have hy := run_yield (P := P) (args := z.toArray) hl (by rw [hrec]; simp [hps _ _ _ hE])
    refine ⟨_, _, _, _, hy, roundIn_of_wpIn trivial ?_⟩
    have hsim : Sim ⟨n, [], e⟩ ⟨a.tmps, []⟩ := ⟨ha.size, rfl, ha.val⟩
    have hsim2 := Sim.setPs ps z e a.tmps hp hsim
    have hb := hbody l k hk z H1 σ' (.obj l (.loop (rec .ready none)) :: σf1) w2 hle hE hi h3 ⟨_, .here⟩ _ hsim2
    have hr1 : (rec .ready none).params = ps.toArray := by rw [hrec]
    have hr2 : (rec .ready none).tmps = a.tmps := by rw [hrec]
    have hr3 : (rec .ready none).assign = assign := by rw [hrec]
    have hr4 : (rec .ready none).body = body := by rw [hrec]
    simp only [hr1, hr2, hr3, hr4]
    refine wpIn_mono hb ?_
    rintro x a1 w3 ⟨s1, hs1, hx1⟩
    cases x with
    | normal =>
      obtain ⟨H2, σ2, hle2, hst3, hbd⟩ := hx1
      have hl3 : w3.heap[l]? = some (.loop (rec .ready none)) := hst3.own _ (List.mem_append_right _ (.head _))
      have hbr := run_beginRound (P := P) hl3 (by rw [hrec])
      have hput : ∀ (o o' : Obj) (H' : Heap) (w : World) (σ : List Ent), St H' w (σ ++ (.obj l o :: σf1)) → St H' (w.putObj l o') (σ ++ (.obj l o' :: σf1)) := fun o o' H' w σ h => by
        have hu : ∀ σ : List Ent, Upd (σ ++ (.obj l o :: σf1)) (.obj l o) (.obj l o') (σ ++ (.obj l o' :: σf1)) := fun σ => by
          induction σ with
          | nil => exact .here
          | cons x σ ih => exact .there ih
        exact h.putObj (hu σ)
      have hst4 := hput _ (.loop { rec .ready none with state := .busy }) _ _ _ hst3
      have hbody2 := hbd _ _ ⟨_, .here⟩ hst4 a1 hs1
      refine ⟨_, hbr, wpIn_mono hbody2 ?_⟩
      have fin : ∀ (jump : Option Code) (H3 : Heap) (σ3 : List Ent) (w4 : World), St H3 w4 (σ3 ++ (.obj l (.loop { rec .ready none with state := .busy }) :: σf1)) →
          (Instr.endRound l jump).run P w4 = .ok (.bool jump.isNone) (w4.putObj l (.loop (rec (if jump.isNone then .ready else .done) jump))) ∧
          St H3 (w4.putObj l (.loop (rec (if jump.isNone then .ready else .done) jump))) (σ3 ++ (.obj l (.loop (rec (if jump.isNone then .ready else .done) jump)) :: σf1)) := fun jump H3 σ3 w4 h5 => by
        have hl5 : w4.heap[l]? = some (.loop { rec .ready none with state := .busy }) := h5.own _ (List.mem_append_right _ (.head _))
        have h6 := run_endRound (P := P) jump hl5
        have e6 : ({ ({ rec .ready none with state := .busy } : Loop) with state := if jump.isNone then .ready else .done, pending := jump } : Loop) = rec (if jump.isNone then .ready else .done) jump := by
          rw [hrec (if jump.isNone then .ready else .done) jump, hrec .ready none]
        rw [e6] at h6
        exact ⟨h6, hput _ _ _ _ _ h5⟩
      rintro x a2 w4 ⟨s2, hs2, hx2⟩
      cases x with
      | normal =>
        obtain ⟨H3, σ3, g1, g2, g3⟩ := hx2
        obtain ⟨g4, g5⟩ := fin none H3 σ3 w4 g2
        exact ⟨_, _, g4, _, rfl, H3, σ3 ++ [.obj l (.loop (rec .ready none))], hle2.trans g1, by simpa using g5, .inl ⟨rfl, σ3, rfl, g3⟩⟩
      | ret =>
        obtain ⟨H3, σ3, g1, g2, g3⟩ := hx2
        obtain ⟨g4, g5⟩ := fin (some .ret) H3 σ3 w4 g2
        exact ⟨_, _, g4, _, rfl, H3, σ3 ++ [.obj l (.loop (rec .done (some .ret)))], hle2.trans g1, by simpa using g5, .inr ⟨rfl, σ3, _, rfl, g3⟩⟩
      | exit i =>
        obtain ⟨H3, σ3, g1, g2, g3⟩ := hx2
        obtain ⟨g4, g5⟩ := fin (some (.exit i)) H3 σ3 w4 g2
        exact ⟨_, _, g4, _, rfl, H3, σ3 ++ [.obj l (.loop (rec .done (some (.exit i))))], hle2.trans g1, by simpa using g5, .inr ⟨rfl, σ3, _, rfl, g3⟩⟩
      | _ => exact hx2.elim
    | _ => exact hx1.elim
theorem WE.rangeFunc {g : Operand} {ps : List Nat} {assign body : Code} {gf : FuncId} {cap : List Value} {xs : List (List Value)} {σb σf : List Ent} (hs : St H w (σb ++ σf)) (ho : Outer ro σf)
    (hx : FS.ev ⟨n, ds, e⟩ g = some (.func (.func gf) #[] cap.toArray)) (hit : Iter P gf cap H xs) (hc : ∀ args w, (callFunc gf args).run P w = .ok (.enter gf args) w) (hps : ∀ x ∈ xs, x.length = ps.length) (hp : ps.all (Nat.blt · n) = true)
    (I : Nat → Heap → List Ent → Prop) (Ix : Code → Heap → List Ent → Prop) (hmI : ∀ k H1 H2 σ, HLe H1 H2 → I k H1 σ → I k H2 σ) (hmX : ∀ c H1 H2 σ, HLe H1 H2 → Ix c H1 σ → Ix c H2 σ) (h0 : I 0 H σb)
    (hbody : ∀ l k (hk : k < xs.length) H' σb σf' w, HLe H H' → I k H' σb → St H' w (σb ++ σf') → (∃ r, Mem σf' (.obj l (.loop r))) →
      WE P (some l) assign (thn (fun s1 w1 => ∃ H1 σ1, HLe H' H1 ∧ St H1 w1 (σ1 ++ σf') ∧ ∀ w2 σf2, (∃ r, Mem σf2 (.obj l (.loop r))) → St H1 w2 (σ1 ++ σf2) → WE P (some l) body (BPost I Ix k H1 σf2) s1 w2) (fun _ _ _ => False))
        ⟨n, [], setPs ps xs[k] e⟩ w)
    (hdone : ∀ D H' σb w, HLe H H' → I xs.length H' σb → St H' w (entOf ro D :: (σb ++ σf)) → Q .normal ⟨n, markOf ro D ++ ds, e⟩ w)
    (hstop : ∀ D c H' σb w, HLe H H' → Ix c H' σb → St H' w (entOf ro D :: (σb ++ σf)) → WE P ro c Q ⟨n, markOf ro D ++ ds, e⟩ w) :
    WE P ro (.rangeFunc g ps.toArray assign body) Q ⟨n, ds, e⟩ w :=
  .rangeE (N := xs.length) (E := fun k _ z => xs[k]? = some z) hs ho hx hit.toE hc (fun _ _ z hz => hps z (List.mem_of_getElem? hz)) hp I Ix hmI hmX h0
    (fun l k hk z H' σb σf' w h1 h2 h3 h4 h5 => by
      obtain ⟨h6, rfl⟩ := List.getElem?_eq_some_iff.1 h2
      exact hbody l k hk H' σb σf' w h1 h3 h4 h5) hdone hstop
end Go.MW

namespace Go.MW
variable {P : Program} {ro : Option Nat} {Q : Exit → FS → World → Prop} {K : FS → World → Prop} {ops : Array Oper} {s : FS} {w : World}
  {H : Heap} {σ τ : List Ent} {n d : Nat} {ds : List Deferred} {e : List (Nat × Value)} {ty t : TypeId} {pos : String} {aft : Array Edge} {v : Value} {x y : Operand}
theorem bldOf {z : Value} {zl : List Value} {fs : Array Field} {pl : List (Nat × Nat)} (hz : ∀ w, (zeroValue t).run P w = .ok z w) (hzc : z.cells = zl.toArray) (hu : ∀ w, (underlying t).run P w = .ok (.struct fs) w)
    (hp : ∀ w, (fs.mapM (fun f => do pure (f.offset, ← sizeOf f.type) : Field → Sem (Nat × Nat))).run P w = .ok pl.toArray w) : BldT P t pl zl := fun parts cells w hc => by
  unfold Instr.build
  have e1 : (fun i : Nat => pl.toArray[i]?) = (fun i : Nat => pl[i]?) := by funext i; simp
  simp only [Sem.run_bind, hz w, Result.andThen, hzc, hu w, hp w, e1, hc, Sem.run_pure]
theorem blsOf {z : Value} {zs : List Value} {elem : TypeId} {len m : Nat} (hu : ∀ w, (underlying t).run P w = .ok (.slice elem) w) (hz : ∀ w, (sizeOf elem).run P w = .ok m w) (hzv : ∀ w, (zeroValue elem).run P w = .ok z w)
    (hn : ¬ len * m > 2 ^ 24) (hzs : ((Array.range (len * m)).map fun i => (if len * m = 0 then #[] else z.cells)[i % (if len * m = 0 then #[] else z.cells).size]!) = zs.toArray) : BldS P t len m zs := fun parts cells w hc => by
  refine ⟨elem, ?_⟩
  unfold Instr.buildSlice
  simp only [Sem.run_bind, hu w, Result.andThen, hz w, hn, if_false]
  by_cases h0 : len * m = 0
  · simp only [h0, if_true] at hzs ⊢
    simp only [Sem.run_bind, Sem.run_pure, Result.andThen, hzs, hc, newRow, newObj, Sem.run]
  · simp only [h0, if_false] at hzs ⊢
    simp only [Sem.run_bind, Sem.run_pure, hzv w, Result.andThen, hzs, hc, newRow, newObj, Sem.run]
def Nx (n : Nat) (ds : List Deferred) (i m c c2 N k : Nat) (J : List (Nat × Value) → World → Prop) (s : FS) (w : World) : Prop :=
  ∃ fr, FSub s ⟨n, ds, (i, .int .i64 (k : Int)) :: (m, .int .i64 (N : Int)) :: fr⟩ ∧ (get fr c = none ∧ get fr c2 = none) ∧ J fr w
theorem Nx.mk {i m c c2 N k : Nat} {J : List (Nat × Value) → World → Prop} {fr : List (Nat × Value)} (h : J fr w) (hs : FSub s ⟨n, ds, (i, .int .i64 (k : Int)) :: (m, .int .i64 (N : Int)) :: fr⟩ := by repeat (first | exact .nil rfl rfl | refine .cons rfl ?_))
    (hc : get fr c = none ∧ get fr c2 = none := by exact ⟨rfl, rfl⟩) : Nx n ds i m c c2 N k J s w := ⟨fr, hs, hc, h⟩
theorem get_cons_ne {k i : Nat} {v : Value} {l : List (Nat × Value)} (h : Nat.beq k i = false) : get ((k, v) :: l) i = get l i := by simp only [get, h, cond_false]
theorem get_cons_eq {k : Nat} {v : Value} {l : List (Nat × Value)} : get ((k, v) :: l) k = some v := by simp only [get, Nat.beq_refl, cond_true]
theorem WE.for {b0 i m c c2 r1 r2 : Nat} {body : Code} {t1 t2 t3 t4 ty1 ty2 ty3 : TypeId} {p1 p2 p3 : String} {a1 a2 a3 : Array Edge} (N : Nat) (J : Nat → List (Nat × Value) → World → Prop) (hN : N ≤ 9223372036854775807)
    (h0 : Nx n ds i m c c2 N 0 (J 0) ⟨n, ds, e⟩ w)
    (hbody : ∀ k fr w, k < N → J k fr w → WE P ro body (thn (Nx n ds i m c c2 N k (J (k + 1))) (inB b0 Q)) ⟨n, ds, (c, .bool true) :: (i, .int .i64 (k : Int)) :: (m, .int .i64 (N : Int)) :: fr⟩ w)
    (hdone : ∀ fr w, J N fr w → Q .normal ⟨n, ds, (c, .bool false) :: (i, .int .i64 (N : Int)) :: (m, .int .i64 (N : Int)) :: fr⟩ w)
    (hc2m : Nat.beq c2 m = false := by rfl) (him : Nat.beq i m = false := by rfl)
    (hc : Nat.blt c n = true := by rfl) (hcc2 : Nat.blt c2 n = true := by rfl) (hi : Nat.blt i n = true := by rfl) :
    WE P ro (.block b0 (.loop (.seq (.region r1 #[⟨some c, .binOp .lss t1 (.tmp i) (.tmp m) t2, ty1, p1, a1, none⟩] false) (.seq (.cond (.tmp c) .skip (.exit b0)) (.seq body (.region r2 #[⟨some c2, .binOp .add t3 (.tmp i) (.const (.int .i64 1)) t4, ty2, p2, a2, none⟩, ⟨some i, .move (.tmp c2), ty3, p3, a3, none⟩] false)))))) Q ⟨n, ds, e⟩ w := by
  obtain ⟨fr0, hs0, hc0, hJ0⟩ := h0
  have sym : ∀ {a b : Nat}, Nat.beq a b = false → Nat.beq b a = false := fun {a b} h => beq_ne fun e => by subst e; rw [Nat.beq_refl] at h; cases h
  have trivSt : ∀ w : World, St .bot w [] := fun w => ⟨fun _ _ h => (by cases h), fun _ h => (by cases h), .nil, fun _ h => (by cases h), fun _ h => (by cases h)⟩
  refine .block ?_
  refine .loop (fun p : Nat × List (Nat × Value) => ⟨n, ds, (i, .int .i64 (p.1 : Int)) :: (m, .int .i64 (N : Int)) :: p.2⟩) (fun p w => p.1 ≤ N ∧ (get p.2 c = none ∧ get p.2 c2 = none) ∧ J p.1 p.2 w) (fun p => N - p.1) (0, fr0) hs0 ⟨Nat.zero_le _, hc0, hJ0⟩ ?_
  rintro ⟨k, fr⟩ w ⟨hk, hcl, hJ⟩
  dsimp only at hk hcl hJ ⊢
  have gi : ∀ l, get ((i, Value.int .i64 (k : Int)) :: l) i = some (.int .i64 (k : Int)) := fun _ => get_cons_eq
  have gm : ∀ l, get ((i, Value.int .i64 (k : Int)) :: (m, Value.int .i64 (N : Int)) :: l) m = some (.int .i64 (N : Int)) := fun _ => by rw [get_cons_ne him, get_cons_eq]
  refine .regSeq (.q (trivSt w) (q_lss (gi _) (gm _)) (.nil ?_) hc)
  by_cases hlt : k < N
  · refine .seq (.condT (b := decide ((k : Int) < (N : Int))) get_cons_eq (by simpa using hlt) (.skip ?_))
    have hb := hbody k fr w hlt hJ
    have e1 : decide ((k : Int) < (N : Int)) = true := by simpa using hlt
    rw [e1]
    refine .seq (hb.mono ?_)
    rintro x s' w' hx
    cases x with
    | normal =>
      obtain ⟨fr', hs', hc', hJ'⟩ := hx
      refine WE.sub ?_ hs'
      refine .region (.q (trivSt w') (q_addF (gi _) rfl (by omega)) (.q (trivSt w') (q_move get_cons_eq) (.nil ?_) hi) hcc2)
      refine ⟨(k + 1, fr'), ⟨rfl, rfl, fun t v ht => ?_⟩, ⟨by omega, hc', hJ'⟩, by dsimp only; omega⟩
      dsimp only at ht
      by_cases h1 : i = t
      · subst h1
        rw [get_cons_eq] at ht ⊢
        rw [← ht]; norm_cast
      · rw [get_cons_ne (beq_ne h1)] at ht ⊢
        by_cases h2 : c2 = t
        · subst h2
          rw [get_cons_ne (sym hc2m)] at ht
          rw [hc'.2] at ht; cases ht
        · rw [get_cons_ne (beq_ne h2), get_cons_ne (beq_ne h1)]
          exact ht
    | _ => exact hx
  · have hkn : k = N := by omega
    subst hkn
    refine .seq (.condF (b := decide ((k : Int) < (k : Int))) get_cons_eq (by simp) (.exit ?_))
    show inB b0 Q (.exit b0) _ _
    have e1 : decide ((k : Int) < (k : Int)) = false := by simp
    rw [e1]
    simp only [inB, Nat.beq_refl, cond_true]
    exact hdone fr w hJ
def RI (H : Heap) (v : Value) (xs : List Int) : Prop := RS H 1 v (xs.map fun x => [I x])
theorem RI.mono {H H' : Heap} {xs : List Int} (h : RI H v xs) (hl : HLe H H') : RI H' v xs := RS.mono h hl
theorem RI.shape {xs : List Int} (h : RI H v xs) : ∃ a cap, v = .slice a xs.length cap := by
  obtain ⟨a, cap, e⟩ := RS.shape h; exact ⟨a, cap, by simpa using e⟩
theorem RI.len {xs : List Int} {a : Option Addr} {len cap : Nat} (h : RI H (.slice a len cap) xs) : len = xs.length ∧ len ≤ cap ∧ len ≤ 9223372036854775807 := by
  have := RS.len h; simpa using this
theorem flatten_ones (xs : List Int) : (xs.map fun x => [I x]).flatten = Is xs := by
  induction xs with
  | nil => rfl
  | cons x xs ih => simp only [List.map_cons, List.flatten_cons, ih]; rfl
theorem Src.ints {xs : List Int} (h : RI H v xs) : Src P H σ 1 v xs.length (Is xs) := by
  have := Src.rs (P := P) (σ := σ) h
  rw [flatten_ones] at this; simpa using this
theorem Row.RI {H : Heap} {b : Nat} {xs : List Int} {spare : List Value} (h : Row H b (Is xs ++ spare)) (cap : Nat) (hl : xs.length ≤ cap) (hb : xs.length ≤ 9223372036854775807) : RI H (.slice (some ⟨b, 0, none⟩) xs.length cap) xs := by
  refine ⟨some ⟨b, 0, none⟩, cap, by simp, by simpa using hl, by simpa using hb, fun i c hi => ?_⟩
  simp only [List.getElem?_map, Option.map_eq_some_iff] at hi
  obtain ⟨x, hx, rfl⟩ := hi
  refine ⟨rfl, b, 0, rfl, fun j u hj => ?_⟩
  have hlt := (List.getElem?_eq_some_iff.1 hx).1
  cases j with
  | zero =>
    simp only [List.getElem?_cons_zero, Option.some.injEq] at hj
    subst hj
    rw [h.cell]
    rw [List.getElem?_append_left (by simp; omega)]
    simp [hx]
  | succ j => simp at hj
theorem OwnS.publish {m : Nat} {v : Value} {cs : List (List Value)} {en : Ent} {r : List Ent} (ho : OwnS m v cs.flatten en) (hm : ∀ c ∈ cs, c.length = m) (hm0 : 0 < m) (hl : cs.length ≤ 9223372036854775807) (hs : St H w σ) (hp : Pick σ en r) :
    ∃ H', HLe H H' ∧ RS H' m v cs ∧ St H' w r := by
  have hlen : ∀ l : List (List Value), (∀ c ∈ l, c.length = m) → l.flatten.length = l.length * m := by
    intro l
    induction l with
    | nil => intro _; simp
    | cons c l ih => intro hl; simp only [List.flatten_cons, List.length_append, List.length_cons, hl c (.head _), ih fun c hc => hl c (.tail _ hc), Nat.add_mul, Nat.one_mul]; omega
  rcases ho with ⟨a, rfl, h2, rfl⟩ | ⟨b, len, cap, spare, rfl, rfl, h3, h4, h5⟩
  · have : cs = [] := by
      cases cs with
      | nil => rfl
      | cons c cs => have := hlen _ hm; rw [h2] at this; simp [Nat.add_mul] at this; omega
    subst this
    exact ⟨H, HLe.refl H, RS.nil H m a 0, (hs.pick hp).tail⟩
  · obtain ⟨H', h6, h7, h8⟩ := hs.publish hp
    have hlc : len = cs.length := by
      have := hlen cs hm
      rw [h3] at this
      exact Nat.eq_of_mul_eq_mul_right hm0 this
    refine ⟨H', h6, ⟨some ⟨b, 0, none⟩, cap, by rw [hlc], by omega, by omega, fun i c hi => ⟨hm c (List.mem_of_getElem? hi), b, 0, rfl, fun j u hj => ?_⟩⟩, h8⟩
    rw [h7.cell, Nat.zero_add]
    have hjl := (List.getElem?_eq_some_iff.1 hj).1
    have key : ∀ (l : List (List Value)) (i : Nat) (c : List Value), (∀ c ∈ l, c.length = m) → l[i]? = some c → ∀ j u, c[j]? = some u → l.flatten[i * m + j]? = some u := by
      intro l
      induction l with
      | nil => intro i c _ h; simp at h
      | cons d l ih =>
        intro i c h1 h2 j u h3
        rw [List.flatten_cons]
        cases i with
        | zero =>
          simp only [List.getElem?_cons_zero, Option.some.injEq] at h2
          subst h2
          rw [Nat.zero_mul, Nat.zero_add, List.getElem?_append_left (List.getElem?_eq_some_iff.1 h3).1]; exact h3
        | succ i =>
          simp only [List.getElem?_cons_succ] at h2
          rw [List.getElem?_append_right (by rw [h1 d (.head _), Nat.add_mul]; omega), h1 d (.head _)]
          have := ih i c (fun c hc => h1 c (.tail _ hc)) h2 j u h3
          rwa [show (i + 1) * m + j - m = i * m + j from by rw [Nat.add_mul]; omega]
    have h9 := key cs i c hm hi j u hj
    rw [List.getElem?_append_left (List.getElem?_eq_some_iff.1 h9).1]
    exact h9
theorem OwnS.publishI {v : Value} {xs : List Int} {en : Ent} {r : List Ent} (ho : OwnS 1 v (Is xs) en) (hl : xs.length ≤ 9223372036854775807) (hs : St H w σ) (hp : Pick σ en r) : ∃ H', HLe H H' ∧ RI H' v xs ∧ St H' w r := by
  rw [← flatten_ones] at ho
  exact ho.publish (fun c hc => by simp only [List.mem_map] at hc; obtain ⟨x, _, rfl⟩ := hc; rfl) (by omega) (by simpa using hl) hs hp
theorem nth {α : Type} {l : List α} {k : Nat} (h : k < l.length) : ∃ x, l[k]? = some x := ⟨l[k], List.getElem?_eq_getElem h⟩
theorem WO.ixX {α : Type} {enc : α → List Value} {xs : List α} {m k : Nat} {x' : α} {elem : TypeId} {q : IntKind} {i : Int} {rest : List Oper} (hs : St H w σ) (hr : RS H m v (xs.map enc)) (hx : FS.ev ⟨n, ds, e⟩ x = some v) (hy : FS.ev ⟨n, ds, e⟩ y = some (.int q i))
    (hu : ∀ w, (underlying t).run P w = .ok (.slice elem) w) (hz : ∀ w, (sizeOf elem).run P w = .ok m w) (hk : xs[k]? = some x') (hi : i = (k : Int))
    (kk : ∀ b off, CellsAt H b off (enc x') → WO P ro ops rest K ⟨n, ds, (d, .pointer (some ⟨b, off, none⟩)) :: e⟩ w) (hd : Nat.blt d n = true := by rfl) :
    WO P ro ops (⟨some d, .indexAddr t x y, ty, pos, aft, none⟩ :: rest) K ⟨n, ds, e⟩ w := by
  subst hi
  obtain ⟨hlt, he⟩ := List.getElem?_eq_some_iff.1 hk
  exact .ix hs hr hx hy hu hz ⟨by omega, by simpa using hlt⟩ (fun b off hc => kk b off (by simpa [he] using hc)) hd
theorem WO.ixY {xs : List Int} {k : Nat} {x' : Int} {elem : TypeId} {q : IntKind} {i : Int} {rest : List Oper} (hs : St H w σ) (hr : RI H v xs) (hx : FS.ev ⟨n, ds, e⟩ x = some v) (hy : FS.ev ⟨n, ds, e⟩ y = some (.int q i))
    (hu : ∀ w, (underlying t).run P w = .ok (.slice elem) w) (hz : ∀ w, (sizeOf elem).run P w = .ok 1 w) (hk : xs[k]? = some x') (hi : i = (k : Int))
    (kk : ∀ b off, cellAt H b off = some (I x') → WO P ro ops rest K ⟨n, ds, (d, .pointer (some ⟨b, off, none⟩)) :: e⟩ w) (hd : Nat.blt d n = true := by rfl) :
    WO P ro ops (⟨some d, .indexAddr t x y, ty, pos, aft, none⟩ :: rest) K ⟨n, ds, e⟩ w :=
  .ixX (enc := fun x => [I x]) hs hr hx hy hu hz hk hi (fun b off hc => kk b off hc.one) hd
theorem q_ixO {b len cap k : Nat} {elem : TypeId} {q : IntKind} {i : Int} (hx : FS.ev s x = some (.slice (some ⟨b, 0, none⟩) len cap)) (hy : FS.ev s y = some (.int q i))
    (hu : ∀ w, (underlying t).run P w = .ok (.slice elem) w) (hz : ∀ w, (sizeOf elem).run P w = .ok 1 w) (hi : i = (k : Int)) (hk : k < len) :
    QJ P H σ s (.indexAddr t x y) (.pointer (some ⟨b, k, none⟩)) := by
  subst hi
  have := q_index (P := P) (H := H) (σ := σ) hx hy hu hz (i := (k : Int)) ⟨by omega, by omega⟩
  simpa using this
theorem q_ixOm {b len cap k m : Nat} {elem : TypeId} {q : IntKind} {i : Int} (hx : FS.ev s x = some (.slice (some ⟨b, 0, none⟩) len cap)) (hy : FS.ev s y = some (.int q i))
    (hu : ∀ w, (underlying t).run P w = .ok (.slice elem) w) (hz : ∀ w, (sizeOf elem).run P w = .ok m w) (hi : i = (k : Int)) (hk : k < len) :
    QJ P H σ s (.indexAddr t x y) (.pointer (some ⟨b, k * m, none⟩)) := by
  subst hi
  have := q_index (P := P) (H := H) (σ := σ) hx hy hu hz (i := (k : Int)) ⟨by omega, by omega⟩
  simpa using this
end Go.MW

namespace Go.MW
structure Lim where
  A : Int
  B : Int
  M : Int
  S : Int
  deriving DecidableEq
def Lim.c (l : Lim) : List Value := [I l.A, I l.B, I l.M, I l.S]
def RL (H : Heap) (v : Value) (ls : List Lim) : Prop := RS H 4 v (ls.map Lim.c)
theorem RL.mono {H H' : Heap} {v : Value} {ls : List Lim} (h : RL H v ls) (hl : HLe H H') : RL H' v ls := RS.mono h hl
theorem RL.shape {H : Heap} {v : Value} {ls : List Lim} (h : RL H v ls) : ∃ a cap, v = .slice a ls.length cap := by
  obtain ⟨a, cap, e⟩ := RS.shape h; exact ⟨a, cap, by simpa using e⟩
def Lim.ok (many : Int) (l : Lim) : Bool := decide ((0 ≤ l.A ∧ l.A ≤ many) ∧ (0 ≤ l.B ∧ l.B ≤ many) ∧ l.A ≠ l.B ∧ (-20000 ≤ l.M ∧ l.M ≤ 20000) ∧ (1 ≤ l.S ∧ l.S ≤ 99999))
structure Syst where
  many : Int
  lims : List Lim
def RSy (H : Heap) (v : Value) (s : Syst) : Prop := ∃ u, v = .agg #[I s.many, u] ∧ RL H u s.lims
theorem RSy.mono {H H' : Heap} {v : Value} {s : Syst} (h : RSy H v s) (hl : HLe H H') : RSy H' v s := by
  obtain ⟨u, h1, h2⟩ := h; exact ⟨u, h1, h2.mono hl⟩
def Syst.check (s : Syst) : Int :=
  if ¬ (0 ≤ s.many ∧ s.many ≤ 64) then 21 else if 400 < s.lims.length then 2 else if s.lims.any (fun l => !l.ok s.many) then 20 else 0
structure Syst.Ok (s : Syst) : Prop where
  m0 : 0 ≤ s.many
  m1 : s.many ≤ 64
  len : s.lims.length ≤ 400
  lim : ∀ l ∈ s.lims, (0 ≤ l.A ∧ l.A ≤ s.many) ∧ (0 ≤ l.B ∧ l.B ≤ s.many) ∧ l.A ≠ l.B ∧ (-20000 ≤ l.M ∧ l.M ≤ 20000) ∧ (1 ≤ l.S ∧ l.S ≤ 99999)
theorem Syst.ok_iff (s : Syst) : s.check = 0 ↔ s.Ok := by
  unfold Syst.check
  constructor
  · intro h
    split at h
    · omega
    · split at h
      · omega
      · split at h
        · omega
        · rename_i h1 h2 h3
          refine ⟨by omega, by omega, by omega, fun l hl => ?_⟩
          simp only [List.any_eq_true, Bool.not_eq_true', not_exists, not_and, Bool.not_eq_false] at h3
          have := h3 l hl
          simpa [Lim.ok] using this
  · intro h
    have h1 : (s.lims.any fun l => !l.ok s.many) = false := by
      simp only [List.any_eq_false, Bool.not_eq_true', Bool.not_eq_false]
      intro l hl
      simpa [Lim.ok] using h.lim l hl
    rw [if_neg (by have := h.m0; have := h.m1; omega), if_neg (by have := h.len; omega), h1]; rfl
def Syst.n (s : Syst) : Nat := s.many.toNat + 1
def Lim.arc (i : Nat) (l : Lim) : Arc := ⟨l.A.toNat, l.B.toNat, l.M, i⟩
def arcsOf (ls : List Lim) : List Arc := ls.mapIdx Lim.arc
def Syst.arcs (s : Syst) : List Arc := arcsOf s.lims
theorem arcsOf_get {ls : List Lim} {k : Nat} {l : Lim} (h : ls[k]? = some l) : (arcsOf ls)[k]? = some (l.arc k) := by
  simp [arcsOf, List.getElem?_mapIdx, h]
theorem arcsOf_l {ls : List Lim} {k : Nat} {x : Arc} (h : (arcsOf ls)[k]? = some x) : x.l = (k : Int) := by
  simp only [arcsOf, List.getElem?_mapIdx, Option.map_eq_some_iff] at h
  obtain ⟨l, _, h2⟩ := h
  rw [← h2]; rfl
theorem map_at {α : Type} {f : Arc → α} {l : List Arc} {k : Nat} {x : Arc} (h : l[k]? = some x) {hk : k < (l.map f).length} : (l.map f)[k] = f x := by
  rw [List.getElem?_eq_some_iff] at h
  obtain ⟨h1, h2⟩ := h
  rw [List.getElem_map, h2]
theorem arcsOf_length (ls : List Lim) : (arcsOf ls).length = ls.length := by simp [arcsOf]
theorem arcsOf_mem {ls : List Lim} {x : Arc} (h : x ∈ arcsOf ls) : ∃ (i : Nat) (l : Lim), ls[i]? = some l ∧ x = l.arc i := by
  obtain ⟨i, hi⟩ := List.getElem?_of_mem h
  simp only [arcsOf, List.getElem?_mapIdx, Option.map_eq_some_iff] at hi
  obtain ⟨l, h1, h2⟩ := hi
  exact ⟨i, l, h1, h2.symm⟩
theorem Syst.Ok.arc {s : Syst} (h : s.Ok) {l : Lim} (hl : l ∈ s.lims) (i : Nat) : ((l.arc i).f : Int) = l.A ∧ ((l.arc i).t : Int) = l.B ∧ (l.arc i).f < s.n ∧ (l.arc i).t < s.n ∧ -20000 ≤ (l.arc i).c ∧ (l.arc i).c ≤ 20000 ∧ 0 ≤ (l.arc i).l ∧ (l.arc i).f ≠ (l.arc i).t := by
  have h1 := h.lim l hl
  have h2 := h.m0
  simp only [Lim.arc, Syst.n]
  omega
theorem Syst.Ok.arcs {s : Syst} (h : s.Ok) : ArcsOk s.arcs s.n := by
  refine ⟨by have := h.len; simp only [Syst.arcs, arcsOf_length]; omega, fun x hx => ?_⟩
  obtain ⟨i, l, h1, rfl⟩ := arcsOf_mem hx
  have := h.arc (List.mem_of_getElem? h1) i
  omega
theorem yd_bool {v : Value} {A B : Prop} (h : (v = .bool true ∧ A) ∨ (v = .bool false ∧ B)) : ∃ bb, v = .bool bb ∧ (bb = true → A) ∧ (bb = false → B) := by
  rcases h with ⟨rfl, h⟩ | ⟨rfl, h⟩
  · exact ⟨true, rfl, fun _ => h, fun e => by cases e⟩
  · exact ⟨false, rfl, fun e => (by cases e), fun _ => h⟩
def ItA (P : Program) (gf : FuncId) (cap : List Value) (H : Heap) (as : List Arc) : Prop := Iter P gf cap H (as.map fun x => [.agg x.v.toArray])
def Syst.Sound (s : Syst) : Prop := ∃ p, Feas s.arcs p
end Go.MW

namespace Go.MW
variable {P : Program} {ro : Option Nat} {Q : Exit → FS → World → Prop} {K : FS → World → Prop} {ops : Array Oper} {s : FS} {w : World}
  {H : Heap} {σ τ : List Ent} {n d : Nat} {ds : List Deferred} {e : List (Nat × Value)} {ty t : TypeId} {pos : String} {aft : Array Edge} {v : Value} {x y : Operand}
def NxD (n : Nat) (i m c c2 N k : Nat) (J : List Deferred → List (Nat × Value) → World → Prop) (s : FS) (w : World) : Prop :=
  ∃ ds fr, FSub s ⟨n, ds, (i, .int .i64 (k : Int)) :: (m, .int .i64 (N : Int)) :: fr⟩ ∧ (get fr c = none ∧ get fr c2 = none) ∧ J ds fr w
theorem NxD.mk {i m c c2 N k : Nat} {J : List Deferred → List (Nat × Value) → World → Prop} {fr : List (Nat × Value)} (h : J ds fr w) (hs : FSub s ⟨n, ds, (i, .int .i64 (k : Int)) :: (m, .int .i64 (N : Int)) :: fr⟩ := by repeat (first | exact .nil rfl rfl | refine .cons rfl ?_))
    (hc : get fr c = none ∧ get fr c2 = none := by exact ⟨rfl, rfl⟩) : NxD n i m c c2 N k J s w := ⟨ds, fr, hs, hc, h⟩
theorem WE.forD {b0 i m c c2 r1 r2 : Nat} {body : Code} {t1 t2 t3 t4 ty1 ty2 ty3 : TypeId} {p1 p2 p3 : String} {a1 a2 a3 : Array Edge} (N : Nat) (J : Nat → List Deferred → List (Nat × Value) → World → Prop) (hN : N ≤ 9223372036854775807)
    (h0 : NxD n i m c c2 N 0 (J 0) ⟨n, ds, e⟩ w)
    (hbody : ∀ k ds fr w, k < N → J k ds fr w → WE P ro body (thn (NxD n i m c c2 N k (J (k + 1))) (inB b0 Q)) ⟨n, ds, (c, .bool true) :: (i, .int .i64 (k : Int)) :: (m, .int .i64 (N : Int)) :: fr⟩ w)
    (hdone : ∀ ds fr w, J N ds fr w → Q .normal ⟨n, ds, (c, .bool false) :: (i, .int .i64 (N : Int)) :: (m, .int .i64 (N : Int)) :: fr⟩ w)
    (hc2m : Nat.beq c2 m = false := by rfl) (him : Nat.beq i m = false := by rfl)
    (hc : Nat.blt c n = true := by rfl) (hcc2 : Nat.blt c2 n = true := by rfl) (hi : Nat.blt i n = true := by rfl) :
    WE P ro (.block b0 (.loop (.seq (.region r1 #[⟨some c, .binOp .lss t1 (.tmp i) (.tmp m) t2, ty1, p1, a1, none⟩] false) (.seq (.cond (.tmp c) .skip (.exit b0)) (.seq body (.region r2 #[⟨some c2, .binOp .add t3 (.tmp i) (.const (.int .i64 1)) t4, ty2, p2, a2, none⟩, ⟨some i, .move (.tmp c2), ty3, p3, a3, none⟩] false)))))) Q ⟨n, ds, e⟩ w := by
  obtain ⟨ds0, fr0, hs0, hc0, hJ0⟩ := h0
  have sym : ∀ {a b : Nat}, Nat.beq a b = false → Nat.beq b a = false := fun {a b} h => beq_ne fun e => by subst e; rw [Nat.beq_refl] at h; cases h
  have trivSt : ∀ w : World, St .bot w [] := St.triv
  refine .block ?_
  refine .loop (fun p : Nat × List Deferred × List (Nat × Value) => ⟨n, p.2.1, (i, .int .i64 (p.1 : Int)) :: (m, .int .i64 (N : Int)) :: p.2.2⟩) (fun p w => p.1 ≤ N ∧ (get p.2.2 c = none ∧ get p.2.2 c2 = none) ∧ J p.1 p.2.1 p.2.2 w) (fun p => N - p.1) (0, ds0, fr0) hs0 ⟨Nat.zero_le _, hc0, hJ0⟩ ?_
  rintro ⟨k, ds, fr⟩ w ⟨hk, hcl, hJ⟩
  dsimp only at hk hcl hJ ⊢
  have gi : ∀ l, get ((i, Value.int .i64 (k : Int)) :: l) i = some (.int .i64 (k : Int)) := fun _ => get_cons_eq
  have gm : ∀ l, get ((i, Value.int .i64 (k : Int)) :: (m, Value.int .i64 (N : Int)) :: l) m = some (.int .i64 (N : Int)) := fun _ => by rw [get_cons_ne him, get_cons_eq]
  refine .regSeq (.q (trivSt w) (q_lss (gi _) (gm _)) (.nil ?_) hc)
  by_cases hlt : k < N
  · refine .seq (.condT (b := decide ((k : Int) < (N : Int))) get_cons_eq (by simpa using hlt) (.skip ?_))
    have hb := hbody k ds fr w hlt hJ
    have e1 : decide ((k : Int) < (N : Int)) = true := by simpa using hlt
    rw [e1]
    refine .seq (hb.mono ?_)
    rintro x s' w' hx
    cases x with
    | normal =>
      obtain ⟨ds', fr', hs', hc', hJ'⟩ := hx
      refine WE.sub ?_ hs'
      refine .region (.q (trivSt w') (q_addF (gi _) rfl (by omega)) (.q (trivSt w') (q_move get_cons_eq) (.nil ?_) hi) hcc2)
      refine ⟨(k + 1, ds', fr'), ⟨rfl, rfl, fun t v ht => ?_⟩, ⟨by omega, hc', hJ'⟩, by dsimp only; omega⟩
      dsimp only at ht
      by_cases h1 : i = t
      · subst h1
        rw [get_cons_eq] at ht ⊢
        rw [← ht]; norm_cast
      · rw [get_cons_ne (beq_ne h1)] at ht ⊢
        by_cases h2 : c2 = t
        · subst h2
          rw [get_cons_ne (sym hc2m)] at ht
          rw [hc'.2] at ht; cases ht
        · rw [get_cons_ne (beq_ne h2), get_cons_ne (beq_ne h1)]
          exact ht
    | _ => exact hx
  · have hkn : k = N := by omega
    subst hkn
    refine .seq (.condF (b := decide ((k : Int) < (k : Int))) get_cons_eq (by simp) (.exit ?_))
    show inB b0 Q (.exit b0) _ _
    have e1 : decide ((k : Int) < (k : Int)) = false := by simp
    rw [e1]
    simp only [inB, Nat.beq_refl, cond_true]
    exact hdone ds fr w hJ
def marks (Ds : List Nat) : List Deferred := Ds.map fun D => { target := .collected D, args := #[] }
def mes (Ds : List Nat) : List Ent := Ds.map fun D => .obj D (.deferred (some []))
theorem Lv.marks {fn : Func} {R : Value → World → Prop} (Ds : List Nat) (hs : St H w (mes Ds ++ σ)) (h : ∀ w', St H w' σ → ∃ v, (∀ a, Sim s a → (results fn a.tmps).run P w' = .ok v w') ∧ R v w') : Lv P fn R s (marks Ds) w := by
  induction Ds generalizing w with
  | nil => exact h w hs
  | cons D Ds ih =>
    have hs : St H w (.obj D (.deferred (some [])) :: (mes Ds ++ σ)) := hs
    have hl : w.heap[D]? = some (.deferred (some [])) := hs.own _ (.head _)
    refine ⟨D, _, rfl, run_takeDeferred hl, ih ?_⟩
    exact (hs.putObj (o' := .deferred none) .here).tail
theorem St.deep {x : Ent} {σ1 : List Ent} (hs : St H w (x :: (σ1 ++ σ))) : St H w (σ1 ++ (x :: σ)) := hs.perm List.perm_middle.symm
theorem St.shallow {x : Ent} {σ1 : List Ent} (hs : St H w (σ1 ++ (x :: σ))) : St H w (x :: (σ1 ++ σ)) := hs.perm List.perm_middle
theorem St.swapApp {σ1 σ2 : List Ent} (hs : St H w (σ1 ++ (σ2 ++ σ))) : St H w (σ2 ++ (σ1 ++ σ)) := hs.perm (by rw [← List.append_assoc, ← List.append_assoc]; exact List.perm_append_comm.append_right _)
theorem St.shallowD {D : Nat} {x : Ent} {σ1 : List Ent} (hs : St H w (.obj D (.deferred (some [])) :: (x :: (σ1 ++ σ)))) : St H w ([] ++ (mes [D] ++ (σ1 ++ σ))) :=
  (hs.perm (.swap _ _ _)).tail
theorem Fin.retD {fn : Func} {R : Value → World → Prop} (Ds : List Nat) (σ1 : List Ent) (hs : St H w (σ1 ++ (mes Ds ++ σ))) (h : ∀ w', St H w' (σ1 ++ σ) → ∃ v, (∀ a, Sim ⟨n, marks Ds, e⟩ a → (results fn a.tmps).run P w' = .ok v w') ∧ R v w') : Fin P fn R .ret ⟨n, marks Ds, e⟩ w :=
  Lv.marks Ds hs.swapApp h
theorem Fin.endD {fn : Func} {R : Value → World → Prop} (Ds : List Nat) (σ1 : List Ent) (hs : St H w (σ1 ++ (mes Ds ++ σ))) (h : ∀ w', St H w' (σ1 ++ σ) → ∃ v, (∀ a, Sim ⟨n, marks Ds, e⟩ a → (results fn a.tmps).run P w' = .ok v w') ∧ R v w') : Fin P fn R .normal ⟨n, marks Ds, e⟩ w :=
  Lv.marks Ds hs.swapApp h
def RVal (P : Program) (s : FS) (w : World) : ResultVar → Value → Prop
  | .tmp t, v => get s.e t = some v
  | .cell t ty, v => ∃ b off, get s.e t = some (.pointer (some ⟨b, off, none⟩)) ∧ (loadVar ty ⟨b, off, none⟩).run P w = .ok v w
def resG (tmps : Array Value) : ResultVar → Sem Value
  | .tmp t => pure (tmps.getD t undef)
  | .cell a t => do loadVar t (← asAddr (tmps.getD a undef))
theorem results_eq (fn : Func) (tmps : Array Value) : results fn tmps = (do
    let vs ← fn.results.mapM (resG tmps)
    pure (if h : vs.size = 1 then vs[0] else .tuple vs)) := rfl
theorem RVal.run {rv : ResultVar} {a : Act} (h : RVal P s w rv v) (ha : Sim s a) : Sem.run P (resG a.tmps rv) w = .ok v w := by
  cases rv with
  | tmp t => have := ha.val t v h; simp only [resG, this, Sem.run_pure]
  | cell t ty =>
    obtain ⟨b, off, h1, h2⟩ := h
    have := ha.val t _ h1
    simp only [resG, this, asAddr, Sem.run_bind, Sem.run_pure, Result.andThen, h2]
theorem rcell {t : Nat} {b off : Nat} {ty : TypeId} {c : List Value} (hs : St H w σ) (hx : get s.e t = some (.pointer (some ⟨b, off, none⟩))) (ha : ∀ w, (isAgg ty).run P w = .ok false w) (hm : Mem σ (.blk b c) := by repeat (first | exact .here | refine .there ?_)) (hv : c[off]? = some v := by rfl) : RVal P s w (.cell t ty) v :=
  ⟨b, off, hx, by
    have h3 : w.cell? ⟨b, off, none⟩ = some v := (cell?_own hs hm off).trans hv
    simp only [loadVar, Sem.run_bind, ha w, Result.andThen]
    simp [load, Sem.run, h3]⟩
theorem rcells {t : Nat} {b off : Nat} {ty : TypeId} {c vs : List Value} (hs : St H w σ) (hx : get s.e t = some (.pointer (some ⟨b, off, none⟩))) (ha : ∀ w, (isAgg ty).run P w = .ok true w) (hz : ∀ w, (sizeOf ty).run P w = .ok vs.length w)
    (hm : Mem σ (.blk b c) := by repeat (first | exact .here | refine .there ?_)) (hv : (c.drop off).take vs.length = vs := by rfl) : RVal P s w (.cell t ty) (.agg vs.toArray) :=
  ⟨b, off, hx, by
    have hc : ∀ i v, vs[i]? = some v → w.cell? ⟨b, off + i, none⟩ = some v := fun i v hi => by
      rw [cell?_own hs hm]
      have hl := (List.getElem?_eq_some_iff.1 hi).1
      rw [← hv, List.getElem?_take, List.getElem?_drop] at hi
      simpa [hl] using hi
    simp only [loadVar, Sem.run_bind, ha w, Result.andThen, hz w, if_true, run_loadList hc, Sem.run_pure]⟩
theorem results0 {fn : Func} (hr : fn.results = #[]) : ∀ a, Sim s a → (results fn a.tmps).run P w = .ok (.tuple #[]) w := fun a _ => by simp [results, hr]
theorem results1 {fn : Func} {r1 : ResultVar} {v1 : Value} (hr : fn.results = #[r1]) (h1 : RVal P s w r1 v1) : ∀ a, Sim s a → (results fn a.tmps).run P w = .ok v1 w := fun a ha => by
  have e1 := h1.run ha
  rw [results_eq, hr]
  simp only [Array.mapM_eq_mapM_toList, List.mapM_cons, List.mapM_nil, Sem.run_bind, e1, Result.andThen, Sem.run_pure, map_eq_pure_bind]
  simp
theorem results2 {fn : Func} {r1 r2 : ResultVar} {v1 v2 : Value} (hr : fn.results = #[r1, r2]) (h1 : RVal P s w r1 v1) (h2 : RVal P s w r2 v2) : ∀ a, Sim s a → (results fn a.tmps).run P w = .ok (.tuple #[v1, v2]) w := fun a ha => by
  have e1 := h1.run ha
  have e2 := h2.run ha
  rw [results_eq, hr]
  simp only [Array.mapM_eq_mapM_toList, List.mapM_cons, List.mapM_nil, Sem.run_bind, e1, e2, Result.andThen, Sem.run_pure, map_eq_pure_bind]
  simp
theorem results3 {fn : Func} {r1 r2 r3 : ResultVar} {v1 v2 v3 : Value} (hr : fn.results = #[r1, r2, r3]) (h1 : RVal P s w r1 v1) (h2 : RVal P s w r2 v2) (h3 : RVal P s w r3 v3) : ∀ a, Sim s a → (results fn a.tmps).run P w = .ok (.tuple #[v1, v2, v3]) w := fun a ha => by
  have e1 := h1.run ha
  have e2 := h2.run ha
  have e3 := h3.run ha
  rw [results_eq, hr]
  simp only [Array.mapM_eq_mapM_toList, List.mapM_cons, List.mapM_nil, Sem.run_bind, e1, e2, e3, Result.andThen, Sem.run_pure, map_eq_pure_bind]
  simp
theorem flatten_rep1 (l : Nat) (z : Int) : (List.replicate l [I z]).flatten = Is (List.replicate l z) := by
  induction l with
  | zero => rfl
  | succ l ih => rw [List.replicate_succ, List.replicate_succ, List.flatten_cons, ih]; rfl
theorem flatten_rep4 (l : Nat) : (List.replicate l [I 0, I 0, I 0, I 0]).flatten = Arcs (List.replicate l ⟨0, 0, 0, 0⟩) := by
  induction l with
  | zero => rfl
  | succ l ih => rw [List.replicate_succ, List.replicate_succ, List.flatten_cons, ih]; rfl
theorem OJ.makeI {elem : TypeId} {i : TypeInfo} {k1 k2 : IntKind} (len : Nat) (hs : St H w σ) (hx : FS.ev ⟨n, ds, e⟩ x = some (.int k1 len)) (hy : FS.ev ⟨n, ds, e⟩ y = some (.int k2 len))
    (hu : ∀ w, (underlying t).run P w = .ok (.slice elem) w) (hi : ∀ w, (typeInfo elem).run P w = .ok i w) (hb : i.bytes = 8) (hz : ∀ w, (sizeOf elem).run P w = .ok 1 w) (hzv : ∀ w, (zeroValue elem).run P w = .ok (.int .i64 0) w)
    (h1 : len ≤ 17592186044416)
    (k : ∀ b w', St H w' (.blk b (Is (List.replicate len 0)) :: σ) → K ⟨n, ds, (d, .slice (some ⟨b, 0, none⟩) len len) :: e⟩ w') (hd : Nat.blt d n = true := by rfl) :
    OJ P ro ⟨some d, .makeSlice t x y, ty, pos, aft, none⟩ K ⟨n, ds, e⟩ w :=
  .makeSlice (bytes := 8) hs hx hy hu hi hb hz hzv rfl (by decide) (by omega) (by omega) (fun b w' h => k b w' (by
    have h : St H w' (.blk b (List.replicate len [I 0]).flatten :: σ) := h
    rwa [flatten_rep1] at h)) (by decide) hd
theorem OJ.makeA {elem : TypeId} {i : TypeInfo} {k1 k2 : IntKind} (len : Nat) (hs : St H w σ) (hx : FS.ev ⟨n, ds, e⟩ x = some (.int k1 len)) (hy : FS.ev ⟨n, ds, e⟩ y = some (.int k2 len))
    (hu : ∀ w, (underlying t).run P w = .ok (.slice elem) w) (hi : ∀ w, (typeInfo elem).run P w = .ok i w) (hb : i.bytes = 32) (hz : ∀ w, (sizeOf elem).run P w = .ok 4 w) (hzv : ∀ w, (zeroValue elem).run P w = .ok (.agg #[I 0, I 0, I 0, I 0]) w)
    (h1 : len ≤ 1099511627776)
    (k : ∀ b w', St H w' (.blk b (Arcs (List.replicate len ⟨0, 0, 0, 0⟩)) :: σ) → K ⟨n, ds, (d, .slice (some ⟨b, 0, none⟩) len len) :: e⟩ w') (hd : Nat.blt d n = true := by rfl) :
    OJ P ro ⟨some d, .makeSlice t x y, ty, pos, aft, none⟩ K ⟨n, ds, e⟩ w :=
  .makeSlice (bytes := 32) hs hx hy hu hi hb hz hzv rfl (by decide) (by omega) (by omega) (fun b w' h => k b w' (by
    have h : St H w' (.blk b (List.replicate len [I 0, I 0, I 0, I 0]).flatten :: σ) := h
    rwa [flatten_rep4] at h)) (by decide) hd
def mkBy (n k : Nat) : List Arc := List.replicate k ⟨0, 0, 0, -1⟩ ++ List.replicate (n - k) ⟨0, 0, 0, 0⟩
theorem mkBy_length {n k : Nat} (h : k ≤ n) : (mkBy n k).length = n := by simp [mkBy]; omega
theorem mkBy_full (n : Nat) : mkBy n n = List.replicate n ⟨0, 0, 0, -1⟩ := by simp [mkBy]
theorem mkBy_set {n k : Nat} (h : k < n) : (mkBy n k).set k ⟨(ga (mkBy n k) k).f, (ga (mkBy n k) k).t, (ga (mkBy n k) k).c, -1⟩ = mkBy n (k + 1) := by
  have e1 : ga (mkBy n k) k = ⟨0, 0, 0, 0⟩ := by
    obtain ⟨m, hm⟩ : ∃ m, n - k = m + 1 := ⟨n - k - 1, by omega⟩
    simp [ga, mkBy, hm]
  rw [e1]
  unfold mkBy
  rw [List.set_append_right _ _ (by simp)]
  obtain ⟨m, hm⟩ : ∃ m, n - k = m + 1 := ⟨n - k - 1, by omega⟩
  rw [hm, show n - (k + 1) = m by omega, List.replicate_succ, List.length_replicate, Nat.sub_self, List.set_cons_zero, List.replicate_succ', List.append_assoc]
  rfl
def OvR (H : Heap) (vo : Value) : Option Arc → Prop
  | none => vo = .pointer none
  | some x => ∃ b, vo = .pointer (some ⟨b, 0, none⟩) ∧ Row H b x.v
theorem OvR.mono {H H' : Heap} {vo : Value} {ov : Option Arc} (h : OvR H vo ov) (hl : HLe H H') : OvR H' vo ov := by
  cases ov with
  | none => exact h
  | some x => obtain ⟨b, h1, h2⟩ := h; exact ⟨b, h1, h2.mono hl⟩
theorem OvR.ptr {H : Heap} {vo : Value} {ov : Option Arc} (h : OvR H vo ov) : ∃ a, vo = .pointer a ∧ a.isNone = ov.isNone := by
  cases ov with
  | none => exact ⟨none, h, rfl⟩
  | some x => obtain ⟨b, h1, h2⟩ := h; exact ⟨_, h1, rfl⟩
theorem OvR.no {a : Option Addr} {ov : Option Arc} (h : a.isNone = ov.isNone) (hc : a.isNone = true) : a = none ∧ ov = none := by
  cases a with
  | some x => cases hc
  | none => cases ov with
    | none => exact ⟨rfl, rfl⟩
    | some x => cases h
theorem OvR.yes {a : Option Addr} {ov : Option Arc} (h : a.isNone = ov.isNone) (hc : a.isNone = false) : ∃ x, ov = some x := by
  cases ov with
  | some x => exact ⟨x, rfl⟩
  | none => rw [hc] at h; cases h
def NearR (n : Nat) (as : List Arc) (s : BS) (ov : Option Arc) : Prop := ∃ r, NInv n as r as.length ov s ∧ (ov ≠ none → r = n)
structure FlowH (H : Heap) (bf : Nat) (s : Syst) (ts lf : List Int) (vl : Value) (bt bl cl : Nat) (sp : List Value) : Prop where
  f : Row H bf [I s.many, vl, .slice (some ⟨bt, 0, none⟩) ts.length ts.length, .slice (some ⟨bl, 0, none⟩) lf.length cl]
  l : RL H vl s.lims
  t : Row H bt (Is ts)
  d : Row H bl (Is lf ++ sp)
theorem FlowH.mono {H H' : Heap} {bf : Nat} {s : Syst} {ts lf : List Int} {vl : Value} {bt bl cl : Nat} {sp : List Value} (h : FlowH H bf s ts lf vl bt bl cl sp) (hl : HLe H H') : FlowH H' bf s ts lf vl bt bl cl sp :=
  ⟨h.f.mono hl, h.l.mono hl, h.t.mono hl, h.d.mono hl⟩
theorem Row.at {H : Heap} {b : Nat} {c : List Value} (h : Row H b c) (i : Nat) {v : Value} (hi : c[i]? = some v := by rfl) : cellAt H b i = some v := by rw [h.cell]; exact hi
theorem Row.cells {H : Heap} {b : Nat} {c : List Value} (h : Row H b c) (off : Nat) (vs : List Value) (hv : (c.drop off).take vs.length = vs := by rfl) : CellsAt H b off vs := fun i v hi => by
  rw [h.cell]
  have hl := (List.getElem?_eq_some_iff.1 hi).1
  rw [← hv, List.getElem?_take, List.getElem?_drop, if_pos hl] at hi
  exact hi
theorem OwnS.some {v : Value} {xs : List Int} {en : Ent} (h : OwnS 1 v (Is xs) en) (hx : 0 < xs.length) : ∃ b cap sp, v = .slice (.some ⟨b, 0, none⟩) xs.length cap ∧ en = .blk b (Is xs ++ sp) ∧ xs.length ≤ cap := by
  rcases h with ⟨a, _, h2, _⟩ | ⟨b, len, cap, sp, rfl, rfl, h3, h4, h5⟩
  · have : xs = [] := by simpa using h2
    subst this; simp at hx
  · obtain rfl : len = xs.length := by simpa using h3.symm
    exact ⟨b, cap, sp, rfl, rfl, h5⟩
theorem St.lend {b : Nat} {c : List Value} (hs : St H w (.blk b c :: σ)) : ∃ H', HLe H H' ∧ Row H' b c ∧ St H' w σ ∧ (∀ T, w.heap[b]? = some (.cells c.toArray T (0, 0)) → H' b = some (.cells c.toArray T (0, 0))) ∧
    ∀ {H'' : Heap} {w' : World} {σ' : List Ent}, HLe H' H'' → St H'' w' σ' → St H w' (.blk b c :: σ') := by
  obtain ⟨T, hb⟩ := hs.own _ (.head _)
  have hn := hs.dis _ (.head _) b rfl
  have hH : HLe H ⟨fun k => if k = b then some (.cells c.toArray T (0, 0)) else H k, H.io⟩ := ⟨fun k o hk => by
    show (if k = b then _ else _) = _
    by_cases e : k = b
    · subst e; rw [hn] at hk; cases hk
    · simp only [e, if_false]; exact hk, fun _ h => h⟩
  refine ⟨⟨fun k => if k = b then some (.cells c.toArray T (0, 0)) else H k, H.io⟩, hH, ⟨T, (0, 0), by simp⟩, ⟨?_, hs.tail.own, hs.tail.nd, ?_, hs.io⟩, ?_, ?_⟩
  · intro k o hk
    replace hk : (if k = b then _ else _) = _ := hk
    by_cases e : k = b
    · subst e; simp only [if_true, Option.some.injEq] at hk; rw [← hk]; exact hb
    · simp only [e, if_false] at hk; exact hs.ro k o hk
  · intro e he k hk
    show (if k = b then _ else _) = _
    by_cases e' : k = b
    · subst e'; exact ((List.pairwise_cons.1 hs.nd).1 e he k rfl hk).elim
    · simp only [e', if_false]; exact hs.tail.dis e he k hk
  · intro T' hT'; rw [hb] at hT'; cases hT'; simp
  · intro H'' w' σ' hle hs'
    have hb'' : H'' b = some (.cells c.toArray T (0, 0)) := hle.1 b _ (by simp)
    have h1 := hs'.le (hH.trans hle)
    exact h1.cons ⟨T, hs'.ro b _ hb''⟩ (fun k hk => by cases hk; exact hn) fun y hy k h2 h3 => by
      cases h2
      have := hs'.dis y hy b h3
      rw [hb''] at this; cases this
end Go.MW

namespace Go.MW
variable {P : Program} {ro : Option Nat} {Q : Exit → FS → World → Prop} {K : FS → World → Prop} {ops : Array Oper} {s : FS} {w : World}
  {H : Heap} {σ τ : List Ent} {n d : Nat} {ds : List Deferred} {e : List (Nat × Value)} {ty t : TypeId} {pos : String} {aft : Array Edge} {v : Value} {x y : Operand}
def noG (Q : Exit → FS → World → Prop) : Exit → FS → World → Prop
  | .goto _, _, _ => False
  | .normal, s, w => Q .normal s w
  | .exit i, s, w => Q (.exit i) s w
  | .ret, s, w => Q .ret s w
  | .panic c, s, w => Q (.panic c) s w
  | .outgrown, s, w => Q .outgrown s w
theorem rS (h : Q .ret s w) : noG Q .ret s w := h
theorem WE.scope {c : Code} (h : WE P none c (noG Q) s w) : WE P none (.scope c) Q s w := fun a ha => by
  rw [FW_none, wpIn_wide]
  refine wp_scope_straight ?_
  have h1 := h a ha
  rw [FW_none] at h1
  refine wpIn_wide.1 (wpIn_mono h1 ?_)
  rintro e a' w' ⟨s', h2, h3⟩
  cases e with
  | goto l => exact h3.elim
  | _ => exact ⟨s', h2, h3⟩
theorem q_conv {k k' : IntKind} {p : Int} {src dst : TypeId} {u1 : TypeDesc} (hx : FS.ev s x = some (.int k p)) (h1 : ∀ w, (underlying src).run P w = .ok u1 w) (h2 : ∀ w, (underlying dst).run P w = .ok (.int k') w) : QJ P H σ s (.convert src dst x) (.int k' (k'.wrap p)) :=
  ⟨fun _ => by simp, fun a w _ _ _ _ _ ha _ => by
    have : (convert src dst (.int k p)).run P w = .ok (.int k' (k'.wrap p)) w := by
      unfold convert
      simp only [Sem.run_bind, h1 w, h2 w, Result.andThen, Conv.intToInt, Sem.run_pure]
    simp only [execOp, ha.ev hx, Sem.run_bind, this]; rfl⟩
theorem q_bits {k : IntKind} {p q : Int} {ty' : TypeId} (hx : FS.ev s x = some (.int k p)) (hy : FS.ev s y = some (.int k q)) : QJ P H σ s (.binOp .and t x y ty') (.int k (k.wrap (BitVec.ofInt k.bits p &&& BitVec.ofInt k.bits q).toNat)) :=
  run_bin (by simp) (fun w => by simp [binOp, Op.intBits]) hx hy
theorem q_shr {k k' : IntKind} {p q : Int} {ty' : TypeId} (hx : FS.ev s x = some (.int k p)) (hy : FS.ev s y = some (.int k' q)) (h : 0 ≤ q) : QJ P H σ s (.binOp .shr t x y ty') (.int k (p.fdiv (2 ^ min q.toNat k.bits))) :=
  ⟨fun _ => by simp, fun a w _ _ _ _ _ ha _ => by
    have hg : eqGuard .shr t x y (.int k p) (.int k' q) = pure () := by unfold eqGuard; rfl
    have h0 : ¬ q < 0 := by omega
    simp only [execOp, ha.ev hx, ha.ev hy, hg, pure_bind, binOp, Op.shift, h0, if_false]; rfl⟩
theorem u64wrap {m : Int} (h : 0 ≤ m ∧ m < 18446744073709551616) : IntKind.u64.wrap m = m := by
  have : IntKind.u64.wrap m = m % 18446744073709551616 := by
    simp [IntKind.wrap, IntKind.bits, IntKind.signed]
  rw [this]; omega
theorem q_low {p : Int} {ty' : TypeId} (hx : FS.ev s x = some (.int .u64 p)) (hy : FS.ev s y = some (.int .u64 4294967295)) (h : 0 ≤ p ∧ p < 4294967296) : QJ P H σ s (.binOp .and t x y ty') (.int .u64 p) := by
  have h1 := q_bits (P := P) (H := H) (σ := σ) (t := t) (ty' := ty') hx hy
  obtain ⟨m, rfl⟩ := Int.eq_ofNat_of_zero_le h.1
  have h2 : (BitVec.ofInt IntKind.u64.bits (m : Int) &&& BitVec.ofInt IntKind.u64.bits 4294967295).toNat = m := by
    have e1 : (BitVec.ofInt 64 (m : Int)).toNat = m := by simp; omega
    have e2 : (BitVec.ofInt 64 4294967295).toNat = 2 ^ 32 - 1 := by decide
    show (BitVec.ofInt 64 (m : Int) &&& BitVec.ofInt 64 4294967295).toNat = m
    rw [BitVec.toNat_and, e1, e2, Nat.and_two_pow_sub_one_eq_mod]
    omega
  rw [h2, u64wrap (by omega)] at h1
  exact h1
theorem q_high {p : Int} {ty' : TypeId} (hx : FS.ev s x = some (.int .u64 p)) (hy : FS.ev s y = some (.int .u64 32)) (h : 0 ≤ p ∧ p < 4294967296) : QJ P H σ s (.binOp .shr t x y ty') (.int .u64 0) := by
  have h1 := q_shr (P := P) (H := H) (σ := σ) (t := t) (ty' := ty') hx hy (by omega)
  have h2 : p.fdiv (2 ^ min (32 : Int).toNat IntKind.u64.bits) = 0 := by
    have : (2 : Int) ^ min (32 : Int).toNat IntKind.u64.bits = 4294967296 := by decide
    rw [this, Int.fdiv_eq_ediv_of_nonneg _ (by omega)]
    omega
  rw [h2] at h1
  exact h1
theorem q_mulU {p q : Int} {ty' : TypeId} (hx : FS.ev s x = some (.int .u64 p)) (hy : FS.ev s y = some (.int .u64 q)) (h : 0 ≤ p * q ∧ p * q < 18446744073709551616) : QJ P H σ s (.binOp .mul t x y ty') (.int .u64 (p * q)) := by
  have := q_mul (P := P) (H := H) (σ := σ) (t := t) (ty' := ty') hx hy; rwa [u64wrap h] at this
theorem q_addU {p q : Int} {ty' : TypeId} (hx : FS.ev s x = some (.int .u64 p)) (hy : FS.ev s y = some (.int .u64 q)) (h : 0 ≤ p + q ∧ p + q < 18446744073709551616) : QJ P H σ s (.binOp .add t x y ty') (.int .u64 (p + q)) := by
  have := q_add (P := P) (H := H) (σ := σ) (t := t) (ty' := ty') hx hy; rwa [u64wrap h] at this
theorem q_convU {p : Int} {src dst : TypeId} {u1 : TypeDesc} {k : IntKind} (hx : FS.ev s x = some (.int k p)) (h1 : ∀ w, (underlying src).run P w = .ok u1 w) (h2 : ∀ w, (underlying dst).run P w = .ok (.int .u64) w) (h : 0 ≤ p ∧ p < 18446744073709551616) : QJ P H σ s (.convert src dst x) (.int .u64 p) := by
  have := q_conv (P := P) (H := H) (σ := σ) hx h1 h2; rwa [u64wrap h] at this
theorem q_convI {p : Int} {src dst : TypeId} {u1 : TypeDesc} {k : IntKind} (hx : FS.ev s x = some (.int k p)) (h1 : ∀ w, (underlying src).run P w = .ok u1 w) (h2 : ∀ w, (underlying dst).run P w = .ok (.int .i64) w) (h : -9223372036854775808 ≤ p ∧ p ≤ 9223372036854775807) : QJ P H σ s (.convert src dst x) (.int .i64 p) := by
  have := q_conv (P := P) (H := H) (σ := σ) hx h1 h2; rwa [i64wrap h] at this
theorem i64wrap_eq (m : Int) : IntKind.i64.wrap m = (m + 9223372036854775808) % 18446744073709551616 - 9223372036854775808 := by
  simp only [IntKind.wrap, IntKind.bits, IntKind.signed]
  simp
  split <;> omega
theorem i64wrap_add (a b : Int) : IntKind.i64.wrap (IntKind.i64.wrap a + b) = IntKind.i64.wrap (a + b) := by
  simp only [i64wrap_eq]; omega
theorem OJ.copyI {b off dl dcap sl k : Nat} {u : Value} {elem t2 : TypeId} {xs zs : List Int} (hs : St H w σ) (hx : FS.ev ⟨n, ds, e⟩ x = some (.slice (some ⟨b, off, none⟩) dl dcap)) (hy : FS.ev ⟨n, ds, e⟩ y = some u)
    (hsh : ∃ a cap, u = .slice a sl cap) (ht : ∀ w, (underlying t).run P w = .ok (.slice elem) w) (hz : ∀ w, (sizeOf elem).run P w = .ok 1 w) (hk : k = min sl dl) (hzl : zs.length = k)
    (hsrc : ∀ w, St H w σ → (Builtin.firstCells 1 k u).run P w = .ok (Is zs).toArray w) (hl : off + k ≤ xs.length)
    (kk : ∀ w', St H w' τ → K ⟨n, ds, (d, I k) :: e⟩ w') (hu : Upd σ (.blk b (Is xs)) (.blk b (Is (xs.take off ++ zs ++ xs.drop (off + k)))) τ := by repeat constructor) (hd : Nat.blt d n = true := by rfl) :
    OJ P ro ⟨some d, .call ⟨.builtin .copy, #[x, y], #[t, t2]⟩, ty, pos, aft, none⟩ K ⟨n, ds, e⟩ w := by
  obtain ⟨a0, cap, rfl⟩ := hsh
  have hset : ∀ (zs pre post : List Value) (mid : List Value), mid.length = zs.length → setL (pre ++ mid ++ post) pre.length zs = pre ++ zs ++ post := by
    intro zs
    induction zs with
    | nil => intro pre post mid h; have : mid = [] := List.length_eq_zero_iff.1 h; subst this; simp [setL]
    | cons z zs ih =>
      intro pre post mid h
      cases mid with
      | nil => simp at h
      | cons m mid =>
        simp only [setL]
        have e1 : (pre ++ m :: mid ++ post).set pre.length z = (pre ++ [z]) ++ mid ++ post := by
          rw [List.append_assoc, List.set_append_right _ _ (Nat.le_refl _)]; simp
        have e2 : pre.length + 1 = (pre ++ [z]).length := by simp
        rw [e1, e2, ih (pre ++ [z]) post mid (by simpa using h)]
        simp
  have hc : setL (Is xs) off (Is zs) = Is (xs.take off ++ zs ++ xs.drop (off + k)) := by
    have h1 : Is xs = Is (xs.take off) ++ Is ((xs.drop off).take k) ++ Is (xs.drop (off + k)) := by
      rw [← List.map_append, ← List.map_append]
      congr 1
      rw [List.append_assoc, show xs.drop (off + k) = (xs.drop off).drop k by rw [List.drop_drop], List.take_append_drop, List.take_append_drop]
    have h2 : off = (Is (xs.take off)).length := by simp; omega
    have h3 := hset (Is zs) (Is (xs.take off)) (Is (xs.drop (off + k))) (Is ((xs.drop off).take k)) (by simp only [List.length_map, List.length_take, List.length_drop]; omega)
    rw [← h1, ← h2] at h3
    rw [h3]; simp
  obtain ⟨w', h1, h2⟩ := run_storeL (P := P) (Is zs) off 0 (Is xs) w σ τ hs (by simp [Value.oneCell']) (by simp; omega) (by rw [Nat.add_zero, hc]; exact hu)
  refine .val (w' := w') (fun _ => by simp) (fun a ha => ?_) hd (kk w' h2)
  have hm : Nat.min sl dl = k := hk.symm
  simp only [execOp, resolve, List.map_toArray, List.map_cons, List.map_nil, ha.ev hx, ha.ev hy, Sem.run_bind, Sem.run_pure, Result.andThen, invoke, builtin, Builtin.copy_]
  simp only [List.getElem?_toArray, List.getElem?_cons_zero, List.getElem?_cons_succ, Sem.run_bind, ht w, Result.andThen, Sem.run_pure, Builtin.lenOf, hm, hz w, hsrc w hs, h1, goInt]
theorem first_own {b off l cap k : Nat} {xs zs : List Int} (hm : Mem σ (.blk b (Is xs))) (hz : (xs.drop off).take k = zs) (hl : zs.length = k) : ∀ w, St H w σ → (Builtin.firstCells 1 k (.slice (some ⟨b, off, none⟩) l cap)).run P w = .ok (Is zs).toArray w := fun w hs => by
  simp only [Builtin.firstCells, Nat.mul_one]
  have h0 : k = (Is zs).length := by simp [hl]
  rw [h0]
  refine run_loadList fun i v hi => ?_
  rw [cell?_own hs hm]
  have hlt := (List.getElem?_eq_some_iff.1 hi).1
  simp only [List.length_map] at hlt
  simp only [List.getElem?_map, ← hz, List.getElem?_take, List.getElem?_drop] at hi ⊢
  rw [if_pos (by omega)] at hi
  exact hi
theorem q_minI {p q : Int} {ts : Array TypeId} (hx : FS.ev s x = some (I p)) (hy : FS.ev s y = some (I q)) : QJ P H σ s (.call ⟨.builtin .min, #[x, y], ts⟩) (I (min p q)) := by
  have h := q_min (P := P) (H := H) (σ := σ) (ts := ts) hx hy
  have e : (if q < p then q else p) = min p q := by omega
  rwa [e] at h
theorem q_maxI {p q : Int} {ts : Array TypeId} (hx : FS.ev s x = some (I p)) (hy : FS.ev s y = some (I q)) : QJ P H σ s (.call ⟨.builtin .max, #[x, y], ts⟩) (I (max p q)) := by
  have h := q_max (P := P) (H := H) (σ := σ) (ts := ts) hx hy
  have e : (if q > p then q else p) = max p q := by omega
  rwa [e] at h
theorem Is_gi_sp {xs : List Int} {k : Nat} (h : k < xs.length) (sp : List Value) : (Is xs ++ sp)[k]? = some (I (gi xs k)) := Is_get (gi_get h) sp
theorem Is_set_sp {xs : List Int} {k : Nat} (h : k < xs.length) (sp : List Value) (x' : Int) : (Is xs ++ sp).set k (I x') = Is (xs.set k x') ++ sp := by
  rw [List.set_append_left _ _ (by simpa using h), Is_set]
theorem blt_Is_sp {xs : List Int} {k : Nat} (h : k < xs.length) (sp : List Value) : Nat.blt k (Is xs ++ sp).length = true := by simp; omega
theorem q_sliceLI {elem : TypeId} {b o len cap m k : Nat} {k1 : IntKind} (hx : FS.ev s x = some (.slice (some ⟨b, o, none⟩) len cap)) {yl : Operand} (hl : FS.ev s yl = some (.int k1 (k : Int)))
    (hu : ∀ w, (underlying t).run P w = .ok (.slice elem) w) (hz : ∀ w, (sizeOf elem).run P w = .ok m w) (h1 : k ≤ len) (h2 : k < cap) :
    QJ P H σ s (.slice t x (some yl) none none) (.slice (some ⟨b, o + k * m, none⟩) (len - k) (cap - k)) := by
  have h := q_sliceL (P := P) (H := H) (σ := σ) hx hl hu hz (lo := (k : Int)) ⟨by omega, by omega⟩
  have e : ¬ cap = (k : Int).toNat := by simp; omega
  rw [if_neg e] at h
  simpa [addr_add] using h
theorem q_sliceHI {elem : TypeId} {a : Option Addr} {len cap m k : Nat} {k1 : IntKind} (hx : FS.ev s x = some (.slice a len cap)) {yh : Operand} (hh : FS.ev s yh = some (.int k1 (k : Int)))
    (hu : ∀ w, (underlying t).run P w = .ok (.slice elem) w) (hz : ∀ w, (sizeOf elem).run P w = .ok m w) (h1 : k ≤ cap) :
    QJ P H σ s (.slice t x none (some yh) none) (.slice a k cap) := by
  have h := q_sliceH (P := P) (H := H) (σ := σ) hx hh hu hz (hi := (k : Int)) ⟨by omega, by omega⟩
  simpa using h
theorem Arcs_sub_sp {l : List Arc} {k : Nat} (h : k < l.length) (sp : List Value) : ((Arcs l ++ sp).drop (k * 4)).take (ga l k).v.length = (ga l k).v := by
  have h1 := Arcs_sub h
  have h2 : (k * 4) ≤ (Arcs l).length := by rw [Arcs_length]; omega
  rw [List.drop_append_of_le_length h2, List.take_append_of_le_length]
  · exact h1
  · rw [List.length_drop, Arcs_length]; simp [Arc.v]; omega
theorem setL_app : ∀ (vs c sp : List Value) (off : Nat), off + vs.length ≤ c.length → setL (c ++ sp) off vs = setL c off vs ++ sp := by
  intro vs
  induction vs with
  | nil => intro c sp off _; rfl
  | cons v vs ih =>
    intro c sp off h
    simp only [List.length_cons] at h
    simp only [setL]
    rw [List.set_append_left _ _ (by omega), ih _ _ _ (by simp; omega)]
theorem setL_Arcs_sp {l : List Arc} {k : Nat} (h : k < l.length) (x : Arc) (sp : List Value) : setL (Arcs l ++ sp) (k * 4) x.v = Arcs (l.set k x) ++ sp := by
  rw [setL_app _ _ _ _ (by rw [Arcs_length]; simp [Arc.v]; omega), setL_Arcs h]
theorem ble_Arcs_sp {l : List Arc} {k : Nat} {x : Arc} (h : k < l.length) (sp : List Value) : Nat.ble (k * 4 + x.v.length) (Arcs l ++ sp).length = true := by
  rw [List.length_append, Arcs_length]; simp [Arc.v]; omega
theorem ext_ga {l m : List Arc} (h : l.length = m.length) (h2 : ∀ k < l.length, ga l k = ga m k) : l = m := by
  apply List.ext_getElem?
  intro i
  by_cases hi : i < l.length
  · rw [ga_get hi, ga_get (by omega), h2 i hi]
  · rw [List.getElem?_eq_none (by omega), List.getElem?_eq_none (by omega)]
theorem ga_reverse {l : List Arc} {k : Nat} (h : k < l.length) : ga l.reverse k = ga l (l.length - 1 - k) := by
  unfold ga
  rw [List.getD_eq_getElem?_getD, List.getElem?_reverse h, List.getD_eq_getElem?_getD]
def Turned (l L : List Arc) (i : Nat) : Prop := L.length = l.length ∧ ∀ k < l.length, ga L k = if k < i ∨ l.length - i ≤ k then ga l (l.length - 1 - k) else ga l k
theorem Turned.start (l : List Arc) : Turned l l 0 := ⟨rfl, fun k hk => by rw [if_neg (by omega)]⟩
theorem Turned.step {l L : List Arc} {i : Nat} (h : Turned l L i) (hi : 2 * i + 1 < l.length) : Turned l ((L.set i (ga L (l.length - 1 - i))).set (l.length - 1 - i) (ga L i)) (i + 1) := by
  obtain ⟨h1, h2⟩ := h
  refine ⟨by simp [h1], fun k hk => ?_⟩
  rw [ga_set (by simp; omega), ga_set (by omega)]
  by_cases e1 : k = l.length - 1 - i
  · rw [if_pos e1, h2 i (by omega), if_neg (by omega), if_pos (by omega)]; congr 1; omega
  · rw [if_neg e1]
    by_cases e2 : k = i
    · rw [if_pos e2, h2 _ (by omega), if_neg (by omega), if_pos (by omega)]; congr 1; omega
    · rw [if_neg e2, h2 k hk]
      by_cases e3 : k < i ∨ l.length - i ≤ k
      · rw [if_pos e3, if_pos (by omega)]
      · rw [if_neg e3, if_neg (by omega)]
theorem Turned.done {l L : List Arc} {i : Nat} (h : Turned l L i) (hi : l.length ≤ 2 * i + 1) : L = l.reverse := by
  obtain ⟨h1, h2⟩ := h
  refine ext_ga (by simp [h1]) fun k hk => ?_
  rw [h1] at hk
  rw [h2 k hk, ga_reverse hk]
  split
  · rfl
  · congr 1; omega
theorem RI.nilOf {xs : List Int} {len cap : Nat} (h : RI H (.slice none len cap) xs) : xs = [] := by
  obtain ⟨a, c, e, _, _, h4⟩ := h
  cases e
  cases xs with
  | nil => rfl
  | cons x xs => obtain ⟨_, b, off, h5, _⟩ := h4 0 [I x] rfl; cases h5
end Go.MW

namespace Go.MW
def askErr (s : Syst) (w : List Int) : Int := if s.check ≠ 0 then s.check else if w.length = s.n ∧ SizedW w then 0 else 27
theorem askErr_ok {s : Syst} {w : List Int} (h : askErr s w = 0) : s.Ok ∧ w.length = s.n ∧ SizedW w := by
  unfold askErr at h
  split at h
  · rename_i h1; exact (h1 h).elim
  · rename_i h1
    split at h
    · rename_i h2; exact ⟨s.ok_iff.1 (by omega), h2⟩
    · omega
def Syst.wt (s : Syst) (w : List Int) : Nat → Int := wtOf w s.n
inductive AskR (s : Syst) (w : List Int) : Int → Prop
  | bad (h : askErr s w ≠ 0) : AskR s w (askErr s w)
  | clash (h : askErr s w = 0) (h1 : ¬ s.Sound) : AskR s w 23
  | opn (h : askErr s w = 0) (h1 : s.Sound) (h2 : OpenS s.arcs (s.wt w) s.n) : AskR s w 22
  | ok (h : askErr s w = 0) (h1 : s.Sound) (h2 : ¬ OpenS s.arcs (s.wt w) s.n) : AskR s w 0
theorem AskR.uniq {s : Syst} {w : List Int} {a b : Int} (h : AskR s w a) (g : AskR s w b) : a = b := by
  cases h <;> cases g <;> first | rfl | contradiction
theorem AskR.zero {s : Syst} {w : List Int} (h : AskR s w 0) : askErr s w = 0 ∧ s.Sound ∧ ¬ OpenS s.arcs (s.wt w) s.n := by
  generalize hz : (0 : Int) = z at h
  cases h with
  | bad h => exact (h hz.symm).elim
  | clash => omega
  | opn => omega
  | ok h h1 h2 => exact ⟨h, h1, h2⟩
def MostR (s : Syst) (w : List Int) (n e : Int) : Prop := AskR s w e ∧ (e ≠ 0 → n = 0) ∧ (e = 0 → OptS s.arcs (s.wt w) s.n n ∧ n ≤ BB ∧ -BB ≤ n)
theorem MostR.uniq {s : Syst} {w : List Int} {a b e f : Int} (h : MostR s w a e) (g : MostR s w b f) : a = b ∧ e = f := by
  obtain rfl := h.1.uniq g.1
  refine ⟨?_, rfl⟩
  by_cases h0 : e = 0
  · exact (h.2.2 h0).1.uniq (g.2.2 h0).1
  · rw [h.2.1 h0, g.2.1 h0]
def negW (w : List Int) : List Int := w.map fun x => -x
inductive RangeR (s : Syst) (w : List Int) : Int → Int → Int → Prop
  | first {a e : Int} (h : MostR s w a e) (he : e ≠ 0) : RangeR s w 0 0 e
  | second {a b e : Int} (h : MostR s w a 0) (h2 : MostR s (negW w) b e) (he : e ≠ 0) : RangeR s w 0 0 e
  | ok {a b : Int} (h : MostR s w a 0) (h2 : MostR s (negW w) b 0) : RangeR s w (-b) a 0
theorem RangeR.uniq {s : Syst} {w : List Int} {a b c d e f : Int} (h : RangeR s w a b e) (g : RangeR s w c d f) : a = c ∧ b = d ∧ e = f := by
  cases h with
  | first h1 he =>
    cases g with
    | first g1 _ => exact ⟨rfl, rfl, (h1.uniq g1).2⟩
    | second g1 _ _ => exact (he (h1.uniq g1).2).elim
    | ok g1 _ => exact (he (h1.uniq g1).2).elim
  | second h1 h2 he =>
    cases g with
    | first g1 ge => exact (ge (h1.uniq g1).2.symm).elim
    | second g1 g2 _ => exact ⟨rfl, rfl, (h2.uniq g2).2⟩
    | ok g1 g2 => exact (he (h2.uniq g2).2).elim
  | ok h1 h2 =>
    cases g with
    | first g1 ge => exact (ge (h1.uniq g1).2.symm).elim
    | second g1 g2 ge => exact (ge (h2.uniq g2).2.symm).elim
    | ok g1 g2 => exact ⟨by rw [(h2.uniq g2).1], (h1.uniq g1).1, rfl⟩
theorem gi_neg (w : List Int) (v : Nat) : gi (negW w) v = -gi w v := by
  unfold gi negW
  by_cases h : v < w.length
  · simp [h]
  · simp [h]
theorem sizes_neg (w : List Int) (k : Nat) : sizesTo (negW w) k = sizesTo w k := by
  unfold sizesTo
  exact sumTo_congr fun v _ => by rw [gi_neg]; omega
theorem askErr_neg (s : Syst) (w : List Int) : askErr s (negW w) = askErr s w := by
  have h1 : (negW w).length = w.length := by simp [negW]
  have h2 : SizedW (negW w) ↔ SizedW w := by unfold SizedW; rw [h1, sizes_neg]
  unfold askErr
  simp only [h1, h2]
theorem sizes_over {w : List Int} {k : Nat} (hk : k ≤ w.length) (h : FF < sizesTo w k) : ¬ SizedW w := fun hs => by
  have := sumTo_mono (f := fun v => max (gi w v) (-gi w v)) (fun v => by omega) hk
  unfold SizedW at hs
  unfold sizesTo at *
  omega
theorem ext_gi {l m : List Int} (h : l.length = m.length) (h2 : ∀ k < l.length, gi l k = gi m k) : l = m := by
  apply List.ext_getElem?
  intro i
  by_cases hi : i < l.length
  · rw [gi_get hi, gi_get (by omega), h2 i hi]
  · rw [List.getElem?_eq_none (by omega), List.getElem?_eq_none (by omega)]
structure Use where
  l : Int
  t : Int
def Use.c (u : Use) : List Value := [I u.l, I u.t]
def RU (H : Heap) (v : Value) (us : List Use) : Prop := RS H 2 v (us.map Use.c)
theorem RU.mono {H H' : Heap} {v : Value} {us : List Use} (h : RU H v us) (hl : HLe H H') : RU H' v us := RS.mono h hl
theorem RU.shape {H : Heap} {v : Value} {us : List Use} (h : RU H v us) : ∃ a cap, v = .slice a us.length cap := by
  obtain ⟨a, cap, e⟩ := RS.shape h; exact ⟨a, cap, by simpa using e⟩
def RPf (H : Heap) (v : Value) (n : Int) (us : List Use) : Prop := ∃ u, v = .agg #[I n, u] ∧ RU H u us
theorem RPf.mono {H H' : Heap} {v : Value} {n : Int} {us : List Use} (h : RPf H v n us) (hl : HLe H H') : RPf H' v n us := by
  obtain ⟨u, h1, h2⟩ := h; exact ⟨u, h1, h2.mono hl⟩
structure BestR (s : Syst) (w xs : List Int) : Prop where
  len : xs.length = s.n
  zero : gi xs 0 = 0
  low : ∀ v < s.n, gi xs v ≤ 1280000 ∧ -1280000 ≤ gi xs v
  feas : Feas s.arcs (gi xs)
  sum : OptS s.arcs (s.wt w) s.n (sumTo (fun v => gi w v * gi xs v) s.n)
end Go.MW

namespace Go.MW
structure Quest where
  sys : Syst
  ws : List Int
  width : Int
def RAsk (H : Heap) (v : Value) (a : Quest) : Prop := ∃ ul uw, v = .agg #[I a.sys.many, ul, uw, I a.width] ∧ RL H ul a.sys.lims ∧ RI H uw a.ws
theorem RAsk.mono {H H' : Heap} {v : Value} {a : Quest} (h : RAsk H v a) (hl : HLe H H') : RAsk H' v a := by
  obtain ⟨ul, uw, h1, h2, h3⟩ := h; exact ⟨ul, uw, h1, h2.mono hl, h3.mono hl⟩
structure Prb where
  u : Int
  t : Int
def Prb.c (p : Prb) : List Value := [I p.u, I p.t]
def RPs (H : Heap) (v : Value) (l : List Prb) : Prop := RS H 2 v (l.map Prb.c)
theorem RPs.mono {H H' : Heap} {v : Value} {l : List Prb} (h : RPs H v l) (hl : HLe H H') : RPs H' v l := RS.mono h hl
theorem RPs.shape {H : Heap} {v : Value} {l : List Prb} (h : RPs H v l) : ∃ a cap, v = .slice a l.length cap := by
  obtain ⟨a, cap, e⟩ := RS.shape h; exact ⟨a, cap, by simpa using e⟩
theorem RPs.len {H : Heap} {l : List Prb} {a : Option Addr} {len cap : Nat} (h : RPs H (.slice a len cap) l) : len = l.length ∧ len ≤ cap ∧ len ≤ 9223372036854775807 := by
  have := RS.len h; simpa using this
def AWts (w : List Int) (many : Int) : Prop := sizesTo w w.length ≤ 1800000000000 ∧ (w.length : Int) = many + 1
inductive CAskR (a : Quest) : Int → Prop
  | sys (h : a.sys.check ≠ 0) : CAskR a a.sys.check
  | long (h : a.sys.check = 0) (h1 : 31 < a.sys.many ∨ 150 < a.sys.lims.length) : CAskR a 2
  | weight (h : a.sys.check = 0) (h1 : ¬ (31 < a.sys.many ∨ 150 < a.sys.lims.length)) (h2 : ¬ AWts a.ws a.sys.many) : CAskR a 27
  | width (h : a.sys.check = 0) (h1 : ¬ (31 < a.sys.many ∨ 150 < a.sys.lims.length)) (h2 : AWts a.ws a.sys.many) (h3 : ¬ (0 ≤ a.width ∧ a.width ≤ 1000000000000000000)) : CAskR a 90
  | range {lo hi e : Int} (h : a.sys.check = 0) (h1 : ¬ (31 < a.sys.many ∨ 150 < a.sys.lims.length)) (h2 : AWts a.ws a.sys.many) (h3 : 0 ≤ a.width ∧ a.width ≤ 1000000000000000000) (h4 : RangeR a.sys a.ws lo hi e) : CAskR a e
theorem CAskR.uniq {a : Quest} {e f : Int} (h : CAskR a e) (g : CAskR a f) : e = f := by
  cases h <;> cases g <;> first | rfl | contradiction | (rename_i h4 _ _ g4; exact (h4.uniq g4).2.2) | skip
  all_goals (first | contradiction | (rename_i _ _ _ _ _ h4 _ _ _ _ _ _ g4; exact (h4.uniq g4).2.2))
structure AskOk (a : Quest) : Prop where
  ok : a.sys.Ok
  many : a.sys.many ≤ 31
  lims : a.sys.lims.length ≤ 150
  wl : a.ws.length = a.sys.n
  ws : sizesTo a.ws a.sys.n ≤ 1800000000000
  width : 0 ≤ a.width ∧ a.width ≤ 1000000000000000000
  range : ∃ lo hi, RangeR a.sys a.ws lo hi 0
theorem CAskR.zero {a : Quest} : CAskR a 0 ↔ AskOk a := by
  constructor
  · intro h
    generalize hz : (0 : Int) = z at h
    cases h with
    | sys h => exact (h hz.symm).elim
    | long => omega
    | weight => omega
    | width => omega
    | @range lo hi e h h1 h2 h3 h4 =>
      have hok := a.sys.ok_iff.1 h
      have hm := hok.m0
      have hn : a.ws.length = a.sys.n := by have := h2.2; simp only [Syst.n]; omega
      exact ⟨hok, by omega, by omega, hn, by have := h2.1; rwa [hn] at this, h3, lo, hi, by rw [hz]; exact h4⟩
  · intro h
    obtain ⟨lo, hi, hR⟩ := h.range
    have hm := h.ok.m0
    have hw := h.ws
    rw [← h.wl] at hw
    have hwl := h.wl
    exact .range (a.sys.ok_iff.2 h.ok) (by have := h.many; have := h.lims; omega) ⟨hw, by rw [hwl]; simp only [Syst.n]; omega⟩ h.width hR
def oneW (many u : Int) : List Int := (List.replicate (many.toNat + 1) 0).set u.toNat 1
def PrbOk (a : Quest) (p : Prb) : Prop := (1 ≤ p.u ∧ p.u ≤ a.sys.many) ∧ (0 ≤ p.t ∧ p.t ≤ 1000) ∧ ∃ lo hi, RangeR a.sys (oneW a.sys.many p.u) lo hi 0 ∧ -20000 ≤ lo ∧ hi ≤ 20000
inductive CPrbR (a : Quest) (l : List Prb) : Int → Prop
  | ask {e : Int} (h : CAskR a e) (he : e ≠ 0) : CPrbR a l e
  | long (h : AskOk a) (h1 : 8 < l.length) : CPrbR a l 2
  | bad (h : AskOk a) (h1 : ¬ 8 < l.length) (h2 : ¬ ∀ p ∈ l, PrbOk a p) : CPrbR a l 91
  | ok (h : AskOk a) (h1 : ¬ 8 < l.length) (h2 : ∀ p ∈ l, PrbOk a p) : CPrbR a l 0
theorem CPrbR.uniq {a : Quest} {l : List Prb} {e f : Int} (h : CPrbR a l e) (g : CPrbR a l f) : e = f := by
  cases h with
  | ask h he =>
    cases g with
    | ask g _ => exact h.uniq g
    | long g _ => exact (he (h.uniq (CAskR.zero.2 g))).elim
    | bad g _ _ => exact (he (h.uniq (CAskR.zero.2 g))).elim
    | ok g _ _ => exact (he (h.uniq (CAskR.zero.2 g))).elim
  | long h h1 =>
    cases g with
    | ask g ge => exact (ge ((CAskR.zero.2 h).uniq g).symm).elim
    | long => rfl
    | bad => contradiction
    | ok => contradiction
  | bad h h1 h2 =>
    cases g with
    | ask g ge => exact (ge ((CAskR.zero.2 h).uniq g).symm).elim
    | long => contradiction
    | bad => rfl
    | ok => contradiction
  | ok h h1 h2 =>
    cases g with
    | ask g ge => exact (ge ((CAskR.zero.2 h).uniq g).symm).elim
    | long => contradiction
    | bad => contradiction
    | ok => rfl
theorem CPrbR.zero {a : Quest} {l : List Prb} (h : CPrbR a l 0) : AskOk a ∧ l.length ≤ 8 ∧ ∀ p ∈ l, PrbOk a p := by
  generalize hz : (0 : Int) = z at h
  cases h with
  | ask h he => exact (he hz.symm).elim
  | long => omega
  | bad => omega
  | ok h h1 h2 => exact ⟨h, by omega, h2⟩
theorem RangeR.bd {s : Syst} {w : List Int} {lo hi e : Int} (h : RangeR s w lo hi e) : -4608000000000000000 ≤ lo ∧ lo ≤ 4608000000000000000 ∧ -4608000000000000000 ≤ hi ∧ hi ≤ 4608000000000000000 := by
  cases h with
  | first => omega
  | second => omega
  | ok h1 h2 =>
    have a1 := (h1.2.2 rfl).2
    have a2 := (h2.2.2 rfl).2
    simp only [BB] at a1 a2
    omega
def WidthR (a : Quest) (n e : Int) : Prop := (CAskR a e ∧ e ≠ 0 ∧ n = 0) ∨ (AskOk a ∧ e = 0 ∧ ∃ lo hi, RangeR a.sys a.ws lo hi 0 ∧ n = hi - lo)
theorem CPrbR.nil {a : Quest} {e : Int} (h : CPrbR a [] e) : CAskR a e := by
  cases h with
  | ask h _ => exact h
  | long _ h => simp at h
  | bad _ _ h => exact (h (by simp)).elim
  | ok h _ _ => exact CAskR.zero.2 h
def Lims (ls : List Lim) : List Value := (ls.map Lim.c).flatten
theorem Lims_append (a b : List Lim) : Lims (a ++ b) = Lims a ++ Lims b := by simp [Lims]
theorem Lims_length (ls : List Lim) : (Lims ls).length = ls.length * 4 := by
  induction ls with
  | nil => rfl
  | cons u us ih => simp only [Lims, List.map_cons, List.flatten_cons, List.length_append] at ih ⊢; rw [ih, List.length_cons]; simp only [Lim.c, List.length_cons, List.length_nil]; omega
theorem Lims_cell (ls : List Lim) : ∀ v ∈ Lims ls, v.oneCell' = true := fun v hv => by
  simp only [Lims, List.mem_flatten, List.mem_map] at hv
  obtain ⟨c, ⟨l, _, rfl⟩, hv⟩ := hv
  simp only [Lim.c, List.mem_cons, List.not_mem_nil, or_false] at hv
  rcases hv with rfl | rfl | rfl | rfl <;> rfl
theorem RL.nilOf {H : Heap} {ls : List Lim} {len cap : Nat} (h : RL H (.slice none len cap) ls) : ls = [] := by
  obtain ⟨a, c, e, _, _, h4⟩ := h
  cases e
  cases ls with
  | nil => rfl
  | cons x xs => obtain ⟨_, b, off, h5, _⟩ := h4 0 x.c rfl; cases h5
theorem Lims_one (l : Lim) : Lims [l] = l.c := by simp [Lims]
def movedI (n x : Int) : Int := if x = 0 then 0 else x + n
def Lim.mv (n : Int) (l : Lim) : Lim := ⟨movedI n l.A, movedI n l.B, l.M, l.S⟩
def prbLims (n : Int) (k : Nat) (p : Prb) : List Lim := [⟨p.u, movedI n p.u, 2 * p.t, 90001 + k⟩, ⟨movedI n p.u, p.u, 2 * p.t, 90001 + k⟩]
def prbAll (n : Int) : Nat → List Prb → List Lim
  | _, [] => []
  | k, p :: ps => prbLims n k p ++ prbAll n (k + 1) ps
def dblS (a : Quest) (l : List Prb) : Syst := ⟨2 * a.sys.many, a.sys.lims ++ a.sys.lims.map (Lim.mv a.sys.many) ++ prbAll a.sys.many 0 l⟩
def dblW (w : List Int) : List Int := 0 :: (negW w.tail ++ w.tail)
def PrbIn (a : Quest) (p : Prb) : Prop := (1 ≤ p.u ∧ p.u ≤ a.sys.many) ∧ (0 ≤ p.t ∧ p.t ≤ 1000)
theorem PrbOk.inn {a : Quest} {p : Prb} (h : PrbOk a p) : PrbIn a p := ⟨h.1, h.2.1⟩
end Go.MW

namespace Go.MW
theorem feas_iff {s : Syst} {p : Nat → Int} : Feas s.arcs p ↔ ∀ l ∈ s.lims, p l.B.toNat ≤ p l.A.toNat + l.M := by
  constructor
  · intro h l hl
    obtain ⟨i, hi⟩ := List.getElem?_of_mem hl
    exact h _ (List.mem_of_getElem? (arcsOf_get hi))
  · intro h x hx
    obtain ⟨i, l, h1, rfl⟩ := arcsOf_mem hx
    exact h l (List.mem_of_getElem? h1)
theorem Feas.shift {es : List Arc} {p : Nat → Int} (h : Feas es p) (c : Int) : Feas es (fun v => p v + c) := fun x hx => by
  have := h x hx
  dsimp only; omega
theorem Feas.congr {s : Syst} (h : s.Ok) {p q : Nat → Int} (he : ∀ v < s.n, p v = q v) (hp : Feas s.arcs p) : Feas s.arcs q := feas_iff.2 fun l hl => by
  have h1 := feas_iff.1 hp l hl
  have h2 := h.lim l hl
  have h3 := h.m0
  rw [he _ (by simp only [Syst.n]; omega), he _ (by simp only [Syst.n]; omega)] at h1
  exact h1
def valw (w : List Int) (n : Nat) (p : Nat → Int) : Int := sumTo (fun v => gi w v * (p v - p 0)) n
theorem valw_congr {w : List Int} {n : Nat} {p q : Nat → Int} (hn : 0 < n) (h : ∀ v < n, p v = q v) : valw w n p = valw w n q := sumTo_congr fun v hv => by rw [h v hv, h 0 hn]
theorem valw_shift (w : List Int) (n : Nat) (p : Nat → Int) (c : Int) : valw w n (fun v => p v + c) = valw w n p := sumTo_congr fun v _ => by
  dsimp only; rw [show p v + c - (p 0 + c) = p v - p 0 by omega]
theorem opt_val {s : Syst} {w : List Int} {m : Int} : OptS s.arcs (s.wt w) s.n m ↔ (∃ p, Feas s.arcs p ∧ valw w s.n p = m) ∧ ∀ p, Feas s.arcs p → valw w s.n p ≤ m := by
  unfold OptS Syst.wt valw
  have hn : 0 < s.n := by simp [Syst.n]
  constructor
  · rintro ⟨⟨p, h1, h2⟩, h3⟩
    exact ⟨⟨p, h1, by rw [← h2, wt_val w hn]⟩, fun q hq => by have := h3 q hq; rwa [wt_val w hn] at this⟩
  · rintro ⟨⟨p, h1, h2⟩, h3⟩
    exact ⟨⟨p, h1, by rw [← h2, wt_val w hn]⟩, fun q hq => by rw [wt_val w hn]; exact h3 q hq⟩
theorem valw_neg (w : List Int) (n : Nat) (p : Nat → Int) : valw (negW w) n p = -valw w n p := by
  unfold valw
  rw [← sumTo_neg]
  exact sumTo_congr fun v _ => by rw [gi_neg, Int.neg_mul]
structure EndsS (s : Syst) (w : List Int) (lo hi : Int) : Prop where
  least : ∃ p, Feas s.arcs p ∧ valw w s.n p = lo
  most : ∃ p, Feas s.arcs p ∧ valw w s.n p = hi
  all : ∀ p, Feas s.arcs p → lo ≤ valw w s.n p ∧ valw w s.n p ≤ hi
theorem RangeR.ends {s : Syst} {w : List Int} {lo hi : Int} (h : RangeR s w lo hi 0) : EndsS s w lo hi := by
  generalize hz : (0 : Int) = z at h
  cases h with
  | first _ he => exact (he hz.symm).elim
  | second _ _ he => exact (he hz.symm).elim
  | ok h1 h2 =>
    obtain ⟨⟨p, p1, p2⟩, p3⟩ := opt_val.1 (h1.2.2 rfl).1
    obtain ⟨⟨q, q1, q2⟩, q3⟩ := opt_val.1 (h2.2.2 rfl).1
    rw [valw_neg] at q2
    refine ⟨⟨q, q1, by omega⟩, ⟨p, p1, p2⟩, fun x hx => ⟨?_, p3 x hx⟩⟩
    have := q3 x hx
    rw [valw_neg] at this; omega
theorem OpenS.no {es : List Arc} {wt : Nat → Int} {n : Nat} {p : Nat → Int} {m : Int} (ho : OpenS es wt n) (hp : Feas es p) (hb : ∀ p, Feas es p → sumTo (fun v => wt v * p v) n ≤ m) : False := by
  obtain ⟨q, q1, q2, q3⟩ := ho
  have h1 : ∀ k : Nat, Feas es (fun v => p v + k * q v) := fun k x hx => by
    have h2 := hp x hx
    have h3 := q2 x hx
    have e : k * q x.t ≤ k * q x.f := by
      refine Int.mul_le_mul_of_nonneg_left ?_ (by omega)
      rcases q1 x.f with a | a
      · rw [h3 a, a]; exact Int.le_refl _
      · rcases q1 x.t with b | b <;> omega
    dsimp only; omega
  have h2 : ∀ k : Nat, sumTo (fun v => wt v * (p v + k * q v)) n = sumTo (fun v => wt v * p v) n + k * sumTo (fun v => wt v * q v) n := fun k => by
    rw [← sumTo_mul, ← sumTo_add]
    exact sumTo_congr fun v _ => by rw [Int.mul_add, ← Int.mul_assoc, ← Int.mul_assoc, Int.mul_comm (wt v) k]
  have h3 := hb _ (h1 (m - sumTo (fun v => wt v * p v) n + 1).toNat)
  have h0 := hb p hp
  rw [h2] at h3
  have h4 : ((m - sumTo (fun v => wt v * p v) n + 1).toNat : Int) * 1 ≤ ((m - sumTo (fun v => wt v * p v) n + 1).toNat : Int) * sumTo (fun v => wt v * q v) n := Int.mul_le_mul_of_nonneg_left (by omega) (by omega)
  omega
def Near (l : List Prb) (x y : Nat → Int) : Prop := ∀ p ∈ l, x p.u.toNat - y p.u.toNat ≤ 2 * p.t ∧ y p.u.toNat - x p.u.toNat ≤ 2 * p.t
structure Pair (a : Quest) (l : List Prb) (x y : Nat → Int) : Prop where
  fx : Feas a.sys.arcs x
  fy : Feas a.sys.arcs y
  zero : x 0 = y 0
  near : Near l x y
def PairS (a : Quest) (l : List Prb) (m : Int) : Prop :=
  (∃ x y, Pair a l x y ∧ valw a.ws a.sys.n y - valw a.ws a.sys.n x = m) ∧ ∀ x y, Pair a l x y → valw a.ws a.sys.n y - valw a.ws a.sys.n x ≤ m
theorem PairS.uniq {a : Quest} {l : List Prb} {m k : Int} (h : PairS a l m) (g : PairS a l k) : m = k := by
  obtain ⟨⟨x, y, h1, h2⟩, h3⟩ := h
  obtain ⟨⟨x', y', g1, g2⟩, g3⟩ := g
  have := h3 _ _ g1
  have := g3 _ _ h1
  omega
def joinP (n : Nat) (x y : Nat → Int) : Nat → Int := fun v => if v ≤ n then x v else y (v - n)
def sndP (n : Nat) (z : Nat → Int) : Nat → Int := fun v => if v = 0 then z 0 else z (v + n)
theorem Pair.join {a : Quest} {l : List Prb} (h : AskOk a) (hp : ∀ p ∈ l, PrbIn a p) {x y : Nat → Int} (n : Nat) (hn : (n : Int) = a.sys.many) (g : Pair a l x y) :
    Pair a l (joinP n x y) (sndP n (joinP n x y)) ∧ valw a.ws a.sys.n (sndP n (joinP n x y)) = valw a.ws a.sys.n y ∧ valw a.ws a.sys.n (joinP n x y) = valw a.ws a.sys.n x := by
  have e2 : a.sys.n = n + 1 := by simp only [Syst.n]; omega
  have hx : ∀ v < a.sys.n, x v = joinP n x y v := fun v hv => by unfold joinP; rw [if_pos (by omega)]
  have hy : ∀ v < a.sys.n, y v = sndP n (joinP n x y) v := fun v hv => by
    unfold sndP joinP
    by_cases e : v = 0
    · subst e; rw [if_pos rfl, if_pos (by omega), g.zero]
    · rw [if_neg e, if_neg (by omega), Nat.add_sub_cancel]
  refine ⟨⟨g.fx.congr h.ok hx, g.fy.congr h.ok hy, ?_, fun p hpl => ?_⟩, (valw_congr (by omega) hy).symm, (valw_congr (by omega) hx).symm⟩
  · rw [← hx 0 (by omega), ← hy 0 (by omega), g.zero]
  · have h1 := hp p hpl
    have h2 := g.near p hpl
    obtain ⟨⟨a1, a2⟩, _⟩ := h1
    rw [← hx _ (by omega), ← hy _ (by omega)]
    exact h2
theorem Pair.some {a : Quest} {l : List Prb} (h : AskOk a) (hp : ∀ p ∈ l, PrbIn a p) : ∃ x, Pair a l x x := by
  obtain ⟨lo, hi, hR⟩ := h.range
  obtain ⟨p, h1, _⟩ := hR.ends.least
  exact ⟨p, h1, h1, rfl, fun q hq => by have := hp q hq; unfold PrbIn at this; omega⟩
theorem Pair.le {a : Quest} {l : List Prb} {lo hi : Int} (h : RangeR a.sys a.ws lo hi 0) {x y : Nat → Int} (g : Pair a l x y) : valw a.ws a.sys.n y - valw a.ws a.sys.n x ≤ hi - lo := by
  have h1 := h.ends.all x g.fx
  have h2 := h.ends.all y g.fy
  omega
theorem PairS.nil {a : Quest} {lo hi m : Int} (h : RangeR a.sys a.ws lo hi 0) (g : PairS a [] m) : m = hi - lo := by
  obtain ⟨⟨x, y, g1, g2⟩, g3⟩ := g
  have h1 := Pair.le h g1
  obtain ⟨p, p1, p2⟩ := h.ends.least
  obtain ⟨q, q1, q2⟩ := h.ends.most
  have h2 := g3 (fun v => p v + (q 0 - p 0)) q ⟨p1.shift _, q1, by omega, fun _ h => by cases h⟩
  rw [valw_shift] at h2
  omega
theorem PairS.mono {a : Quest} {l l' : List Prb} {m m' : Int} (hn : ∀ x y, Near l x y → Near l' x y) (g : PairS a l m) (g' : PairS a l' m') : m ≤ m' := by
  obtain ⟨⟨x, y, g1, g2⟩, _⟩ := g
  have := g'.2 x y ⟨g1.fx, g1.fy, g1.zero, hn x y g1.near⟩
  omega
theorem PairS.exact {a : Quest} {l : List Prb} {m : Int} (hp : ∀ v, 0 < v → v < a.sys.n → ∃ p ∈ l, p.u = (v : Int) ∧ p.t = 0) (g : PairS a l m) : m = 0 := by
  obtain ⟨⟨x, y, g1, g2⟩, _⟩ := g
  have : valw a.ws a.sys.n y = valw a.ws a.sys.n x := valw_congr (by simp [Syst.n]) fun v hv => by
    by_cases e : v = 0
    · rw [e, g1.zero]
    · obtain ⟨p, h1, h2, h3⟩ := hp v (by omega) hv
      have h4 := g1.near p h1
      have e5 : p.u.toNat = v := by omega
      rw [e5] at h4
      omega
  omega
end Go.MW

namespace Go.MW
def walkL (n : Nat) : Nat → Nat → List (List Int)
  | 0, _ => [[]]
  | m + 1, f => ((List.range (n - f)).map fun j => (walkL n m (f + j + 1)).map (((f + j : Nat) : Int) :: ·)).flatten
def choicesL (n : Nat) : List (List Int) := ((List.range (min n 3 + 1)).map fun m => walkL n m 0).flatten
section
variable {P : Program} {ro : Option Nat} {K : FS → World → Prop} {H : Heap} {σ : List Ent} {w : World} {n d : Nat} {ds : List Deferred} {e : List (Nat × Value)} {ty t : TypeId} {pos : String} {aft : Array Edge} {x y : Operand}
end
theorem St.mid {H : Heap} {w : World} {x : Ent} {a b : List Ent} (h : St H w (x :: (a ++ b))) : St H w (a ++ (x :: b)) := h.perm List.perm_middle.symm
def chosenL (l : List Prb) (c : List Int) : List Prb := c.filterMap fun i => l[i.toNat]?
end Go.MW

namespace Go.MW
variable {P : Program} {H : Heap} {σ : List Ent} {s : FS} {t : TypeId} {x : Operand}
theorem Is_cell (xs : List Int) : ∀ v ∈ Is xs, v.oneCell' = true := fun v hv => by
  simp only [Is, List.mem_map] at hv
  obtain ⟨x, _, rfl⟩ := hv; rfl
theorem q_sliceLX {elem : TypeId} {a : Option Addr} {len cap m k : Nat} {k1 : IntKind} {lo : Int} (hx : FS.ev s x = some (.slice a len cap)) {yl : Operand} (hl : FS.ev s yl = some (.int k1 lo))
    (hu : ∀ w, (underlying t).run P w = .ok (.slice elem) w) (hz : ∀ w, (sizeOf elem).run P w = .ok m w) (hk : lo = (k : Int)) (h1 : k ≤ len) :
    QJ P H σ s (.slice t x (some yl) none none) (.slice (if cap = k then a else a.map (·.add (k * m))) (len - k) (cap - k)) := by
  subst hk
  have h := q_sliceL (P := P) (H := H) (σ := σ) hx hl hu hz (lo := (k : Int)) ⟨by omega, by omega⟩
  simpa using h
theorem q_sliceHX {elem : TypeId} {a : Option Addr} {len cap m k : Nat} {k1 : IntKind} {hi : Int} (hx : FS.ev s x = some (.slice a len cap)) {yh : Operand} (hh : FS.ev s yh = some (.int k1 hi))
    (hu : ∀ w, (underlying t).run P w = .ok (.slice elem) w) (hz : ∀ w, (sizeOf elem).run P w = .ok m w) (hk : hi = (k : Int)) (h1 : k ≤ cap) :
    QJ P H σ s (.slice t x none (some yh) none) (.slice a k cap) := by
  subst hk; exact q_sliceHI hx hh hu hz h1
theorem RS.tail {m len cap k : Nat} {a : Option Addr} {cs : List (List Value)} (h : RS H m (.slice a len cap) cs) (hk : k ≤ len) : RS H m (.slice (if cap = k then a else a.map (·.add (k * m))) (len - k) (cap - k)) (cs.drop k) := by
  have h1 := h.part hk (Nat.le_refl len)
  have h2 := (RS.len h).1
  rwa [List.take_of_length_le (by omega)] at h1
theorem RS.head {m len cap k : Nat} {a : Option Addr} {cs : List (List Value)} (h : RS H m (.slice a len cap) cs) (hk : k ≤ len) : RS H m (.slice a k cap) (cs.take k) := by
  have h1 := h.part (Nat.zero_le k) hk
  have e : (if cap = 0 then a else a.map (·.add (0 * m))) = a := by
    split
    · rfl
    · cases a <;> simp [Addr.add]
  rw [e] at h1
  simpa using h1
theorem RI.tail {len cap k : Nat} {a : Option Addr} {xs : List Int} (h : RI H (.slice a len cap) xs) (hk : k ≤ len) : RI H (.slice (if cap = k then a else a.map (·.add (k * 1))) (len - k) (cap - k)) (xs.drop k) := by
  have := RS.tail h hk
  unfold RI; rwa [List.map_drop]
theorem RI.head {len cap k : Nat} {a : Option Addr} {xs : List Int} (h : RI H (.slice a len cap) xs) (hk : k ≤ len) : RI H (.slice a k cap) (xs.take k) := by
  have := RS.head h hk
  unfold RI; rwa [List.map_take]
theorem RPs.part {len cap j k : Nat} {a : Option Addr} {l : List Prb} (h : RPs H (.slice a len cap) l) (hj : j ≤ k) (hk : k ≤ len) : RPs H (.slice (if cap = j then a else a.map (·.add (j * 2))) (k - j) (cap - j)) ((l.take k).drop j) := by
  have := RS.part h hj hk
  unfold RPs; rwa [List.map_drop, List.map_take]
def oneP (l : List Prb) (j : Nat) : List Prb := (l.take (j + 1)).drop j
structure MinAt (a : Quest) (l : List Prb) (k i : Nat) (n : Int) : Prop where
  lt : i < k
  here : PairS a (oneP l i) n
  le : ∀ j < k, ∀ m, PairS a (oneP l j) m → n ≤ m
  first : ∀ j < i, ∀ m, PairS a (oneP l j) m → n < m
inductive BestI (a : Quest) (l : List Prb) : Nat → Int → Int → Prop
  | none : BestI a l 0 (-1) 0
  | some {k i : Nat} {n : Int} (h : MinAt a l k i n) : BestI a l k (i : Int) n
theorem BestI.keep {a : Quest} {l : List Prb} {k : Nat} {b n m : Int} (h : BestI a l k b n) (g : PairS a (oneP l k) m) (hb : ¬ b < 0) (hn : ¬ m < n) : BestI a l (k + 1) b n := by
  cases h with
  | none => omega
  | @some _ i _ h =>
    exact .some ⟨by have := h.lt; omega, h.here, fun j hj m' hm => by
      by_cases e : j = k
      · subst e; rw [← g.uniq hm]; omega
      · exact h.le j (by omega) m' hm, h.first⟩
def BestP (a : Quest) (l : List Prb) (x e : Int) : Prop := (l = [] ∧ x = 0 ∧ e = 3) ∨ (∃ (i : Nat) (n : Int), e = 0 ∧ x = (i : Int) ∧ MinAt a l l.length i n)
def meet1 (A B : List Int) (p : Prb) : Int :=
  if ¬ (1 ≤ p.u ∧ p.u ≤ (A.length : Int) - 1) ∨ ¬ (0 ≤ p.t ∧ p.t ≤ 1000) then 91
  else if ¬ (-1280000 ≤ gi A p.u.toNat ∧ gi A p.u.toNat ≤ 1280000) ∨ ¬ (-1280000 ≤ gi B p.u.toNat ∧ gi B p.u.toNat ≤ 1280000) then 25
  else if 2 * p.t < max (gi A p.u.toNat - gi B p.u.toNat) (gi B p.u.toNat - gi A p.u.toNat) then 92 else 0
def meetE (A B : List Int) : List Prb → Int
  | [] => 0
  | p :: ps => if meet1 A B p ≠ 0 then meet1 A B p else meetE A B ps
def meetErr (A B : List Int) (l : List Prb) : Int := if A.length ≠ B.length then 25 else meetE A B l
def TwC (H : Heap) (c : List Value) (t : List Int × List Int) : Prop := ∃ va vb, c = [va, vb] ∧ RI H va t.1 ∧ RI H vb t.2
theorem TwC.mono {H H' : Heap} {c : List Value} {t : List Int × List Int} (h : TwC H c t) (hl : HLe H H') : TwC H' c t := by
  obtain ⟨va, vb, h1, h2, h3⟩ := h; exact ⟨va, vb, h1, h2.mono hl, h3.mono hl⟩
def TwinR (a : Quest) (l : List Prb) (t : List Int × List Int) : Prop := ∃ xs, BestR (dblS a l) (dblW a.ws) xs ∧ t = (xs.take a.sys.n, 0 :: xs.drop a.sys.n)
def FailsAt (a : Quest) (l : List Prb) (H : Heap) (k : Nat) (css : List (List Value)) : Prop :=
  css.length = k ∧ ∀ (j : Nat) (c : List Value) (cj : List Int), css[j]? = some c → (choicesL l.length)[j]? = some cj → c.length = 2 ∧ (∃ t, TwC H c t ∧ TwinR a (chosenL l cj) t) ∧ ∀ m, PairS a (chosenL l cj) m → a.width < m
theorem FailsAt.mono {a : Quest} {l : List Prb} {H H' : Heap} {k : Nat} {css : List (List Value)} (h : FailsAt a l H k css) (hl : HLe H H') : FailsAt a l H' k css :=
  ⟨h.1, fun j c cj h1 h2 => let ⟨g1, ⟨t, g2, g3⟩, g4⟩ := h.2 j c cj h1 h2; ⟨g1, ⟨t, g2.mono hl, g3⟩, g4⟩⟩
theorem FailsAt.snoc {a : Quest} {l : List Prb} {H : Heap} {k : Nat} {css : List (List Value)} {c : List Value} {cj : List Int} {t : List Int × List Int} (h : FailsAt a l H k css) (hk : (choicesL l.length)[k]? = some cj) (hc : c.length = 2)
    (ht : TwC H c t) (hT : TwinR a (chosenL l cj) t) (hm : ∀ m, PairS a (chosenL l cj) m → a.width < m) : FailsAt a l H (k + 1) (css ++ [c]) := by
  refine ⟨by simp [h.1], fun j c' cj' h1 h2 => ?_⟩
  by_cases e : j < css.length
  · rw [List.getElem?_append_left e] at h1; exact h.2 j c' cj' h1 h2
  · have hlt := (List.getElem?_eq_some_iff.1 h1).1
    simp only [List.length_append, List.length_singleton] at hlt
    have e2 : j = css.length := by omega
    subst e2
    rw [List.getElem?_append_right (Nat.le_refl _), Nat.sub_self] at h1
    rw [h.1, hk] at h2
    cases h1; cases h2
    exact ⟨hc, ⟨t, ht, hT⟩, hm⟩
theorem FailsAt.two {a : Quest} {l : List Prb} {H : Heap} {k : Nat} {css : List (List Value)} (h : FailsAt a l H k css) (hk : k ≤ (choicesL l.length).length) : ∀ c ∈ css, c.length = 2 := fun c hc => by
  obtain ⟨j, hj⟩ := List.getElem?_of_mem hc
  have hlt := (List.getElem?_eq_some_iff.1 hj).1
  rw [h.1] at hlt
  exact (h.2 j c _ hj (List.getElem?_eq_getElem (by omega))).1
end Go.MW

namespace Go.MW
variable {P : Program} {ro : Option Nat} {Q : Exit → FS → World → Prop} {K : FS → World → Prop} {ops : Array Oper} {rest : List Oper} {s : FS} {w : World}
  {H : Heap} {σ τ : List Ent} {n d : Nat} {ds : List Deferred} {e : List (Nat × Value)} {op : Op} {ty t ty' : TypeId} {pos : String} {aft : Array Edge} {v : Value} {x yy zz : Operand} {b off : Nat} {c : List Value} {k : IntKind} {p q r : Int}
theorem zm (hx : FS.ev s x = some v := by rfl) : QJ P H σ s (.move x) v := q_move hx
theorem zg (hx : FS.ev s x = some v := by rfl) : QJ P H σ s (.assign x) v := q_assign hx
theorem zpT {u : Value} (hc : FS.ev s x = some (.bool true) := by rfl) (hu : FS.ev s yy = some u := by rfl) : QJ P H σ s (.pick x yy zz) u := q_pickT hc hu
theorem zpF {u : Value} (hc : FS.ev s x = some (.bool false) := by rfl) (hu : FS.ev s zz = some u := by rfl) : QJ P H σ s (.pick x yy zz) u := q_pickF hc hu
theorem zlss (hx : FS.ev s x = some (.int k p) := by rfl) (hy : FS.ev s yy = some (.int k q) := by rfl) : QJ P H σ s (.binOp .lss t x yy ty') (.bool (decide (p < q))) := q_lss hx hy
theorem zleq (hx : FS.ev s x = some (.int k p) := by rfl) (hy : FS.ev s yy = some (.int k q) := by rfl) : QJ P H σ s (.binOp .leq t x yy ty') (.bool (decide (p ≤ q))) := q_leq hx hy
theorem zgtr (hx : FS.ev s x = some (.int k p) := by rfl) (hy : FS.ev s yy = some (.int k q) := by rfl) : QJ P H σ s (.binOp .gtr t x yy ty') (.bool (decide (q < p))) := q_gtr hx hy
theorem zgeq (hx : FS.ev s x = some (.int k p) := by rfl) (hy : FS.ev s yy = some (.int k q) := by rfl) : QJ P H σ s (.binOp .geq t x yy ty') (.bool (decide (q ≤ p))) := q_geq hx hy
theorem zeql (hx : FS.ev s x = some (.int k p) := by rfl) (hy : FS.ev s yy = some (.int k q) := by rfl) : QJ P H σ s (.binOp .eql t x yy ty') (.bool (decide (p = q))) := q_eql hx hy
theorem zneq (hx : FS.ev s x = some (.int k p) := by rfl) (hy : FS.ev s yy = some (.int k q) := by rfl) : QJ P H σ s (.binOp .neq t x yy ty') (.bool (!decide (p = q))) := q_neq hx hy
theorem zrem (hx : FS.ev s x = some (.int k p) := by rfl) (hy : FS.ev s yy = some (.int k q) := by rfl) (h : q ≠ 0 := by omega) : QJ P H σ s (.binOp .rem t x yy ty') (.int k (p.tmod q)) := q_rem hx hy h
theorem zquo (hx : FS.ev s x = some (.int k p) := by rfl) (hy : FS.ev s yy = some (.int k q) := by rfl) (h : q ≠ 0 := by omega) : QJ P H σ s (.binOp .quo t x yy ty') (.int k (k.wrap (p.tdiv q))) := q_quo hx hy h
theorem znot {bb : Bool} (hx : FS.ev s x = some (.bool bb) := by rfl) : QJ P H σ s (.unOp .not t x) (.bool !bb) := q_not hx
inductive AddV : IntKind → Int → Int → Int → Prop
  | fit {p q : Int} (h : -9223372036854775808 ≤ p + q ∧ p + q ≤ 9223372036854775807) : AddV .i64 p q (p + q)
  | u {p q : Int} (h : 0 ≤ p + q ∧ p + q < 18446744073709551616) : AddV .u64 p q (p + q)
  | w {k : IntKind} {p q : Int} : AddV k p q (k.wrap (p + q))
inductive SubV : IntKind → Int → Int → Int → Prop
  | fit {p q : Int} (h : -9223372036854775808 ≤ p - q ∧ p - q ≤ 9223372036854775807) : SubV .i64 p q (p - q)
  | w {k : IntKind} {p q : Int} : SubV k p q (k.wrap (p - q))
inductive MulV : IntKind → Int → Int → Int → Prop
  | fit {p q : Int} (h : -9223372036854775808 ≤ p * q ∧ p * q ≤ 9223372036854775807) : MulV .i64 p q (p * q)
  | u {p q : Int} (h : 0 ≤ p * q ∧ p * q < 18446744073709551616) : MulV .u64 p q (p * q)
  | w {k : IntKind} {p q : Int} : MulV k p q (k.wrap (p * q))
inductive NegV : IntKind → Int → Int → Prop
  | fit {p : Int} (h : -9223372036854775807 ≤ p ∧ p ≤ 9223372036854775807) : NegV .i64 p (-p)
  | w {k : IntKind} {p : Int} : NegV k p (k.wrap (0 - p))
theorem zadd (hx : FS.ev s x = some (.int k p) := by rfl) (hy : FS.ev s yy = some (.int k q) := by rfl) (h : AddV k p q r := by first | exact .fit (by omega) | exact .u ⟨by omega, by omega⟩ | exact .w) : QJ P H σ s (.binOp .add t x yy ty') (.int k r) := by
  cases h with
  | fit h => exact q_addF hx hy h
  | u h => exact q_addU hx hy h
  | w => exact q_add hx hy
theorem zsub (hx : FS.ev s x = some (.int k p) := by rfl) (hy : FS.ev s yy = some (.int k q) := by rfl) (h : SubV k p q r := by first | exact .fit (by omega) | exact .w) : QJ P H σ s (.binOp .sub t x yy ty') (.int k r) := by
  cases h with
  | fit h => exact q_subF hx hy h
  | w => exact q_sub hx hy
theorem zmul (hx : FS.ev s x = some (.int k p) := by rfl) (hy : FS.ev s yy = some (.int k q) := by rfl) (h : MulV k p q r := by first | exact .fit (by omega) | exact .u ⟨by omega, by omega⟩ | exact .w) : QJ P H σ s (.binOp .mul t x yy ty') (.int k r) := by
  cases h with
  | fit h => exact q_mulF hx hy h
  | u h => exact q_mulU hx hy h
  | w => exact q_mul hx hy
theorem zneg (hx : FS.ev s x = some (.int k p) := by rfl) (h : NegV k p r := by first | exact .fit (by omega) | exact .w) : QJ P H σ s (.unOp .neg t x) (.int k r) := by
  cases h with
  | fit h => exact q_negF hx h
  | w => exact q_neg hx
inductive MaxV : IntKind → Int → Int → Int → Prop
  | i {p q : Int} : MaxV .i64 p q (max p q)
  | o {k : IntKind} {p q : Int} : MaxV k p q (if q > p then q else p)
inductive MinV : IntKind → Int → Int → Int → Prop
  | i {p q : Int} : MinV .i64 p q (min p q)
  | o {k : IntKind} {p q : Int} : MinV k p q (if q < p then q else p)
theorem zmax {ts : Array TypeId} (hx : FS.ev s x = some (.int k p) := by rfl) (hy : FS.ev s yy = some (.int k q) := by rfl) (h : MaxV k p q r := by first | exact .i | exact .o) : QJ P H σ s (.call ⟨.builtin .max, #[x, yy], ts⟩) (.int k r) := by
  cases h with
  | i => exact q_maxI hx hy
  | o => exact q_max hx hy
theorem zmin {ts : Array TypeId} (hx : FS.ev s x = some (.int k p) := by rfl) (hy : FS.ev s yy = some (.int k q) := by rfl) (h : MinV k p q r := by first | exact .i | exact .o) : QJ P H σ s (.call ⟨.builtin .min, #[x, yy], ts⟩) (.int k r) := by
  cases h with
  | i => exact q_minI hx hy
  | o => exact q_min hx hy
theorem zfa {o off' kk : Nat} (hf : FA P t kk o) (hx : FS.ev s x = some (.pointer (some ⟨b, off, none⟩)) := by rfl) (ho : off' = off + o := by first | exact (Nat.zero_add _).symm | rfl) : QJ P H σ s (.fieldAddr t x kk) (.pointer (some ⟨b, off', none⟩)) := by
  subst ho; exact q_fa hx hf
theorem zex {vs : Array Value} {j : Nat} (hx : FS.ev s x = some (.tuple vs) := by rfl) (hv : vs[j]? = some v := by rfl) : QJ P H σ s (.extract x j) v := q_extract hx hv
theorem znc {a' : Addr} (hx : FS.ev s x = some (.pointer (some a')) := by rfl) : QJ P H σ s (.nilCheck x) (.pointer (some a')) := q_nilCheckP hx
inductive LenV : Value → Nat → Prop
  | sl {a' : Option Addr} {len cap : Nat} : LenV (.slice a' len cap) len
  | rs {H : Heap} {m : Nat} {v : Value} {cs : List (List Value)} (h : RS H m v cs) : LenV v cs.length
  | ri {H : Heap} {v : Value} {xs : List Int} (h : RI H v xs) : LenV v xs.length
theorem zlen {elem : TypeId} {j : Nat} (hu : ∀ w, (underlying t).run P w = .ok (.slice elem) w) (hx : FS.ev s x = some v := by rfl) (h : LenV v j := by first | exact .sl | exact .ri (by assumption) | exact .rs (by assumption)) : QJ P H σ s (.call ⟨.builtin .len, #[x], #[t]⟩) (.int .i64 j) := by
  cases h with
  | sl => exact q_len hx hu
  | rs h => obtain ⟨a, cap, rfl⟩ := h.shape; exact q_len hx hu
  | ri h => obtain ⟨a, cap, rfl⟩ := h.shape; exact q_len hx hu
theorem zix {len cap j : Nat} {elem : TypeId} {i : Int} (hu : ∀ w, (underlying t).run P w = .ok (.slice elem) w) (hz : ∀ w, (sizeOf elem).run P w = .ok 1 w) (hx : FS.ev s x = some (.slice (some ⟨b, 0, none⟩) len cap) := by rfl) (hy : FS.ev s yy = some (.int k i) := by rfl)
    (hi : i = (j : Int) := by first | rfl | omega) (hk : j < len := by first | assumption | omega) : QJ P H σ s (.indexAddr t x yy) (.pointer (some ⟨b, j, none⟩)) := q_ixO hx hy hu hz hi hk
theorem zixm {len cap j m : Nat} {elem : TypeId} {i : Int} (hu : ∀ w, (underlying t).run P w = .ok (.slice elem) w) (hz : ∀ w, (sizeOf elem).run P w = .ok m w) (hx : FS.ev s x = some (.slice (some ⟨b, 0, none⟩) len cap) := by rfl) (hy : FS.ev s yy = some (.int k i) := by rfl)
    (hi : i = (j : Int) := by first | rfl | omega) (hk : j < len := by first | assumption | omega) : QJ P H σ s (.indexAddr t x yy) (.pointer (some ⟨b, j * m, none⟩)) := q_ixOm hx hy hu hz hi hk
theorem zbd {pl : List (Nat × Nat)} {zero : List Value} {ps : List (Nat × Operand)} {vs : List (Nat × Value)} (cells : List Value) (hb : BldT P t pl zero) (hp : evp s ps = some vs := by rfl)
    (hc : Instr.fill (fun i => pl[i]?) zero.toArray vs = some cells.toArray := by rfl) : QJ P H σ s (.build t ps.toArray) (.agg cells.toArray) := q_build hb hp hc
inductive RdV (H : Heap) (σ : List Ent) (b off : Nat) (v : Value) : Prop
  | own {c : List Value} (hm : Mem σ (.blk b c)) (hv : c[off]? = some v)
  | ro (h : cellAt H b off = some v)
inductive RdVs (H : Heap) (σ : List Ent) (b off : Nat) (vs : List Value) : Prop
  | own {c : List Value} (hm : Mem σ (.blk b c)) (hv : (c.drop off).take vs.length = vs)
  | ro (h : CellsAt H b off vs)
theorem zld (ha : ∀ w, (isAgg t).run P w = .ok false w) (hx : FS.ev s x = some (.pointer (some ⟨b, off, none⟩)) := by rfl)
    (hr : RdV H σ b off v := by first | exact .own (by repeat (first | exact .here | refine .there ?_)) (by first | rfl | exact Is_gi (by first | assumption | omega)) | exact .ro (by assumption)) : QJ P H σ s (.load t x) v := by
  cases hr with
  | own hm hv => exact q_load hx ha hm hv
  | ro h => exact q_loadR hx ha h
theorem zls (vs : List Value) (ha : ∀ w, (isAgg t).run P w = .ok true w) (hz : ∀ w, (sizeOf t).run P w = .ok vs.length w) (hx : FS.ev s x = some (.pointer (some ⟨b, off, none⟩)) := by rfl)
    (hr : RdVs H σ b off vs := by first | exact .own (by repeat (first | exact .here | refine .there ?_)) (by rfl) | exact .ro (by assumption)) : QJ P H σ s (.load t x) (.agg vs.toArray) := by
  cases hr with
  | own hm hv => exact q_loads hx ha hz hm hv
  | ro h => exact q_loadsR hx ha hz h
theorem WO.z (hq : QJ P .bot [] ⟨n, ds, e⟩ op v) (k : WO P ro ops rest K ⟨n, ds, (d, v) :: e⟩ w) (hd : Nat.blt d n = true := by rfl) :
    WO P ro ops (⟨some d, op, ty, pos, aft, none⟩ :: rest) K ⟨n, ds, e⟩ w := .q (St.triv w) hq k hd
theorem WO.y (hs : St H w σ) (hq : QJ P H σ ⟨n, ds, e⟩ op v) (k : WO P ro ops rest K ⟨n, ds, (d, v) :: e⟩ w) (hd : Nat.blt d n = true := by rfl) :
    WO P ro ops (⟨some d, op, ty, pos, aft, none⟩ :: rest) K ⟨n, ds, e⟩ w := .q hs hq k hd
theorem WO.ixv {xs : List Int} {j : Nat} {x' : Int} {elem : TypeId} {q : IntKind} {i : Int} (hs : St H w σ) (hu : ∀ w, (underlying t).run P w = .ok (.slice elem) w) (hz : ∀ w, (sizeOf elem).run P w = .ok 1 w)
    (kk : ∀ b off, cellAt H b off = some (I x') → WO P ro ops rest K ⟨n, ds, (d, .pointer (some ⟨b, off, none⟩)) :: e⟩ w)
    (hx : FS.ev ⟨n, ds, e⟩ x = some v := by rfl) (hr : RI H v xs := by assumption) (hy : FS.ev ⟨n, ds, e⟩ yy = some (.int q i) := by rfl) (hk : xs[j]? = some x' := by assumption) (hi : i = (j : Int) := by first | rfl | omega) (hd : Nat.blt d n = true := by rfl) :
    WO P ro ops (⟨some d, .indexAddr t x yy, ty, pos, aft, none⟩ :: rest) K ⟨n, ds, e⟩ w := .ixY hs hr hx hy hu hz hk hi kk hd
theorem WO.ixw {α : Type} {enc : α → List Value} {xs : List α} {m j : Nat} {x' : α} {elem : TypeId} {q : IntKind} {i : Int} (hs : St H w σ) (hu : ∀ w, (underlying t).run P w = .ok (.slice elem) w) (hz : ∀ w, (sizeOf elem).run P w = .ok m w)
    (kk : ∀ b off, CellsAt H b off (enc x') → WO P ro ops rest K ⟨n, ds, (d, .pointer (some ⟨b, off, none⟩)) :: e⟩ w)
    (hx : FS.ev ⟨n, ds, e⟩ x = some v := by rfl) (hr : RS H m v (xs.map enc) := by assumption) (hy : FS.ev ⟨n, ds, e⟩ yy = some (.int q i) := by rfl) (hk : xs[j]? = some x' := by assumption) (hi : i = (j : Int) := by first | rfl | omega) (hd : Nat.blt d n = true := by rfl) :
    WO P ro ops (⟨some d, .indexAddr t x yy, ty, pos, aft, none⟩ :: rest) K ⟨n, ds, e⟩ w := .ixX hs hr hx hy hu hz hk hi kk hd
variable {fuel : Nat} {g : Option (Nat × Bool)} {Pm : List Prom} {listed listed' : List Bool}
theorem DO.z (i : Nat) (hi : ops[i]? = some ⟨some d, op, ty, pos, aft, g⟩) (hq : QJ P .bot [] ⟨n, ds, e⟩ op v) (k : DO P ro ops K fuel listed' Pm ⟨n, ds, (d, v) :: e⟩ w)
    (hb : takeB ops listed.toArray i = true := by kernel_rfl) (hg : GOk ops e g := by first | exact .none | exact .some rfl rfl) (hl : listed.set i true = listed' := by rfl) (hd : Nat.blt d n = true := by rfl) : DO P ro ops K (fuel + 1) listed Pm ⟨n, ds, e⟩ w := .p hi hb hg hq k hl hd
inductive LdV (H : Heap) (σ : List Ent) (b off : Nat) (v : Value) : Heap × List Ent → Prop
  | own {c : List Value} (hm : Mem σ (.blk b c)) (hv : c[off]? = some v) : LdV H σ b off v (.bot, [.blk b c])
  | ro (h : cellAt H b off = some v) : LdV H σ b off v (H, [])
inductive LdVs (H : Heap) (σ : List Ent) (b off : Nat) (vs : List Value) : Heap × List Ent → Prop
  | own {c : List Value} (hm : Mem σ (.blk b c)) (hv : (c.drop off).take vs.length = vs) : LdVs H σ b off vs (.bot, [.blk b c])
  | ro (h : CellsAt H b off vs) : LdVs H σ b off vs (H, [])
theorem DO.y {pr : Heap × List Ent} (i : Nat) (hi : ops[i]? = some ⟨some d, .load t x, ty, pos, aft, g⟩) (_ : St H w σ) (ha : ∀ w, (isAgg t).run P w = .ok false w) (k : DO P ro ops K fuel listed' ((i, pr) :: Pm) ⟨n, ds, (d, v) :: e⟩ w)
    (hx : FS.ev ⟨n, ds, e⟩ x = some (.pointer (some ⟨b, off, none⟩)) := by rfl)
    (hr : LdV H σ b off v pr := by first | exact .own (by repeat (first | exact .here | refine .there ?_)) (by first | rfl | exact Is_gi (by first | assumption | omega)) | exact .ro (by assumption))
    (hb : takeB ops listed.toArray i = true := by kernel_rfl) (hg : GOk ops e g := by first | exact .none | exact .some rfl rfl) (hl : listed.set i true = listed' := by rfl) (hd : Nat.blt d n = true := by rfl) : DO P ro ops K (fuel + 1) listed Pm ⟨n, ds, e⟩ w := by
  cases hr with
  | own hm hv => exact .q [.blk b _] hi hb hg (q_load hx ha .here hv) k hl hd
  | ro h => exact .q [] hi hb hg (q_loadR hx ha h) k hl hd
theorem DO.ys {pr : Heap × List Ent} (i : Nat) (hi : ops[i]? = some ⟨some d, .load t x, ty, pos, aft, g⟩) (_ : St H w σ) (vs : List Value) (ha : ∀ w, (isAgg t).run P w = .ok true w) (hz : ∀ w, (sizeOf t).run P w = .ok vs.length w) (k : DO P ro ops K fuel listed' ((i, pr) :: Pm) ⟨n, ds, (d, .agg vs.toArray) :: e⟩ w)
    (hx : FS.ev ⟨n, ds, e⟩ x = some (.pointer (some ⟨b, off, none⟩)) := by rfl)
    (hr : LdVs H σ b off vs pr := by first | exact .own (by repeat (first | exact .here | refine .there ?_)) (by rfl) | exact .ro (by assumption))
    (hb : takeB ops listed.toArray i = true := by kernel_rfl) (hg : GOk ops e g := by first | exact .none | exact .some rfl rfl) (hl : listed.set i true = listed' := by rfl) (hd : Nat.blt d n = true := by rfl) : DO P ro ops K (fuel + 1) listed Pm ⟨n, ds, e⟩ w := by
  cases hr with
  | own hm hv => exact .q [.blk b _] hi hb hg (q_loads hx ha hz .here hv) k hl hd
  | ro h => exact .q [] hi hb hg (q_loadsR hx ha hz h) k hl hd
theorem DO.ixv {xs : List Int} {j : Nat} {x' : Int} {elem : TypeId} {q : IntKind} {i' : Int} (i : Nat) (hi : ops[i]? = some ⟨some d, .indexAddr t x yy, ty, pos, aft, g⟩) (hs : St H w σ) (hu : ∀ w, (underlying t).run P w = .ok (.slice elem) w) (hz : ∀ w, (sizeOf elem).run P w = .ok 1 w)
    (kk : ∀ b off, cellAt H b off = some (I x') → DO P ro ops K fuel listed' Pm ⟨n, ds, (d, .pointer (some ⟨b, off, none⟩)) :: e⟩ w)
    (hx : FS.ev ⟨n, ds, e⟩ x = some v := by rfl) (hr : RI H v xs := by assumption) (hy : FS.ev ⟨n, ds, e⟩ yy = some (.int q i') := by rfl) (hk : xs[j]? = some x' := by assumption) (hij : i' = (j : Int) := by first | rfl | omega)
    (hb : takeB ops listed.toArray i = true := by kernel_rfl) (hg : GOk ops e g := by first | exact .none | exact .some rfl rfl) (hl : listed.set i true = listed' := by rfl) (hd : Nat.blt d n = true := by rfl) : DO P ro ops K (fuel + 1) listed Pm ⟨n, ds, e⟩ w :=
  .ixX (enc := fun x => [I x]) hs hi hb hg hr hx hy hu hz hk hij (fun b off hc => kk b off hc.one) hl hd
theorem DO.ixw {α : Type} {enc : α → List Value} {xs : List α} {m j : Nat} {x' : α} {elem : TypeId} {q : IntKind} {i' : Int} (i : Nat) (hi : ops[i]? = some ⟨some d, .indexAddr t x yy, ty, pos, aft, g⟩) (hs : St H w σ) (hu : ∀ w, (underlying t).run P w = .ok (.slice elem) w) (hz : ∀ w, (sizeOf elem).run P w = .ok m w)
    (kk : ∀ b off, CellsAt H b off (enc x') → DO P ro ops K fuel listed' Pm ⟨n, ds, (d, .pointer (some ⟨b, off, none⟩)) :: e⟩ w)
    (hx : FS.ev ⟨n, ds, e⟩ x = some v := by rfl) (hr : RS H m v (xs.map enc) := by assumption) (hy : FS.ev ⟨n, ds, e⟩ yy = some (.int q i') := by rfl) (hk : xs[j]? = some x' := by assumption) (hij : i' = (j : Int) := by first | rfl | omega)
    (hb : takeB ops listed.toArray i = true := by kernel_rfl) (hg : GOk ops e g := by first | exact .none | exact .some rfl rfl) (hl : listed.set i true = listed' := by rfl) (hd : Nat.blt d n = true := by rfl) : DO P ro ops K (fuel + 1) listed Pm ⟨n, ds, e⟩ w :=
  .ixX hs hi hb hg hr hx hy hu hz hk hij kk hl hd
end Go.MW

namespace Go.MW
section
variable {P : Program} {H : Heap} {σ : List Ent} {s : FS} {x y : Operand} {t : TypeId}
theorem run_eqI {d : Nat} {t : TypeId} {a b : Int} {w : World} (hu : ∀ w, (underlying t).run P w = .ok (.int .i64) w) : (Op.equalIn (d + 1) t (I a) (I b)).run P w = .ok (a == b) w := by
  simp [Op.equalIn, hu w]
theorem run_eqS2 {d : Nat} {f0 f1 : Field} {a0 a1 b0 b1 : Int} {w : World} (hu : ∀ w, (underlying t).run P w = .ok (.struct #[f0, f1]) w) (hh : P.stoodInHeld t = false)
    (hf : ∀ f ∈ [f0, f1], f.name ≠ "_" ∧ (∀ w, (underlying f.type).run P w = .ok (.int .i64) w) ∧ (∀ w, (isAgg f.type).run P w = .ok false w)) (o0 : f0.offset = 0) (o1 : f1.offset = 1) :
    (Op.equalIn (d + 2) t (.agg #[I a0, I a1]) (.agg #[I b0, I b1])).run P w = .ok (decide (a0 = b0 ∧ a1 = b1)) w := by
  obtain ⟨n0, u0, g0⟩ := hf f0 (by simp)
  obtain ⟨n1, u1, g1⟩ := hf f1 (by simp)
  unfold Op.equalIn
  simp only [Sem.run_bind, hu w, Result.andThen]
  simp [hh, n0, n1, o0, o1, part, g0, g1, run_eqI u0, run_eqI u1]
  by_cases h0 : a0 = b0 <;> by_cases h1 : a1 = b1 <;> simp [h0, h1]
end
end Go.MW

namespace Go.MW
theorem mostR_of {s : Syst} {w : List Int} {U : Int} {p : Nat → Int} (hA : askErr s w = 0) (hp : Feas s.arcs p) (hv : valw w s.n p = U) (hall : ∀ x, Feas s.arcs x → valw w s.n x ≤ U) (hb : -BB ≤ U ∧ U ≤ BB) : MostR s w U 0 := by
  have ho : OptS s.arcs (s.wt w) s.n U := opt_val.2 ⟨⟨p, hp, hv⟩, hall⟩
  exact ⟨.ok hA ⟨p, hp⟩ (fun h => h.no hp ho.2), fun h => (h rfl).elim, fun _ => ⟨ho, hb.2, hb.1⟩⟩
theorem rangeR_of {s : Syst} {w : List Int} {L U : Int} {p q : Nat → Int} (hA : askErr s w = 0) (hp : Feas s.arcs p) (hv : valw w s.n p = L) (hq : Feas s.arcs q) (hu : valw w s.n q = U)
    (hall : ∀ x, Feas s.arcs x → L ≤ valw w s.n x ∧ valw w s.n x ≤ U) (hb : -BB ≤ L ∧ L ≤ BB) (hc : -BB ≤ U ∧ U ≤ BB) : RangeR s w L U 0 := by
  have h1 := mostR_of hA hq hu (fun x hx => (hall x hx).2) hc
  have h2 : MostR s (negW w) (-L) 0 := mostR_of (by rw [askErr_neg]; exact hA) hp (by rw [valw_neg, hv]) (fun x hx => by have := (hall x hx).1; rw [valw_neg]; omega) ⟨by omega, by omega⟩
  have := RangeR.ok h1 h2
  rwa [Int.neg_neg] at this
theorem askErr_zero {s : Syst} {w : List Int} (h : s.Ok) (hw : w.length = s.n) (hz : SizedW w) : askErr s w = 0 := by
  unfold askErr
  rw [s.ok_iff.2 h, if_neg (by omega), if_pos ⟨hw, hz⟩]
def pt (a b : Int) : Nat → Int := fun v => if v = 1 then a else if v = 2 then b else 0
theorem BB_eq : BB = 4608000000000000000 := rfl
end Go.MW

namespace Go.MW
theorem max_exists {S : Int → Prop} {B : Int} (h : ∃ m, S m) (hb : ∀ m, S m → m ≤ B) : ∃ m, S m ∧ ∀ k, S k → k ≤ m := by
  obtain ⟨m0, h0⟩ := h
  have key : ∀ (n : Nat) (m : Int), S m → B - m ≤ n → ∃ m, S m ∧ ∀ k, S k → k ≤ m := by
    intro n
    induction n with
    | zero => exact fun m hm hle => ⟨m, hm, fun k hk => by have := hb k hk; omega⟩
    | succ n ih =>
      intro m hm hle
      by_cases hx : ∃ k, S k ∧ m < k
      · obtain ⟨k, hk, hlt⟩ := hx
        exact ih k hk (by omega)
      · exact ⟨m, hm, fun k hk => Int.not_lt.1 fun hlt => hx ⟨k, hk, hlt⟩⟩
  exact key (B - m0).toNat m0 h0 (by have := hb m0 h0; omega)
theorem range_exists {s : Syst} {w : List Int} {p : Nat → Int} {B : Int} (hA : askErr s w = 0) (hp : Feas s.arcs p) (hB : B ≤ BB) (hb : ∀ x, Feas s.arcs x → -B ≤ valw w s.n x ∧ valw w s.n x ≤ B) : ∃ lo hi, RangeR s w lo hi 0 ∧ -B ≤ lo ∧ hi ≤ B := by
  obtain ⟨hi, ⟨q, q1, q2⟩, h2⟩ := max_exists (S := fun m => ∃ x, Feas s.arcs x ∧ valw w s.n x = m) (B := B) ⟨_, p, hp, rfl⟩ (fun m ⟨x, hx, e⟩ => by have := (hb x hx).2; omega)
  obtain ⟨lo', ⟨r, r1, r2⟩, h3⟩ := max_exists (S := fun m => ∃ x, Feas s.arcs x ∧ -valw w s.n x = m) (B := B) ⟨_, p, hp, rfl⟩ (fun m ⟨x, hx, e⟩ => by have := (hb x hx).1; omega)
  have b1 := hb q q1
  have b2 := hb r r1
  exact ⟨-lo', hi, rangeR_of hA r1 (by omega) q1 q2 (fun x hx => ⟨by have := h3 _ ⟨x, hx, rfl⟩; omega, h2 _ ⟨x, hx, rfl⟩⟩) (by omega) (by omega), by omega, by omega⟩
structure MadeQ (a : Quest) : Prop where
  many : 1 ≤ a.sys.many ∧ a.sys.many ≤ 5
  ok : a.sys.Ok
  lims : a.sys.lims.length ≤ 18
  wl : a.ws.length = a.sys.n
  ws : ∀ k, -4 ≤ gi a.ws k ∧ gi a.ws k ≤ 8
  width : 0 ≤ a.width ∧ a.width < 400
  hull : ∃ p : Nat → Int, Feas a.sys.arcs p
  box : ∀ x, Feas a.sys.arcs x → ∀ v < a.sys.n, -59 ≤ x v - x 0 ∧ x v - x 0 ≤ 178
theorem sumTo_abs {f : Nat → Int} {B : Int} : ∀ {n : Nat}, (∀ v < n, -B ≤ f v ∧ f v ≤ B) → -(n * B) ≤ sumTo f n ∧ sumTo f n ≤ n * B
  | 0, _ => by simp [sumTo]
  | n + 1, h => by
    have h1 := sumTo_abs (n := n) (fun v hv => h v (by omega))
    have h2 := h n (by omega)
    have e : ((n + 1 : Nat) : Int) * B = n * B + B := by rw [Int.natCast_add, Int.add_mul]; omega
    simp only [sumTo]; rw [e]; omega
theorem mul_bd {a b : Int} {A B : Nat} (ha : -(A : Int) ≤ a ∧ a ≤ A) (hb : -(B : Int) ≤ b ∧ b ≤ B) : -((A * B : Nat) : Int) ≤ a * b ∧ a * b ≤ ((A * B : Nat) : Int) := by
  have h1 : (a * b).natAbs ≤ A * B := by rw [Int.natAbs_mul]; exact Nat.mul_le_mul (by omega) (by omega)
  omega
theorem MadeQ.bounded {a : Quest} (h : MadeQ a) {w : List Int} (hw : ∀ k, -8 ≤ gi w k ∧ gi w k ≤ 8) {x : Nat → Int} (hx : Feas a.sys.arcs x) : -8544 ≤ valw w a.sys.n x ∧ valw w a.sys.n x ≤ 8544 := by
  have hn : a.sys.n ≤ 6 := by have := h.many; simp only [Syst.n]; omega
  have h1 := sumTo_abs (f := fun v => gi w v * (x v - x 0)) (B := 1424) (n := a.sys.n) (fun v hv => by
    have h2 := h.box x hx v hv
    have h3 := hw v
    exact mul_bd (A := 8) (B := 178) (by omega) (by omega))
  unfold valw
  have h4 : (a.sys.n : Int) * 1424 ≤ 8544 := by omega
  omega
theorem sized_small {w : List Int} (hw : ∀ k, -8 ≤ gi w k ∧ gi w k ≤ 8) {k : Nat} (hk : k ≤ 6) : sizesTo w k ≤ 48 := by
  have h1 := sumTo_abs (f := fun v => max (gi w v) (-gi w v)) (B := 8) (n := k) (fun v _ => by have := hw v; omega)
  unfold sizesTo
  omega
theorem MadeQ.range {a : Quest} (h : MadeQ a) {w : List Int} (hl : w.length = a.sys.n) (hw : ∀ k, -8 ≤ gi w k ∧ gi w k ≤ 8) : ∃ lo hi, RangeR a.sys w lo hi 0 ∧ -8544 ≤ lo ∧ hi ≤ 8544 := by
  obtain ⟨p, hp⟩ := h.hull
  have hn : a.sys.n ≤ 6 := by have := h.many; simp only [Syst.n]; omega
  exact range_exists (askErr_zero h.ok hl (by unfold SizedW; have := sized_small hw (k := w.length) (by omega); have : FF = 3600000000000 := rfl; omega)) hp (by rw [BB_eq]; omega) (fun x hx => h.bounded hw hx)
theorem MadeQ.ask {a : Quest} (h : MadeQ a) : AskOk a := by
  have hw : ∀ k, -8 ≤ gi a.ws k ∧ gi a.ws k ≤ 8 := fun k => by have := h.ws k; omega
  obtain ⟨lo, hi, h1, _⟩ := h.range h.wl hw
  have hn : a.sys.n ≤ 6 := by have := h.many; simp only [Syst.n]; omega
  exact ⟨h.ok, by have := h.many; omega, by have := h.lims; omega, h.wl, by have := sized_small hw hn; omega, by have := h.width; omega, lo, hi, h1⟩
end Go.MW

namespace Go.MW
open Go.ChangeShapes Go.WideShapes Go.RowKit Go.Deep
def I64 (x : Int) : Prop := -9223372036854775808 ≤ x ∧ x ≤ 9223372036854775807
structure Kept (W w' : World) : Prop where
  os : w'.os = W.os
  output : w'.output = W.output
  block : ∀ k, k < W.heap.size → w'.heap[k]? = W.heap[k]?
theorem St.kept {W w' : World} {H' : Heap} {σ : List Ent} (hl : HLe (hp W) H') (hs : St H' w' σ) : Kept W w' := by
  have := hs.io _ (hl.2 (W.os, W.output) rfl)
  simp only [Prod.mk.injEq] at this
  refine ⟨this.1.symm, this.2.symm, fun k hk => ?_⟩
  have e : W.heap[k]? = some W.heap[k] := Array.getElem?_eq_getElem hk
  rw [e]; exact hs.ro k _ (hl.1 k _ e)
theorem Kept.frame {W w' : World} (h : Kept W w') (may : MemPlace → Prop) : W.keptBut w' may := by
  refine ⟨h.os, h.output, fun i hi => ?_⟩
  rw [h.block i hi]
  split <;> simp_all
theorem Kept.same {W w' : World} (h : Kept W w') {p : MemPlace} (hp : p.block < W.heap.size) : W.sameAt w' p := by
  cases p with
  | cell b o => exact World.cell?_of_block (w := W) (h.block b hp)
  | map b => exact h.block b hp
theorem Kept.trod {H : Type} {enc : TypeId × Value → H} {P : Program} {t : TypeId} (hl : laidOutB P = true) (hr : P.readableRec t = true) (hrow : t < P.types.size) {W W' : World} {v : Value} {d : DataW H} {ps : List MemPlace}
    (h : DataW.Trod enc P W 0 (fun _ => true) true t v d ps) (hb : Kept W W') (hlt : ∀ x ∈ ps, x.block < W.heap.size) :
    DataW.Trod enc P W' 0 (fun b => decide (b < W.heap.size)) true t v d ps :=
  WideElems.Trod_stays hl hr hrow h (fun x hx => hb.same (hlt x hx)) (fun x hx => by simpa using hlt x hx)
theorem Kept.trodAll {H : Type} {enc : TypeId × Value → H} {P : Program} (hl : laidOutB P = true) {W W' : World} (hb : Kept W W') :
    ∀ {ts : List TypeId} {vs : List Value} {ds : List (DataW H)} {ps : List MemPlace}, (∀ t ∈ ts, P.readableRec t = true ∧ t < P.types.size) → DataW.TrodAll enc P W 0 (fun _ => true) true ts vs ds ps →
      DataW.TrodAll enc P W' 0 (fun b => decide (b < W.heap.size)) true ts vs ds ps
  | [], _, _, _, _, h => by obtain ⟨rfl, rfl, rfl⟩ := trodAll_nil h; exact trodAll_mk0
  | t :: ts, _, _, _, hr, h => by
    obtain ⟨v, vs', d, ds', p, q, rfl, rfl, rfl, h1, h2⟩ := trodAll_cons h
    obtain ⟨m, hm⟩ := id h1
    exact trodAll_cons_mk (Kept.trod hl (hr t (.head _)).1 (hr t (.head _)).2 h1 hb (DataW.trod_lt m _ _ _ hm)) (Kept.trodAll hl hb (fun t ht => hr t (.tail _ ht)) h2)
def Wt {H : Type} (P : Program) (t : TypeId) (d : DataW H) : Prop := ∀ n ∈ d.weights P t, n ≤ reachBytes
theorem weights_mem_all {H : Type} {P : Program} {e : TypeId} : ∀ {l : List (DataW H)} {d : DataW H}, d ∈ l → ∀ n ∈ d.weights P e, n ∈ DataW.weightsAll P e l
  | x :: l, d, h, n, hn => by
    simp only [DataW.weightsAll, List.mem_append]
    cases h with
    | head => exact .inl hn
    | tail _ h => exact .inr (weights_mem_all h n hn)
theorem Wt.part {H : Type} {P : Program} {t : TypeId} {fs : Array Field} {ds : List (DataW H)} (h : Wt P t (.agg ds)) (ht : P.underlying t = some (.struct fs)) {i : Nat} {f : Field} {d : DataW H} (hi : fs[i]? = some f) (hd : ds[i]? = some d) : Wt P f.type d := fun n hn => by
  refine h n ?_
  simp only [DataW.weights, ht]
  exact DataW.weights_mem_each (by simp [List.getElem?_map, Array.getElem?_toList, hi]) hd n hn
theorem Wt.item {H : Type} {P : Program} {t e : TypeId} {k : Nat} {ds : List (DataW H)} (h : Wt P t (.agg ds)) (ht : P.underlying t = some (.array k e)) {d : DataW H} (hd : d ∈ ds) : Wt P e d := fun n hn => by
  refine h n ?_
  simp only [DataW.weights, ht]
  exact weights_mem_all hd n hn
theorem Wt.len {H : Type} {P : Program} {t e : TypeId} {es sp : List (DataW H)} (h : Wt P t (.slice es sp)) (ht : P.underlying t = some (.slice e)) : es.length * P.bytesOf e ≤ reachBytes := by
  have := h ((es.length + sp.length) * P.bytesOf e) (by simp [DataW.weights, ht])
  rw [Nat.add_mul] at this; omega
theorem Wt.elem {H : Type} {P : Program} {t e : TypeId} {es sp : List (DataW H)} (h : Wt P t (.slice es sp)) (ht : P.underlying t = some (.slice e)) {d : DataW H} (hd : d ∈ es) : Wt P e d := fun n hn => by
  refine h n ?_
  simp only [DataW.weights, ht, List.mem_cons, List.mem_append]
  exact .inr (.inl (weights_mem_all hd n hn))
section
variable {H : Type} {enc : TypeId × Value → H} {P : Program} {w : World} {sp : Nat → Bool} {held : Bool} {t e : TypeId} {fuel : Nat} {cs : List Value} {x : DataW H × List MemPlace}
theorem wf64 {n : Int} (h : (Lit.int .i64 n).wf = true) : I64 n := by
  simpa [Lit.wf, IntKind.min, IntKind.max, I64, IntKind.signed, IntKind.bits] using h
theorem trod_i (ht : P.underlying t = some (.int .i64)) (h : DataW.trod enc P w 0 sp held fuel t cs = some x) : ∃ n, cs = [I n] ∧ I64 n := by
  obtain ⟨n, h1, _, h2⟩ := DataW.trod_int ht h
  exact ⟨n, h1, wf64 h2⟩
theorem fld {fs : Array Field} {xs : List (DataW H × List MemPlace)} (hg : ∀ (i : Nat) (f : Field), fs[i]? = some f → DataW.trod enc P w 0 sp held fuel f.type ((cs.drop f.offset).take (P.cellsOf f.type)) = xs[i]?)
    (hl : xs.length = fs.size) (i : Nat) {f : Field} (hi : fs[i]? = some f) {t' : TypeId} {o k : Nat} (ht : f.type = t') (ho : f.offset = o) (hk : P.cellsOf t' = k) {t0 : TypeId} (h0 : P.underlying t0 = some (.struct fs)) (hw : Wt P t0 (.agg (xs.map (·.1)))) :
    ∃ y, DataW.trod enc P w 0 sp held fuel t' ((cs.drop o).take k) = some y ∧ Wt P t' y.1 := by
  have h := hg i f hi
  subst ht; subst ho; subst hk
  have hlt : i < xs.length := by rw [hl]; exact (Array.getElem?_eq_some_iff.1 hi).1
  rw [List.getElem?_eq_getElem hlt] at h
  exact ⟨_, h, hw.part h0 hi (by simp [hlt])⟩
theorem all_ints : ∀ (cs : List Value), (∀ i, i < cs.length → ∃ n, (cs.drop i).take 1 = [I n] ∧ I64 n) → ∃ xs : List Int, cs = Is xs ∧ ∀ z ∈ xs, I64 z
  | [], _ => ⟨[], rfl, fun _ h => by cases h⟩
  | c :: cs, h => by
    obtain ⟨xs, h1, h2⟩ := all_ints cs (fun i hi => h (i + 1) (by simpa using hi))
    obtain ⟨n, h3, h4⟩ := h 0 (by simp)
    simp only [List.drop_zero, List.take_succ_cons, List.take_zero, List.cons.injEq, and_true] at h3
    exact ⟨n :: xs, by rw [h3, h1]; rfl, fun z hz => by cases hz with | head => exact h4 | tail _ hz => exact h2 z hz⟩
theorem trod_ints {fs : Array Field} (ht : P.underlying t = some (.struct fs)) (hf : ∀ (i : Nat) (f : Field), fs[i]? = some f → f.offset = i ∧ P.underlying f.type = some (.int .i64) ∧ P.cellsOf f.type = 1) (hC : P.cellsOf t = fs.size)
    (h : DataW.trod enc P w 0 sp held fuel t cs = some x) : ∃ xs : List Int, xs.length = fs.size ∧ cs = Is xs ∧ ∀ z ∈ xs, I64 z := by
  obtain ⟨ys, n, _, _, hlen, hyl, hg⟩ := DataW.trod_struct ht h
  obtain ⟨xs, h1, h2⟩ := all_ints cs (fun i hi => by
    have hi' : i < fs.size := by omega
    obtain ⟨a1, a2, a3⟩ := hf i _ (Array.getElem?_eq_getElem hi')
    have h5 := hg i _ (Array.getElem?_eq_getElem hi')
    rw [a1, a3, List.getElem?_eq_getElem (by omega)] at h5
    exact trod_i a2 h5)
  exact ⟨xs, by rw [← hC, ← hlen, h1]; simp [Is], h1, h2⟩
theorem trod_sl {k : Nat} (ht : P.underlying t = some (.slice e)) (hC : P.cellsOf e = k) (hk : 0 < k) (hw : Wt P t x.1) (h : DataW.trod enc P w 0 sp held fuel t cs = some x) :
    ∃ v css, cs = [v] ∧ RS (hp w) k v css ∧ css.length * P.bytesOf e ≤ reachBytes ∧ ∀ c ∈ css, ∃ n y, DataW.trod enc P w 0 sp held n e c = some y ∧ Wt P e y.1 := by
  rcases open_slice ht h with ⟨rfl, _⟩ | ⟨a, len, cap, m, n, D, Pl, rfl, _, hl, hm, hmm, rfl, hi⟩
  · exact ⟨_, [], rfl, RS.nil _ _ _ _, by simp, fun _ h => by cases h⟩
  · have hlm : len ≤ m := by rw [hmm]; split <;> omega
    obtain ⟨F, hF⟩ := choose_lt (n := len) (fun i h => hi i (by omega))
    have hF' : ∀ i, i < len → (F i).length = k ∧ a.spot = none ∧ CellsAt (hp w) a.block (a.off + i * k) (F i) := fun i h => by
      obtain ⟨h1, _⟩ := hF i h
      rw [hC] at h1
      obtain ⟨_, h2, h3⟩ := World.cells?_some h1
      have hcell : ∀ j, j < k → w.cell? ((a.add (i * k)).add j) = (F i)[j]? := h3
      have hspot : a.spot = none := by
        obtain ⟨h1', _⟩ := hF 0 (by omega)
        rw [hC] at h1'
        obtain ⟨_, h2', h3'⟩ := World.cells?_some h1'
        have := h3' 0 hk
        rw [add_add, Nat.zero_mul] at this
        simp only [Addr.add, if_true] at this
        rw [List.getElem?_eq_getElem (by omega)] at this
        unfold World.cell? at this
        cases hs : a.spot with
        | none => rfl
        | some z => rw [hs] at this; split at this <;> simp at this
      refine ⟨h2, hspot, fun j v hj => ?_⟩
      have hjk : j < k := by rw [← h2]; exact (List.getElem?_eq_some_iff.1 hj).1
      have h4 := hcell j hjk
      rw [hj, add_add] at h4
      have e1 : a.add (i * k + j) = ⟨a.block, a.off + (i * k + j), none⟩ := by
        unfold Addr.add
        split
        · rename_i h0; rw [h0]; cases a; simp_all
        · rfl
      rw [e1] at h4
      unfold World.cell? at h4
      unfold cellAt hp
      rw [Nat.add_assoc]
      dsimp only at h4 ⊢
      cases hb : w.heap[a.block]? with
      | none => rw [hb] at h4; simp at h4
      | some o => rw [hb] at h4; cases o <;> simp_all
    refine ⟨_, (List.range len).map F, rfl, ⟨some a, cap, by simp, by simpa using hl, by simp only [List.length_map, List.length_range]; simp only [maxLen] at hm; omega, fun i c hic => ?_⟩, by have := hw.len ht; simpa using this, fun c hc => ?_⟩
    · have hlt : i < len := by simpa using (List.getElem?_eq_some_iff.1 hic).1
      have : c = F i := by simp [hlt] at hic; exact hic.symm
      subst this
      obtain ⟨h1, h2, h3⟩ := hF' i hlt
      exact ⟨h1, a.block, a.off, by cases a; simp_all, h3⟩
    · simp only [List.mem_map, List.mem_range] at hc
      obtain ⟨i, hlt, rfl⟩ := hc
      exact ⟨n, _, (hF i hlt).2, hw.elem ht (by simp only [List.mem_map, List.mem_range]; exact ⟨i, hlt, rfl⟩)⟩
theorem all_map {α : Type} {f : α → List Value} {Q : α → Prop} : ∀ {css : List (List Value)}, (∀ c ∈ css, ∃ z, c = f z ∧ Q z) → ∃ zs : List α, css = zs.map f ∧ ∀ z ∈ zs, Q z
  | [], _ => ⟨[], rfl, fun _ h => by cases h⟩
  | c :: css, h => by
    obtain ⟨zs, h1, h2⟩ := all_map (fun c hc => h c (.tail _ hc))
    obtain ⟨z, h3, h4⟩ := h c (.head _)
    exact ⟨z :: zs, by rw [h3, h1]; rfl, fun y hy => by cases hy with | head => exact h4 | tail _ hy => exact h2 y hy⟩
theorem trod_RI (ht : P.underlying t = some (.slice e)) (he : P.underlying e = some (.int .i64)) (hC : P.cellsOf e = 1) (hw : Wt P t x.1) (h : DataW.trod enc P w 0 sp held fuel t cs = some x) :
    ∃ v xs, cs = [v] ∧ RI (hp w) v xs ∧ xs.length * P.bytesOf e ≤ reachBytes ∧ ∀ z ∈ xs, I64 z := by
  obtain ⟨v, css, h1, h2, h9, h3⟩ := trod_sl ht hC (by omega) hw h
  obtain ⟨xs, rfl, h4⟩ := all_map (f := fun z : Int => [I z]) (Q := I64) (fun c hc => by obtain ⟨n, y, hy, _⟩ := h3 c hc; exact trod_i he hy)
  exact ⟨v, xs, h1, h2, by simpa using h9, h4⟩
end
theorem len2 {α : Type} {l : List α} (h : l.length = 2) : ∃ a b, l = [a, b] := by match l, h with | [a, b], _ => exact ⟨a, b, rfl⟩
theorem len3 {α : Type} {l : List α} (h : l.length = 3) : ∃ a b c, l = [a, b, c] := by match l, h with | [a, b, c], _ => exact ⟨a, b, c, rfl⟩
def IsIn (l : List Int) : Prop := l.length ≤ 17592186043904 ∧ ∀ x ∈ l, I64 x
theorem arg_struct {H : Type} {enc : TypeId × Value → H} {P : Program} {w : World} {sp : Nat → Bool} {held : Bool} {t : TypeId} {v : Value} {d : DataW H} {p : List MemPlace} {r : Reach} {base : Nat} {fs : Array Field}
    (ht : P.underlying t = some (.struct fs)) (hv : Value.okWide P w r base t v) (h : DataW.Trod enc P w 0 sp held t v d p) :
    ∃ (cs : List Value) (n : Nat), v = .agg cs.toArray ∧ DataW.trod enc P w 0 sp held n t cs = some (d, p) ∧ cs.length = P.cellsOf t := by
  obtain ⟨cs, rfl, hn⟩ := okWide_struct ht hv
  obtain ⟨n, hn'⟩ := h
  exact ⟨cs.toList, n, by simp, hn', by simpa using hn⟩
end Go.MW

namespace Go.MW
def pickI (l : List Int) (i n : Int) : Int := if l = [] ∨ n < 1 then 0 else gi l (i.tmod l.length).toNat % n
theorem pickI_bd (l : List Int) (i : Int) {n : Int} (hn : 1 ≤ n) : 0 ≤ pickI l i n ∧ pickI l i n < n := by
  unfold pickI
  split
  · omega
  · exact ⟨Int.emod_nonneg _ (by omega), Int.emod_lt_of_pos _ (by omega)⟩
structure Tri where
  a : Int
  b : Int
  c : Int
def Tri.v (x : Tri) : List Value := [I x.a, I x.b, I x.c]
theorem gi_map_range (f : Nat → Int) (n k : Nat) : gi ((List.range n).map f) k = if k < n then f k else 0 := by
  unfold gi
  by_cases h : k < n
  · simp [List.getD, h]
  · simp [List.getD, h]
structure Two where
  a : Int
  b : Int
def Two.v (x : Two) : List Value := [I x.a, I x.b]
section
variable {P : Program} {H : Heap} {σ : List Ent} {s : FS} {x y yl : Operand} {t : TypeId}
theorem q_ixA {elem : TypeId} {b off len k : Nat} {q : IntKind} {i : Int} (hx : FS.ev s x = some (.pointer (some ⟨b, off, none⟩))) (hy : FS.ev s y = some (.int q i))
    (hu : ∀ w, (underlying t).run P w = .ok (.array len elem) w) (hz : ∀ w, (sizeOf elem).run P w = .ok 1 w) (hi : i = (k : Int)) (hk : k < len) :
    QJ P H σ s (.indexAddr t x y) (.pointer (some ⟨b, off + k, none⟩)) := by
  subst hi
  refine ⟨fun _ => by simp, fun a w _ _ _ _ _ ha _ => ?_⟩
  have h1 : (0 : Int) ≤ (k : Int) ∧ (k : Int) < (len : Int) := ⟨by omega, by omega⟩
  simp only [execOp, ha.ev hx, ha.ev hy, Instr.indexAt, Instr.sureAddr, asIntOf, Sem.run_bind, hu w, Result.andThen, Sem.run_pure, h1, and_self, if_true, hz w, addr_add, Int.toNat_natCast, Nat.mul_one]
theorem q_ixA0 {elem : TypeId} {b len k : Nat} {q : IntKind} {i : Int} (hx : FS.ev s x = some (.pointer (some ⟨b, 0, none⟩))) (hy : FS.ev s y = some (.int q i))
    (hu : ∀ w, (underlying t).run P w = .ok (.array len elem) w) (hz : ∀ w, (sizeOf elem).run P w = .ok 1 w) (hi : i = (k : Int)) (hk : k < len) :
    QJ P H σ s (.indexAddr t x y) (.pointer (some ⟨b, k, none⟩)) := by
  have := q_ixA (P := P) (H := H) (σ := σ) hx hy hu hz hi hk; rwa [Nat.zero_add] at this
end
end Go.MW

namespace Go.MW
def gr (rs : List (List Int)) (i : Nat) : List Int := rs.getD i []
theorem gr_get {rs : List (List Int)} {i : Nat} (h : i < rs.length) : rs[i]? = some (gr rs i) := by
  simp [gr, List.getD, List.getElem?_eq_getElem h]
theorem gr_set {rs : List (List Int)} {i : Nat} (h : i < rs.length) (r : List Int) (j : Nat) : gr (rs.set i r) j = if j = i then r else gr rs j := by
  unfold gr List.getD
  rw [List.getElem?_set]
  by_cases e : i = j
  · subst e; simp [h]
  · simp [e, Ne.symm e]
def gt (rs : List (List Int)) (i j : Nat) : Int := gi (gr rs i) j
def Sq (n : Nat) (rs : List (List Int)) : Prop := rs.length = n ∧ ∀ i < n, (gr rs i).length = n
theorem Sq.set {n : Nat} {rs : List (List Int)} (h : Sq n rs) {a b : Nat} (ha : a < n) (z : Int) : Sq n (rs.set a ((gr rs a).set b z)) :=
  ⟨by simpa using h.1, fun i hi => by
    rw [gr_set (by rw [h.1]; exact ha)]
    split
    · rename_i e; subst e; simpa using h.2 i hi
    · exact h.2 i hi⟩
def RT (H : Heap) (v : Value) (rs : List (List Int)) : Prop := ∃ us : List Value, us.length = rs.length ∧ RS H 1 v (us.map fun u => [u]) ∧ ∀ (i : Nat) u r, us[i]? = some u → rs[i]? = some r → RI H u r
theorem RT.mono {H H' : Heap} {v : Value} {rs : List (List Int)} (h : RT H v rs) (hl : HLe H H') : RT H' v rs := by
  obtain ⟨us, h1, h2, h3⟩ := h
  exact ⟨us, h1, h2.mono hl, fun i u r hu hr => (h3 i u r hu hr).mono hl⟩
theorem RT.shape {H : Heap} {v : Value} {rs : List (List Int)} (h : RT H v rs) : ∃ a cap, v = .slice a rs.length cap := by
  obtain ⟨us, h1, h2, h3⟩ := h
  obtain ⟨a, cap, e⟩ := h2.shape
  exact ⟨a, cap, by simpa [h1] using e⟩
theorem RT.len {H : Heap} {rs : List (List Int)} {a : Option Addr} {len cap : Nat} (h : RT H (.slice a len cap) rs) : len = rs.length ∧ len ≤ cap ∧ len ≤ 9223372036854775807 := by
  obtain ⟨us, h1, h2, h3⟩ := h
  have := RS.len h2
  simpa [h1] using this
variable {P : Program} {ro : Option Nat} {H : Heap} {σ : List Ent} {s : FS} {w : World} {n d : Nat} {ds : List Deferred} {e : List (Nat × Value)} {x y : Operand} {t : TypeId}
  {K : FS → World → Prop} {ty : TypeId} {pos : String} {aft : Array Edge} {ops : Array Oper} {v : Value}
theorem WO.ixT {rs : List (List Int)} {k : Nat} {elem : TypeId} {q : IntKind} {i : Int} {rest : List Oper} (hs : St H w σ) (hr : RT H v rs) (hx : FS.ev ⟨n, ds, e⟩ x = some v) (hy : FS.ev ⟨n, ds, e⟩ y = some (.int q i))
    (hu : ∀ w, (underlying t).run P w = .ok (.slice elem) w) (hz : ∀ w, (sizeOf elem).run P w = .ok 1 w) (hk : k < rs.length) (hi : i = (k : Int))
    (kk : ∀ b off a cap, cellAt H b off = some (.slice a (gr rs k).length cap) → RI H (.slice a (gr rs k).length cap) (gr rs k) → WO P ro ops rest K ⟨n, ds, (d, .pointer (some ⟨b, off, none⟩)) :: e⟩ w) (hd : Nat.blt d n = true := by rfl) :
    WO P ro ops (⟨some d, .indexAddr t x y, ty, pos, aft, none⟩ :: rest) K ⟨n, ds, e⟩ w := by
  obtain ⟨us, h1, h2, h3⟩ := hr
  have hu' : us[k]? = some us[k] := List.getElem?_eq_getElem (by omega)
  have hrow := h3 k _ _ hu' (gr_get hk)
  obtain ⟨a, cap, he⟩ := RI.shape hrow
  refine .ixX (enc := fun u => [u]) hs h2 hx hy hu hz hu' hi (fun b off hc => kk b off a cap ?_ ?_) hd
  · rw [← he]; exact hc.one
  · rw [← he]; exact hrow
theorem DO.ixT {rs : List (List Int)} {k : Nat} {elem : TypeId} {q : IntKind} {z : Int} {fuel i : Nat} {g : Option (Nat × Bool)} {Pm : List Prom} {listed listed' : List Bool} (hs : St H w σ) (hi : ops[i]? = some ⟨some d, .indexAddr t x y, ty, pos, aft, g⟩) (hb : takeB ops listed.toArray i = true) (hg : GOk ops e g)
    (hr : RT H v rs) (hx : FS.ev ⟨n, ds, e⟩ x = some v) (hy : FS.ev ⟨n, ds, e⟩ y = some (.int q z))
    (hu : ∀ w, (underlying t).run P w = .ok (.slice elem) w) (hz : ∀ w, (sizeOf elem).run P w = .ok 1 w) (hk : k < rs.length) (hzk : z = (k : Int))
    (kk : ∀ b off a cap, cellAt H b off = some (.slice a (gr rs k).length cap) → RI H (.slice a (gr rs k).length cap) (gr rs k) → DO P ro ops K fuel listed' Pm ⟨n, ds, (d, .pointer (some ⟨b, off, none⟩)) :: e⟩ w) (hl : listed.set i true = listed' := by rfl) (hd : Nat.blt d n = true := by rfl) :
    DO P ro ops K (fuel + 1) listed Pm ⟨n, ds, e⟩ w := by
  obtain ⟨us, h1, h2, h3⟩ := hr
  have hu' : us[k]? = some us[k] := List.getElem?_eq_getElem (by omega)
  have hrow := h3 k _ _ hu' (gr_get hk)
  obtain ⟨a, cap, he⟩ := RI.shape hrow
  refine .ixX (enc := fun u => [u]) hs hi hb hg h2 hx hy hu hz hu' hzk (fun b off hc => kk b off a cap ?_ ?_) hl hd
  · rw [← he]; exact hc.one
  · rw [← he]; exact hrow
def ptr (n : Nat) (b : Nat) : Value := .slice (some ⟨b, 0, none⟩) n n
def rowsE : List Nat → List (List Int) → List Ent
  | b :: bs, r :: rs => .blk b (Is r) :: rowsE bs rs
  | _, _ => []
theorem Mem.of {l : List Ent} {x : Ent} (h : x ∈ l) : Mem l x := by
  induction h with
  | head => exact .here
  | tail _ _ ih => exact .there ih
theorem Mem.pick {l : List Ent} {x : Ent} (h : Mem l x) : ∃ r, Pick l x r := by
  induction h with
  | here => exact ⟨_, .here⟩
  | there _ ih => obtain ⟨r, h⟩ := ih; exact ⟨_, .there h⟩
theorem Sub.one {l : List Ent} {x : Ent} (h : Mem l x) : Sub [x] l := by
  obtain ⟨r, h⟩ := h.pick
  exact .cons h .nil
theorem Mem.app {A B : List Ent} {x : Ent} (h : Mem A x) : Mem (A ++ B) x := .of (List.mem_append.2 (.inl h.mem))
theorem rowsE_mem : ∀ {bs : List Nat} {rs : List (List Int)} {i b : Nat} {r : List Int}, bs[i]? = some b → rs[i]? = some r → Mem (rowsE bs rs) (.blk b (Is r))
  | [], _, _, _, _, h, _ => by simp at h
  | _ :: _, [], _, _, _, _, h => by simp at h
  | b :: bs, r :: rs, 0, _, _, h, g => by
    simp only [List.getElem?_cons_zero, Option.some.injEq] at h g
    subst h; subst g; exact .here
  | b :: bs, r :: rs, i + 1, _, _, h, g => .there (rowsE_mem (by simpa using h) (by simpa using g))
theorem Upd.app {A A' B : List Ent} {x y : Ent} (h : Upd A x y A') : Upd (A ++ B) x y (A' ++ B) := by
  induction h with
  | here => exact .here
  | there _ ih => exact .there ih
theorem rowsE_upd : ∀ {bs : List Nat} {rs : List (List Int)} {i b : Nat} {r : List Int} (r' : List Int), bs[i]? = some b → rs[i]? = some r → Upd (rowsE bs rs) (.blk b (Is r)) (.blk b (Is r')) (rowsE bs (rs.set i r'))
  | [], _, _, _, _, _, h, _ => by simp at h
  | _ :: _, [], _, _, _, _, _, h => by simp at h
  | b :: bs, r :: rs, 0, _, _, r', h, g => by
    simp only [List.getElem?_cons_zero, Option.some.injEq] at h g
    subst h; subst g; exact .here
  | b :: bs, r :: rs, i + 1, _, _, r', h, g => .there (rowsE_upd r' (by simpa using h) (by simpa using g))
theorem flat1 : ∀ l : List Value, (l.map fun u => [u]).flatten = l
  | [] => rfl
  | v :: l => by rw [List.map_cons, List.flatten_cons, flat1 l]; rfl
def gb (bs : List Nat) (i : Nat) : Nat := bs.getD i 0
theorem gb_get {bs : List Nat} {i : Nat} (h : i < bs.length) : bs[i]? = some (gb bs i) := by simp [gb, List.getD, List.getElem?_eq_getElem h]
theorem Mem.row {bs : List Nat} {rs : List (List Int)} {i : Nat} (h1 : i < bs.length) (h2 : i < rs.length) : Mem (rowsE bs rs ++ σ) (.blk (gb bs i) (Is (gr rs i))) := (rowsE_mem (gb_get h1) (gr_get h2)).app
theorem Upd.row {bs : List Nat} {rs : List (List Int)} {i : Nat} (r : List Int) (h1 : i < bs.length) (h2 : i < rs.length) : Upd (rowsE bs rs ++ σ) (.blk (gb bs i) (Is (gr rs i))) (.blk (gb bs i) (Is r)) (rowsE bs (rs.set i r) ++ σ) := (rowsE_upd r (gb_get h1) (gr_get h2)).app
theorem flatten_repV (len : Nat) (z : Value) : (List.replicate len [z]).flatten = List.replicate len z := by
  induction len with
  | zero => rfl
  | succ k ih => rw [List.replicate_succ, List.flatten_cons, ih]; rfl
theorem OJ.makeP {elem : TypeId} {i : TypeInfo} {k1 k2 : IntKind} (len : Nat) (hs : St H w σ) (hx : FS.ev ⟨n, ds, e⟩ x = some (.int k1 len)) (hy : FS.ev ⟨n, ds, e⟩ y = some (.int k2 len))
    (hu : ∀ w, (underlying t).run P w = .ok (.slice elem) w) (hi : ∀ w, (typeInfo elem).run P w = .ok i w) (hb : i.bytes = 24) (hz : ∀ w, (sizeOf elem).run P w = .ok 1 w) (hzv : ∀ w, (zeroValue elem).run P w = .ok (.slice none 0 0) w)
    (h1 : len ≤ 1000000000000)
    (k : ∀ b w', St H w' (.blk b (List.replicate len (.slice none 0 0)) :: σ) → K ⟨n, ds, (d, .slice (some ⟨b, 0, none⟩) len len) :: e⟩ w') (hd : Nat.blt d n = true := by rfl) :
    OJ P ro ⟨some d, .makeSlice t x y, ty, pos, aft, none⟩ K ⟨n, ds, e⟩ w :=
  .makeSlice (bytes := 24) hs hx hy hu hi hb hz hzv rfl (by decide) (by omega) (by omega) (fun b w' h => k b w' (by
    have h : St H w' (.blk b (List.replicate len [.slice none 0 0]).flatten :: σ) := h
    rwa [flatten_repV] at h)) (by decide) hd
end Go.MW

namespace Go.MW
theorem Syst.Ok.numb {s : Syst} (h : s.Ok) : Numb s.arcs := fun _ x hx => ⟨arcsOf_l hx, (h.arcs.2 x (List.mem_of_getElem? hx)).2.2.2.2.2⟩
theorem Syst.Ok.inn {s : Syst} (h : s.Ok) : ∀ x ∈ s.arcs, x.f < s.n ∧ x.t < s.n ∧ x.f ≠ x.t ∧ -20000 ≤ x.c ∧ x.c ≤ 20000 := fun x hx => by
  have := h.arcs.2 x hx
  omega
theorem Syst.Ok.n65 {s : Syst} (h : s.Ok) : s.n ≤ 65 := by have := h.m1; simp only [Syst.n]; omega
theorem Syst.n_pos (s : Syst) : 0 < s.n := by simp [Syst.n]
theorem Syst.Ok.opt {s : Syst} (h : s.Ok) (hs : s.Sound) {w : List Int} (hl : w.length = s.n) (hz : SizedW w) :
    (∃ m, OptS s.arcs (s.wt w) s.n m ∧ ¬ OpenS s.arcs (s.wt w) s.n ∧ m ≤ BB ∧ -BB ≤ m) ∨ OpenS s.arcs (s.wt w) s.n := by
  have hn := s.n_pos
  have hn1 := h.n65
  have hw : sizesTo w s.n ≤ FF := by unfold SizedW at hz; rwa [hl] at hz
  have h0 := FInv.start (es := s.arcs) (w := w) (lf := (List.range s.n).map (wtOf w s.n)) (k := s.many.toNat) hw (by simp [Syst.n]) (fun v hv => by rw [gi_map_range, if_pos (show v < s.n from hv)]; rfl) hs
  have ho : ArcsC s.arcs s.n := fun x hx => by have := h.arcs.2 x hx; omega
  rcases flow_exists (wt := wtOf w s.n) hn hn1 ho h.numb (wt_sum w hn) _ h0 (Nat.le_refl _) with ⟨ts, g⟩ | g
  · exact .inl ⟨_, g.value hn hn1 h.arcs hw⟩
  · exact .inr g
theorem Syst.Ok.bd {s : Syst} (h : s.Ok) {w : List Int} (hl : w.length = s.n) (hz : SizedW w) {m : Int} (ho : OptS s.arcs (s.wt w) s.n m) : ¬ OpenS s.arcs (s.wt w) s.n ∧ m ≤ BB ∧ -BB ≤ m := by
  obtain ⟨p, hp, _⟩ := ho.1
  rcases h.opt ⟨p, hp⟩ hl hz with ⟨k, k1, k2, k3, k4⟩ | g
  · have := ho.uniq k1
    subst this
    exact ⟨k2, k3, k4⟩
  · exact (g.no hp ho.2).elim
theorem mostR_some (s : Syst) (w : List Int) : ∃ n e, MostR s w n e := by
  by_cases hA : askErr s w = 0
  · obtain ⟨h1, h2, h3⟩ := askErr_ok hA
    by_cases hs : s.Sound
    · rcases h1.opt hs h2 h3 with ⟨m, k1, k2, k3, k4⟩ | g
      · exact ⟨m, 0, .ok hA hs k2, fun h => (h rfl).elim, fun _ => ⟨k1, k3, k4⟩⟩
      · exact ⟨0, 22, .opn hA hs g, fun _ => rfl, fun h => by omega⟩
    · exact ⟨0, 23, .clash hA hs, fun _ => rfl, fun h => by omega⟩
  · exact ⟨0, _, .bad hA, fun _ => rfl, fun h => (hA h).elim⟩
variable {s : Syst} {w : List Int} {T : Nat → Nat → Int} {fs : List Arc} {m : Int}
theorem mostR_clash (hA : askErr s w = 0) (hs : ¬ s.Sound) : MostR s w 0 23 := ⟨.clash hA hs, fun _ => rfl, fun h => by omega⟩
end Go.MW

namespace Go.MW
def Upto (a b : Nat) (x : Arc) : Prop := x.f < a ∨ (x.f = a ∧ x.t < b)
variable {n : Nat} {M F : Nat → Nat → Int} {es : List Arc} {ts : List Int} {S : Nat → Prop} {D : Nat → Int} {ag : Bool} {s : BS} {a b : Nat}
theorem VInv.zero (h : VInv n (resid es ts) S D (fun _ => False) ag s) : VInv n (resid es ts) S D (Upto 0 0) ag s := h.skip fun _ x _ hx => by unfold Upto at hx; omega
theorem VInv.row (h : VInv n (resid es ts) S D (Upto a n) ag s) (hg : VG n (resid es ts) D) : VInv n (resid es ts) S D (Upto (a + 1) 0) ag s := h.skip fun _ x hx hd hn => by
  have := (hg.ok x hx).2.1
  unfold Upto at hd hn; omega
theorem VInv.far (h : VInv n (resid es ts) S D (Upto a 0) ag s) (hf : gi s.cost a = free) : VInv n (resid es ts) S D (Upto (a + 1) 0) ag s := h.skip fun _ x _ hd hn hc => by
  unfold Upto at hd hn
  have : x.f = a := by omega
  rw [this] at hc
  omega
theorem VInv.all (h : VInv n (resid es ts) S D (Upto n 0) ag s) (hg : VG n (resid es ts) D) : VInv n (resid es ts) S D (fun _ => True) ag s := h.skip fun _ x hx _ hn => by
  have := (hg.ok x hx).1
  unfold Upto at hn; omega
section
variable {P : Program} {ro : Option Nat} {H : Heap} {σ : List Ent} {w : World} {n d : Nat} {ds : List Deferred} {e : List (Nat × Value)} {x y : Operand} {t : TypeId} {K : FS → World → Prop} {ty : TypeId} {pos : String} {aft : Array Edge}
end
structure AtW (b : List Arc) (t k u i w : Nat) : Prop where
  le : i ≤ k
  bk : ∃ c, Back b t i c w
  to : ∃ d, Back b w (k - i) d u
theorem AtW.start {b : List Arc} {t k u : Nat} {c : Int} (h : Back b t k c u) : AtW b t k u 0 t := ⟨Nat.zero_le _, ⟨0, .nil⟩, ⟨c, h⟩⟩
theorem AtW.next {b : List Arc} {t k u i w : Nat} (h : AtW b t k u i w) (hl : 0 ≤ (ga b w).l) (hu : (ga b u).l < 0) : i < k ∧ AtW b t k u (i + 1) (ga b w).f ∧ trail b t (i + 1) = trail b t i ++ [ga b w] := by
  obtain ⟨c, h1⟩ := h.bk
  obtain ⟨d, h2⟩ := h.to
  have hle := h.le
  generalize hj : k - i = j at h2
  cases h2 with
  | nil => omega
  | @cons _ _ j d _ h3 =>
    refine ⟨by omega, ⟨by omega, ⟨_, h1.trans (.cons hl .nil)⟩, ⟨d, by rw [show k - (i + 1) = j by omega]; exact h3⟩⟩, trail_succ h1⟩
structure Scan (lf cost : List Int) (k : Nat) (to : Int) (left : Bool) : Prop where
  lo : -1 ≤ to
  left_ : left = true ↔ ∃ v, v < k ∧ 0 < gi lf v
  non : to < 0 → ∀ v < k, 0 < gi lf v → gi cost v = free
  som : 0 ≤ to → to.toNat < k ∧ 0 < gi lf to.toNat ∧ gi cost to.toNat ≠ free
theorem Scan.start (lf cost : List Int) : Scan lf cost 0 (-1) false := ⟨by omega, ⟨fun h => (by cases h), fun ⟨v, h, _⟩ => (by omega)⟩, fun _ v h => by omega, fun h => by omega⟩
theorem Scan.take {lf cost : List Int} {k : Nat} {to : Int} {left : Bool} (_ : Scan lf cost k to left) (h1 : 0 < gi lf k) (h2 : gi cost k ≠ free) : Scan lf cost (k + 1) (k : Int) (left || decide (0 < gi lf k)) :=
  ⟨by omega, by simp only [h1, decide_true, Bool.or_true, true_iff]; exact ⟨k, by omega, h1⟩, fun g => by omega, fun _ => ⟨by omega, by simpa using h1, by simpa using h2⟩⟩
theorem Scan.skip {lf cost : List Int} {k : Nat} {to : Int} {left : Bool} (h : Scan lf cost k to left) (h1 : ¬ 0 < gi lf k ∨ gi cost k = free ∨ 0 ≤ to) : Scan lf cost (k + 1) to (left || decide (0 < gi lf k)) := by
  refine ⟨h.lo, ?_, fun g v hv hp => ?_, fun g => by have := h.som g; exact ⟨by omega, this.2⟩⟩
  · rw [Bool.or_eq_true, h.left_, decide_eq_true_eq]
    constructor
    · rintro (⟨v, h1, h2⟩ | h)
      · exact ⟨v, by omega, h2⟩
      · exact ⟨k, by omega, h⟩
    · rintro ⟨v, h1, h2⟩
      by_cases e : v = k
      · subst e; exact .inr h2
      · exact .inl ⟨v, by omega, h2⟩
  · by_cases e : v = k
    · subst e
      rcases h1 with h1 | h1 | h1
      · exact (h1 hp).elim
      · exact h1
      · omega
    · exact h.non g v (by omega) hp
theorem Corr.back (hT : Tab n M es) (hC : Corr n es ts F) {x : Arc} (hx : x ∈ resid es ts) (hf : ¬ fwd es x) : F x.t x.f = gi ts x.l.toNat ∧ ∃ y ∈ es, x = y.back := by
  rcases (resid_iff hT hC).1 hx with h | ⟨y, h1, h2, rfl⟩
  · exact (hf (hT.fwd_iff h).1).elim
  · exact ⟨(hC.arc y h1).symm, y, h1, rfl⟩
end Go.MW

namespace Go.MW
def gu (us : List Use) (i : Nat) : Use := us.getD i ⟨0, 0⟩
theorem gu_get {us : List Use} {i : Nat} (h : i < us.length) : us[i]? = some (gu us i) := by simp [gu, List.getD, List.getElem?_eq_getElem h]
def gl (ls : List Lim) (i : Nat) : Lim := ls.getD i ⟨0, 0, 0, 0⟩
def ul (s : Syst) (us : List Use) (i : Nat) : Lim := gl s.lims (gu us i).l.toNat
def timesTo (us : List Use) (k : Nat) : Int := sumTo (fun i => (gu us i).t) k
def boundTo (s : Syst) (us : List Use) (k : Nat) : Int := sumTo (fun i => (gu us i).t * (ul s us i).M) k
def intoTo (s : Syst) (us : List Use) (k v : Nat) : Int := sumTo (fun i => (gu us i).t * (ind (ul s us i).B.toNat v - ind (ul s us i).A.toNat v)) k
structure UseOk (s : Syst) (us : List Use) (i : Nat) : Prop where
  l0 : 0 ≤ (gu us i).l
  l1 : (gu us i).l < s.lims.length
  t0 : 1 ≤ (gu us i).t
  t1 : (gu us i).t ≤ 3600000000000
  ord : 0 < i → (gu us (i - 1)).l < (gu us i).l
structure ProofOk (s : Syst) (w : List Int) (n : Int) (us : List Use) : Prop where
  len : us.length ≤ 400
  use : ∀ i < us.length, UseOk s us i
  tot : timesTo us us.length ≤ 230400000000000
  into : ∀ v, 1 ≤ v → v < s.n → intoTo s us us.length v = gi w v
  bound : boundTo s us us.length = n
inductive ProofR (s : Syst) (w : List Int) (n : Int) (us : List Use) : Int → Prop
  | ask (h : askErr s w ≠ 0) : ProofR s w n us (askErr s w)
  | bad (h : askErr s w = 0) (h1 : ¬ ProofOk s w n us) : ProofR s w n us 24
  | ok (h : askErr s w = 0) (h1 : ProofOk s w n us) : ProofR s w n us 0
theorem ProofR.uniq {s : Syst} {w : List Int} {n : Int} {us : List Use} {e f : Int} (h : ProofR s w n us e) (g : ProofR s w n us f) : e = f := by
  cases h <;> cases g <;> first | rfl | contradiction
variable {s : Syst} {w : List Int} {n : Int} {us : List Use}
end Go.MW

namespace Go.MW
theorem valw_oneW {many u : Int} (hu : 1 ≤ u ∧ u ≤ many) (p : Nat → Int) : valw (oneW many u) (many.toNat + 1) p = p u.toNat - p 0 := by
  have hg : ∀ v, v < many.toNat + 1 → gi (oneW many u) v = if v = u.toNat then 1 else 0 := fun v hv => by
    unfold oneW
    rw [gi_set (by rw [List.length_replicate]; omega), gi_replicate _ _ hv]
  unfold valw
  rw [sumTo_one (u := u.toNat) (by omega) (fun v hv hne => by rw [hg v hv, if_neg hne, Int.zero_mul]), hg _ (by omega), if_pos rfl, Int.one_mul]
theorem PrbOk.ends {a : Quest} {p : Prb} {lo hi : Int} (h : PrbOk a p) (hR : RangeR a.sys (oneW a.sys.many p.u) lo hi 0) {x : Nat → Int} (hx : Feas a.sys.arcs x) : lo ≤ x p.u.toNat - x 0 ∧ x p.u.toNat - x 0 ≤ hi := by
  have := hR.ends.all x hx
  rw [Syst.n, valw_oneW h.1] at this
  exact this
theorem PrbOk.bd {a : Quest} {p : Prb} (h : PrbOk a p) {x : Nat → Int} (hx : Feas a.sys.arcs x) : -20000 ≤ x p.u.toNat - x 0 ∧ x p.u.toNat - x 0 ≤ 20000 := by
  obtain ⟨lo, hi, h1, h2, h3⟩ := h.2.2
  have := h.ends h1 hx
  omega
end Go.MW

namespace Go.MW
theorem RangeR.ask {s : Syst} {w : List Int} {lo hi : Int} (h : RangeR s w lo hi 0) : askErr s w = 0 := by
  generalize hz : (0 : Int) = z at h
  cases h with
  | first _ he => exact (he hz.symm).elim
  | second _ _ he => exact (he hz.symm).elim
  | ok h1 _ => exact h1.1.zero.1
variable {a : Quest} {l : List Prb} {vs : List Int}
end Go.MW

namespace Go.MW
theorem Syst.Ok.tabS {s : Syst} (h : s.Ok) (hs : s.Sound) {T : Nat → Nat → Int} (hT : WaysT s.n s.arcs T) : TabS s.n T := hT.tabS s.n_pos h.n65 h.inn hs
def PointP (s : Syst) (picks x : List Int) : Prop := ∃ T, WaysT s.n s.arcs T ∧ PtsR T (pickI picks) x ∧ x.length = s.n
theorem PointP.inv {s : Syst} {picks x : List Int} (hok : s.Ok) (hs : s.Sound) (h : PointP s picks x) : ∃ T, WaysT s.n s.arcs T ∧ PtI s.n T x := by
  obtain ⟨T, h1, h2, h3⟩ := h
  exact ⟨T, h1, h2.inv (fun i n hn => pickI_bd picks i hn) (hok.tabS hs h1) (by omega)⟩
theorem PointP.feas {s : Syst} {picks x : List Int} (hok : s.Ok) (hs : s.Sound) (h : PointP s picks x) : x.length = s.n ∧ gi x 0 = 0 ∧ (∀ v < s.n, -1000000000 ≤ gi x v ∧ gi x v ≤ 1000000000) ∧ Feas s.arcs (gi x) := by
  obtain ⟨T, h1, h2⟩ := h.inv hok hs
  obtain ⟨_, _, _, h3⟩ := h
  refine ⟨h3, h2.zero, fun v hv => ?_, h2.feas h3 h1 hok.inn⟩
  have := h2.bd v (by omega)
  have := hok.n65
  omega
inductive PointR (s : Syst) (picks : List Int) : List Int → Int → Prop
  | bad (h : s.check ≠ 0) : PointR s picks [] s.check
  | clash (h : s.Ok) (h1 : ¬ s.Sound) : PointR s picks [] 23
  | ok {x : List Int} (h : s.Ok) (h1 : s.Sound) (h2 : PointP s picks x) : PointR s picks x 0
end Go.MW

namespace Go.MW
def RLs (H : Heap) (us : List Value) (rs : List (List Int)) : Prop := us.length = rs.length ∧ ∀ (i : Nat) u r, us[i]? = some u → rs[i]? = some r → RI H u r
theorem RLs.nil (H : Heap) : RLs H [] [] := ⟨rfl, fun i u r h => by simp at h⟩
theorem RLs.mono {H H' : Heap} {us : List Value} {rs : List (List Int)} (h : RLs H us rs) (hl : HLe H H') : RLs H' us rs := ⟨h.1, fun i u r h1 h2 => (h.2 i u r h1 h2).mono hl⟩
theorem RLs.snoc {H : Heap} {us : List Value} {rs : List (List Int)} {u : Value} {r : List Int} (h : RLs H us rs) (hr : RI H u r) : RLs H (us ++ [u]) (rs ++ [r]) := by
  refine ⟨by simp [h.1], fun i v s h1 h2 => ?_⟩
  by_cases e : i < us.length
  · rw [List.getElem?_append_left e] at h1
    rw [List.getElem?_append_left (by rw [← h.1]; exact e)] at h2
    exact h.2 i v s h1 h2
  · have hi := (List.getElem?_eq_some_iff.1 h1).1
    simp at hi
    obtain rfl : i = us.length := by omega
    rw [List.getElem?_append_right (Nat.le_refl _)] at h1
    rw [List.getElem?_append_right (by rw [h.1]; exact Nat.le_refl _)] at h2
    simp [h.1] at h1 h2
    subst h1; subst h2
    exact hr
theorem RLs.cell {H : Heap} {us : List Value} {rs : List (List Int)} (h : RLs H us rs) : ∀ v ∈ us, v.oneCell' = true := fun v hv => by
  obtain ⟨i, hi⟩ := List.getElem?_of_mem hv
  have hlt := (List.getElem?_eq_some_iff.1 hi).1
  obtain ⟨a, c, e⟩ := RI.shape (h.2 i v _ hi (List.getElem?_eq_getElem (by rw [← h.1]; exact hlt)))
  rw [e]; rfl
theorem RLs.get {H : Heap} {us : List Value} {rs : List (List Int)} (h : RLs H us rs) {i : Nat} {r : List Int} (hr : rs[i]? = some r) : ∃ a c, us[i]? = some (.slice a r.length c) ∧ RI H (.slice a r.length c) r := by
  have hlt := (List.getElem?_eq_some_iff.1 hr).1
  have hlu : i < us.length := by rw [h.1]; exact hlt
  have hu : us[i]? = some us[i] := List.getElem?_eq_getElem hlu
  have hR := h.2 i _ _ hu hr
  obtain ⟨a, c, e⟩ := RI.shape hR
  rw [e] at hu hR
  exact ⟨a, c, hu, hR⟩
theorem RLs.publish {H : Heap} {w : World} {σ r : List Ent} {v : Value} {us : List Value} {en : Ent} {rs : List (List Int)} (h : RLs H us rs) (ho : OwnS 1 v us en) (hl : us.length ≤ 1000) (hs : St H w σ) (hp : Pick σ en r) : ∃ H', HLe H H' ∧ RT H' v rs ∧ St H' w r := by
  obtain ⟨H', h1, h2, h3⟩ := OwnS.publish (m := 1) (cs := us.map fun u => [u]) (by rw [flat1]; exact ho) (fun c hc => by simp only [List.mem_map] at hc; obtain ⟨x, _, rfl⟩ := hc; rfl) (by omega) (by rw [List.length_map]; omega) hs hp
  exact ⟨H', h1, ⟨us, h.1, h2, (h.mono h1).2⟩, h3⟩
end Go.MW

namespace Go.MW
variable {n : Nat} {T T' : Nat → Nat → Int} {X : List Int}
theorem LoI.congr {b k : Nat} {z : Int} (h : LoI T X b k z) (e : ∀ a, a < k → T b a = T' b a) : LoI T' X b k z := by
  refine ⟨fun a ha hne => ?_, ?_⟩
  · rw [← e a ha] at hne ⊢; exact h.1 a ha hne
  · rcases h.2 with ⟨h1, h2⟩ | ⟨a, h1, h2, h3⟩
    · exact .inl ⟨h1, fun a ha => by rw [← e a ha]; exact h2 a ha⟩
    · exact .inr ⟨a, h1, by rw [← e a h1]; exact h2, by rw [← e a h1]; exact h3⟩
theorem HiI.congr {b k : Nat} {z : Int} (h : HiI T X b k z) (e : ∀ a, a < k → T a b = T' a b) : HiI T' X b k z := by
  refine ⟨fun a ha hne => ?_, ?_⟩
  · rw [← e a ha] at hne ⊢; exact h.1 a ha hne
  · rcases h.2 with ⟨h1, h2⟩ | ⟨a, h1, h2, h3⟩
    · exact .inl ⟨h1, fun a ha => by rw [← e a ha]; exact h2 a ha⟩
    · exact .inr ⟨a, h1, by rw [← e a h1]; exact h2, by rw [← e a h1]; exact h3⟩
theorem PtsR.congr {f : Int → Int → Int} (h : PtsR T f X) (e : ∀ i j, i < n → j < n → T i j = T' i j) : X.length ≤ n → PtsR T' f X := by
  induction h with
  | start => exact fun _ => .start
  | @snoc X lo hi h h1 h2 ih =>
    intro hl
    simp at hl
    exact .snoc (ih (by omega)) (h1.congr fun a ha => e _ _ (by omega) (by omega)) (h2.congr fun a ha => e _ _ (by omega) (by omega))
theorem WaysT.same {s : Syst} (hok : s.Ok) (hs : s.Sound) (h : WaysT s.n s.arcs T) (g : WaysT s.n s.arcs T') {i j : Nat} (hi : i < s.n) (hj : j < s.n) : T i j = T' i j := by
  obtain ⟨p, hp⟩ := hs
  exact h.one g hok.inn hp hi hj
theorem PointP.uniq {s : Syst} {picks x y : List Int} (hok : s.Ok) (hs : s.Sound) (h : PointP s picks x) (g : PointP s picks y) : x = y := by
  obtain ⟨T, h1, h2, h3⟩ := h
  obtain ⟨T', g1, g2, g3⟩ := g
  exact (h2.congr (n := s.n) (fun i j hi hj => h1.same hok hs g1 hi hj) (by omega)).uniq g2 (by omega)
theorem PointR.uniq {s : Syst} {picks x y : List Int} {e f : Int} (h : PointR s picks x e) (g : PointR s picks y f) : x = y ∧ e = f := by
  cases h with
  | bad h =>
    cases g with
    | bad => exact ⟨rfl, rfl⟩
    | clash g _ => exact (h (s.ok_iff.2 g)).elim
    | ok g _ _ => exact (h (s.ok_iff.2 g)).elim
  | clash h h1 =>
    cases g with
    | bad g => exact (g (s.ok_iff.2 h)).elim
    | clash => exact ⟨rfl, rfl⟩
    | ok _ g1 _ => exact (h1 g1).elim
  | ok h h1 h2 =>
    cases g with
    | bad g => exact (g (s.ok_iff.2 h)).elim
    | clash _ g1 => exact (g1 h1).elim
    | ok _ _ g2 => exact ⟨h2.uniq h h1 g2, rfl⟩
structure PairW (n a b : Nat) (w : List Int) : Prop where
  len : w.length = n
  get : ∀ v < n, gi w v = ind b v - ind a v
variable {a b : Nat} {w : List Int}
theorem PairW.val (h : PairW n a b w) (ha : a < n) (hb : b < n) (p : Nat → Int) : valw w n p = p b - p a := by
  unfold valw
  rw [sumTo_congr (g := fun v => ind b v * (p v - p 0) - ind a v * (p v - p 0)) (fun v hv => by rw [h.get v hv, Int.sub_mul]), sumTo_sub, ind_sum hb (fun v => p v - p 0), ind_sum ha (fun v => p v - p 0)]
  omega
def SrcS (ls : List Lim) (x : Int) : Prop := ∃ l ∈ ls, l.S = x
def Syst.wo (s : Syst) (by_ : List Int) : Syst := ⟨s.many, s.lims.filter fun l => !decide (l.S ∈ by_)⟩
def Syst.only (s : Syst) (by_ : List Int) : Syst := ⟨s.many, s.lims.filter fun l => decide (l.S ∈ by_)⟩
theorem Syst.Ok.filter {s : Syst} (h : s.Ok) (f : Lim → Bool) : Syst.Ok ⟨s.many, s.lims.filter f⟩ :=
  ⟨h.m0, h.m1, Nat.le_trans (List.length_filter_le _ _) h.len, fun l hl => h.lim l (List.mem_filter.1 hl).1⟩
theorem Syst.Ok.wo {s : Syst} (h : s.Ok) (by_ : List Int) : (s.wo by_).Ok := h.filter _
theorem Syst.Ok.only {s : Syst} (h : s.Ok) (by_ : List Int) : (s.only by_).Ok := h.filter _
theorem wo_feas {s : Syst} {by_ : List Int} {p : Nat → Int} : Feas (s.wo by_).arcs p ↔ ∀ l ∈ s.lims, l.S ∉ by_ → p l.B.toNat ≤ p l.A.toNat + l.M := by
  rw [feas_iff]
  simp only [Syst.wo, List.mem_filter, Bool.not_eq_true', decide_eq_false_iff_not]
  exact ⟨fun h l h1 h2 => h l ⟨h1, h2⟩, fun h l ⟨h1, h2⟩ => h l h1 h2⟩
inductive MovesR (s : Syst) (w : List Int) : List Int → Int → Prop
  | bad {lo hi e : Int} (h : RangeR s w lo hi e) (he : e ≠ 0) : MovesR s w [] e
  | ok {lo hi : Int} {L : List Int} (h : RangeR s w lo hi 0) (g : RiseOf (fun x => SrcS s.lims x ∧ ¬ RangeR (s.wo [x]) w lo hi 0) L) : MovesR s w L 0
theorem MovesR.uniq {s : Syst} {w A B : List Int} {e f : Int} (h : MovesR s w A e) (g : MovesR s w B f) : A = B ∧ e = f := by
  cases h with
  | bad h he =>
    cases g with
    | bad g _ => exact ⟨rfl, (h.uniq g).2.2⟩
    | ok g _ => exact (he (h.uniq g).2.2).elim
  | ok h h1 =>
    cases g with
    | bad g ge => exact (ge (h.uniq g).2.2.symm).elim
    | ok g g1 =>
      obtain ⟨rfl, rfl, _⟩ := h.uniq g
      exact ⟨h1.uniq g1, rfl⟩
inductive ConfI (s0 : Syst) (L : List Int) : Nat → Syst → List Int → Prop
  | start : ConfI s0 L L.length s0 L
  | drop {i : Nat} {s : Syst} {out : List Int} (h : ConfI s0 L (i + 1) s out) (h1 : ¬ (s.wo [gi L i]).Sound) : ConfI s0 L i (s.wo [gi L i]) (out.filter fun x => !decide (x = gi L i))
  | keep {i : Nat} {s : Syst} {out : List Int} (h : ConfI s0 L (i + 1) s out) (h1 : (s.wo [gi L i]).Sound) : ConfI s0 L i s out
theorem ConfI.le {s0 s : Syst} {L out : List Int} {i : Nat} (h : ConfI s0 L i s out) : i ≤ L.length := by
  induction h with
  | start => exact Nat.le_refl _
  | drop _ _ ih => omega
  | keep _ _ ih => omega
theorem ConfI.uniq {s0 s t : Syst} {L out ot : List Int} {i : Nat} (h : ConfI s0 L i s out) (g : ConfI s0 L i t ot) : s = t ∧ out = ot := by
  induction h generalizing t ot with
  | start =>
    generalize hz : L.length = z at g
    cases g with
    | start => exact ⟨rfl, rfl⟩
    | drop g _ => have := g.le; omega
    | keep g _ => have := g.le; omega
  | @drop i s out h h1 ih =>
    generalize hz : i = z at g
    cases g with
    | start => have := h.le; omega
    | drop g g1 => subst hz; obtain ⟨rfl, rfl⟩ := ih g; exact ⟨rfl, rfl⟩
    | keep g g1 => subst hz; obtain ⟨rfl, rfl⟩ := ih g; exact (h1 g1).elim
  | @keep i s out h h1 ih =>
    generalize hz : i = z at g
    cases g with
    | start => have := h.le; omega
    | drop g g1 => subst hz; obtain ⟨rfl, rfl⟩ := ih g; exact (g1 h1).elim
    | keep g g1 => subst hz; exact ih g
inductive ConfR (s : Syst) : List Int → Int → Prop
  | bad (h : s.check ≠ 0) : ConfR s [] s.check
  | none (h : s.Ok) (h1 : s.Sound) : ConfR s [] 3
  | ok {L out : List Int} {t : Syst} (h : s.Ok) (h1 : ¬ s.Sound) (h2 : RiseOf (SrcS s.lims) L) (h3 : ConfI s L 0 t out) : ConfR s out 0
theorem ConfR.uniq {s : Syst} {A B : List Int} {e f : Int} (h : ConfR s A e) (g : ConfR s B f) : A = B ∧ e = f := by
  cases h with
  | bad h =>
    cases g with
    | bad => exact ⟨rfl, rfl⟩
    | none g _ => exact (h (s.ok_iff.2 g)).elim
    | ok g _ _ _ => exact (h (s.ok_iff.2 g)).elim
  | none h h1 =>
    cases g with
    | bad g => exact (g (s.ok_iff.2 h)).elim
    | none => exact ⟨rfl, rfl⟩
    | ok _ g1 _ _ => exact (g1 h1).elim
  | ok h h1 h2 h3 =>
    cases g with
    | bad g => exact (g (s.ok_iff.2 h)).elim
    | none _ g1 => exact (h1 g1).elim
    | ok _ _ g2 g3 =>
      obtain rfl := h2.uniq g2
      exact ⟨(h3.uniq g3).2, rfl⟩
end Go.MW

namespace Go.MW
theorem wo_feas1 {s : Syst} {a : Int} {p : Nat → Int} : Feas (s.wo [a]).arcs p ↔ ∀ l ∈ s.lims, l.S = a ∨ p l.B.toNat ≤ p l.A.toNat + l.M := by
  rw [wo_feas]
  refine ⟨fun h l hl => ?_, fun h l hl hn => ?_⟩
  · by_cases e : l.S = a
    · exact .inl e
    · exact .inr (h l hl (by simpa using e))
  · exact (h l hl).resolve_left (by simpa using hn)
theorem wo_lims {s : Syst} {a : Int} {p : Lim → Prop} : (∀ l ∈ (s.wo [a]).lims, p l) ↔ ∀ l ∈ s.lims, l.S = a ∨ p l := by
  simp only [Syst.wo, List.mem_filter, Bool.not_eq_true', decide_eq_false_iff_not, List.mem_singleton]
  refine ⟨fun h l hl => ?_, fun h l ⟨hl, hn⟩ => (h l hl).resolve_left hn⟩
  by_cases e : l.S = a
  · exact .inl e
  · exact .inr (h l ⟨hl, e⟩)
end Go.MW

namespace Go.MW
section
variable {P : Program} {ro : Option Nat} {K : FS → World → Prop} {s : FS} {w : World} {H : Heap} {σ τ : List Ent} {ty t : TypeId} {pos : String} {aft : Array Edge} {v : Value} {x y : Operand}
theorem OJ.valN {o : Op} {w' : World} (hdf : ∀ c, o ≠ .defer c) (hx : ∀ a, Sim s a → (execOp a.eval ⟨none, o, ty, pos, aft, none⟩).run P w = .ok (.value v) w') (k : K s w') :
    OJ P ro ⟨none, o, ty, pos, aft, none⟩ K s w := fun a ha => by
  refine ⟨fun _ _ => trivial, ?_⟩
  rw [Oper.semAt_eq _ _ _ hdf, hx a ha]
  exact ⟨_, ha.put_none v, k⟩
theorem setL_mid : ∀ (zs pre post mid : List Value), mid.length = zs.length → setL (pre ++ mid ++ post) pre.length zs = pre ++ zs ++ post := by
  intro zs
  induction zs with
  | nil => intro pre post mid h; have : mid = [] := List.length_eq_zero_iff.1 h; subst this; simp [setL]
  | cons z zs ih =>
    intro pre post mid h
    cases mid with
    | nil => simp at h
    | cons m mid =>
      simp only [setL]
      have e1 : (pre ++ m :: mid ++ post).set pre.length z = (pre ++ [z]) ++ mid ++ post := by
        rw [List.append_assoc, List.set_append_right _ _ (Nat.le_refl _)]; simp
      have e2 : pre.length + 1 = (pre ++ [z]).length := by simp
      rw [e1, e2, ih (pre ++ [z]) post mid (by simpa using h)]
      simp
theorem OJ.clearI {b o len cap : Nat} {c : List Value} {elem : TypeId} (hs : St H w σ) (hx : FS.ev s x = some (.slice (some ⟨b, o, none⟩) len cap)) (hu : ∀ w, (underlying t).run P w = .ok (.slice elem) w) (hz : ∀ w, (zeroValue elem).run P w = .ok (I 0) w) (hl : o + len ≤ c.length)
    (k : ∀ w', St H w' τ → K s w') (hU : Upd σ (.blk b c) (.blk b (setL c o (List.replicate len (I 0)))) τ := by repeat constructor) :
    OJ P ro ⟨none, .call ⟨.builtin .clear, #[x], #[t]⟩, ty, pos, aft, none⟩ K s w := by
  have hzc : (Builtin.zeroCells (I 0).cells len).toList = List.replicate len (I 0) := by
    simp [Builtin.zeroCells, Value.cells]
    apply List.ext_getElem
    · simp
    · intro i h1 h2
      simp [Nat.mod_one]
  obtain ⟨w', h1, h2⟩ := run_storeL (P := P) (List.replicate len (I 0)) o 0 c w σ τ hs (by intro v hv; rw [List.eq_of_mem_replicate hv]; rfl) (by simpa using hl) (by rw [Nat.add_zero]; exact hU)
  refine .valN (v := .tuple #[]) (w' := w') (fun _ => by simp) (fun a ha => ?_) (k w' h2)
  cases len with
  | zero =>
    have e : w' = w := by
      have h3 : (storeCells ⟨b, o, none⟩ (List.replicate 0 (I 0)) 0).run P w = .ok () w := by simp [storeCells]
      rw [h3] at h1; cases h1; rfl
    subst e
    simp only [execOp, resolve, List.map_toArray, List.map_cons, List.map_nil, ha.ev hx, Sem.run_bind, Sem.run_pure, Result.andThen, invoke, builtin, Builtin.clear_]
    simp [hu w']
  | succ m =>
    simp only [execOp, resolve, List.map_toArray, List.map_cons, List.map_nil, ha.ev hx, Sem.run_bind, Sem.run_pure, Result.andThen, invoke, builtin, Builtin.clear_]
    simp only [List.getElem?_toArray, List.getElem?_cons_zero, Sem.run_bind, hu w, Result.andThen, Sem.run_pure, hz w, hzc, h1]
end
end Go.MW

namespace Go.MW
theorem St.grow {H : Heap} {w : World} {σ : List Ent} (hs : St H w σ) (os : Array Obj) : St H (Go.Sort.grow w os) σ := by
  have key : ∀ b o, w.heap[b]? = some o → (w.heap ++ os)[b]? = some o := fun b o h => by
    have hlt := (Array.getElem?_eq_some_iff.1 h).1
    rw [Array.getElem?_append_left hlt]; exact h
  refine ⟨fun b o hb => key b o (hs.ro b o hb), fun e he => ?_, hs.nd, hs.dis, hs.io⟩
  have := hs.own e he
  cases e with
  | blk b c => obtain ⟨T, h⟩ := this; exact ⟨T, key _ _ h⟩
  | obj b o => exact key _ _ this
  | nul => trivial
theorem putCells_front (ys xs : List Int) (sp : List Value) (h : ys.length = xs.length) : Go.Sort.putCells (Value.int .i64) 0 ys.toArray (Is xs ++ sp).toArray = (Is ys ++ sp).toArray := by
  unfold Go.Sort.putCells
  apply Array.ext_getElem?
  intro k
  simp only [Array.getElem?_mapIdx, List.getElem?_toArray, List.size_toArray, Nat.zero_add, Nat.zero_le, true_and, Nat.sub_zero]
  by_cases hk : k < ys.length
  · have h1 : (Is xs ++ sp)[k]? = some (I (gi xs k)) := Is_gi_sp (by omega) sp
    have h2 : (Is ys ++ sp)[k]? = some (I (gi ys k)) := Is_gi_sp hk sp
    rw [h1, h2, Option.map_some, if_pos hk]
    simp [gi, hk]
  · have e1 : (Is xs).length ≤ k := by simp; omega
    have e2 : (Is ys).length ≤ k := by simp; omega
    rw [List.getElem?_append_right e1, List.getElem?_append_right e2]
    simp only [List.length_map, h]
    cases h3 : sp[k - xs.length]? with
    | none => rfl
    | some v => rw [Option.map_some, if_neg (by omega)]
theorem St.putRow {H : Heap} {w : World} {σ : List Ent} {b m : Nat} {xs ys : List Int} {sp : List Value} (hs : St H w (.blk b (Is xs ++ sp) :: σ)) (h : ys.length = xs.length) :
    St H (Go.Sort.putRow (Value.int .i64) (Go.Sort.ahead w m) b 0 ys.toArray) (.blk b (Is ys ++ sp) :: σ) := by
  obtain ⟨T, hb⟩ := hs.own _ (.head _)
  have hne : ∀ k, k ≠ b → (Go.Sort.putRow (Value.int .i64) (Go.Sort.ahead w m) b 0 ys.toArray).heap[k]? = w.heap[k]? := fun k hk => by
    show (w.heap.modify b _)[k]? = _
    rw [Array.getElem?_modify]; simp [Ne.symm hk]
  have hsame : (Go.Sort.putRow (Value.int .i64) (Go.Sort.ahead w m) b 0 ys.toArray).heap[b]? = some (.cells (Is ys ++ sp).toArray T (0, 0)) := by
    show (w.heap.modify b _)[b]? = _
    rw [Array.getElem?_modify]
    simp only [if_true, hb, Option.map_some, Go.Sort.onCells]
    rw [putCells_front ys xs sp h]
  have hnd := List.pairwise_cons.1 hs.nd
  refine ⟨fun k o hk => ?_, fun e he => ?_, List.pairwise_cons.2 ⟨fun y hy k h1 h2 => hnd.1 y hy k h1 h2, hnd.2⟩, fun e he k hk => ?_, hs.io⟩
  · rw [hne k]
    · exact hs.ro k o hk
    · intro e; subst e; rw [hs.dis _ (.head _) k rfl] at hk; cases hk
  · cases he with
    | head => exact ⟨T, hsame⟩
    | tail _ he =>
      have h4 := hs.own e (.tail _ he)
      have h5 := hnd.1 e he
      cases e with
      | blk b' c' => obtain ⟨T', h4⟩ := h4; exact ⟨T', by rw [hne b' (fun e => h5 b rfl (by rw [e]; rfl))]; exact h4⟩
      | obj b' o => simp only [Ent.sat] at h4 ⊢; rw [hne b' (fun e => h5 b rfl (by rw [e]; rfl))]; exact h4
      | nul => trivial
  · cases he with
    | head => exact hs.dis _ (.head _) k hk
    | tail _ he => exact hs.dis e (.tail _ he) k hk
theorem St.holds {H : Heap} {w : World} {σ : List Ent} {b : Nat} {xs : List Int} {sp : List Value} (hs : St H w (.blk b (Is xs ++ sp) :: σ)) : Go.Sort.Holds (Value.int .i64) w b 0 xs.toArray := fun j hj => by
  have hj' : j < xs.length := by simpa using hj
  refine ⟨?_, ?_⟩
  · rw [Nat.zero_add, cell?_own hs .here, Is_gi_sp hj' sp]
    simp [gi, hj']
  · rw [Nat.zero_add]; exact frozen?_own hs .here j
theorem sorted_rise {xs : List Int} : RiseOf (fun x => x ∈ xs) (Go.Lib.compact (xs.mergeSort fun x y => decide (x ≤ y))) := by
  generalize hz : (xs.mergeSort fun x y => decide (x ≤ y)) = zs
  have hp : ∀ x, x ∈ zs ↔ x ∈ xs := fun x => by rw [← hz]; exact (List.mergeSort_perm xs _).mem_iff
  have hsrt : zs.Pairwise (fun x y => x ≤ y) := by
    rw [← hz]
    have := List.pairwise_mergeSort (le := fun x y : Int => decide (x ≤ y)) (fun a b c h1 h2 => by simp at *; omega) (fun a b => by simp; omega) xs
    exact this.imp fun h => by simpa using h
  have key : ∀ m, m ≤ zs.length → (Go.Lib.compactUpTo zs.toArray m).Pairwise (· < ·) ∧ (∀ x ∈ Go.Lib.compactUpTo zs.toArray m, ∃ j, j < m ∧ gi zs j = x) ∧ (∀ j, j < m → gi zs j ∈ Go.Lib.compactUpTo zs.toArray m) := by
    intro m
    induction m with
    | zero => exact fun _ => ⟨by simp [Go.Lib.compactUpTo], by simp [Go.Lib.compactUpTo], fun j hj => by omega⟩
    | succ m ih =>
      intro hm
      obtain ⟨h1, h2, h3⟩ := ih (by omega)
      have hle : ∀ i j, i < j → j < zs.length → gi zs i ≤ gi zs j := fun i j hij hj => by
        have := List.pairwise_iff_getElem.1 hsrt i j (by omega) hj hij
        simpa [gi, hj, (by omega : i < zs.length)] using this
      have hg : zs.toArray[m]! = gi zs m := by simp [gi, (by omega : m < zs.length)]
      have hk : Go.Lib.keeps zs.toArray m = true ↔ (m = 0 ∨ gi zs m ≠ gi zs (m - 1)) := by
        have hg2 : 0 < m → zs.toArray[m - 1]! = gi zs (m - 1) := fun h => by simp [gi, (by omega : m - 1 < zs.length)]
        unfold Go.Lib.keeps
        by_cases h0 : m = 0
        · simp [h0]
        · simp [h0, hg, hg2 (by omega)]
      rw [Go.Lib.compactUpTo_succ, hg]
      by_cases hkk : Go.Lib.keeps zs.toArray m = true
      · rw [if_pos hkk]
        refine ⟨List.pairwise_append.2 ⟨h1, List.pairwise_singleton _ _, fun a ha b hb => ?_⟩, fun x hx => ?_, fun j hj => ?_⟩
        · simp only [List.mem_singleton] at hb
          subst hb
          obtain ⟨j, hj, rfl⟩ := h2 a ha
          rcases hk.1 hkk with h0 | h0
          · omega
          · have e1 := hle (m - 1) m (by omega) (by omega)
            by_cases e : j = m - 1
            · subst e; omega
            · have := hle j (m - 1) (by omega) (by omega); omega
        · rcases List.mem_append.1 hx with hx | hx
          · obtain ⟨j, hj, e⟩ := h2 x hx; exact ⟨j, by omega, e⟩
          · simp only [List.mem_singleton] at hx; exact ⟨m, by omega, hx.symm⟩
        · by_cases e : j = m
          · subst e; simp
          · exact List.mem_append_left _ (h3 j (by omega))
      · rw [if_neg hkk, List.append_nil]
        refine ⟨h1, fun x hx => ?_, fun j hj => ?_⟩
        · obtain ⟨j, hj, e⟩ := h2 x hx; exact ⟨j, by omega, e⟩
        · by_cases e : j = m
          · subst e
            have hn : ¬ (j = 0 ∨ gi zs j ≠ gi zs (j - 1)) := fun h => hkk (hk.2 h)
            have e2 : gi zs j = gi zs (j - 1) := Classical.byContradiction fun h => hn (.inr h)
            have e3 : j ≠ 0 := fun h => hn (.inl h)
            rw [e2]; exact h3 (j - 1) (by omega)
          · exact h3 j (by omega)
  obtain ⟨h1, h2, h3⟩ := key zs.length (Nat.le_refl _)
  refine ⟨h1, fun x => ?_⟩
  rw [← hp x]
  constructor
  · intro hx
    obtain ⟨j, hj, e⟩ := h2 x hx
    rw [← e]; exact List.mem_of_getElem? (gi_get hj)
  · intro hx
    obtain ⟨j, hj⟩ := List.getElem?_of_mem hx
    have hlt := (List.getElem?_eq_some_iff.1 hj).1
    have := h3 j hlt
    rwa [show gi zs j = x by have := gi_get hlt; rw [hj] at this; exact (Option.some.inj this).symm] at this
end Go.MW

namespace Go.MW
def pickTo (q : Nat → Lim → Bool) (ls : List Lim) : Nat → List Lim
  | 0 => []
  | k + 1 => pickTo q ls k ++ (match ls[k]? with | some l => if q k l then [l] else [] | none => [])
theorem pickTo_succ {q : Nat → Lim → Bool} {ls : List Lim} {k : Nat} {l : Lim} (h : ls[k]? = some l) : pickTo q ls (k + 1) = pickTo q ls k ++ if q k l then [l] else [] := by
  simp only [pickTo, h]
theorem pickTo_length (q : Nat → Lim → Bool) (ls : List Lim) : ∀ k, (pickTo q ls k).length ≤ k
  | 0 => Nat.le_refl _
  | k + 1 => by
    have := pickTo_length q ls k
    simp only [pickTo, List.length_append]
    split
    · split <;> simp <;> omega
    · simp; omega
theorem pickTo_filter (f : Lim → Bool) {ls : List Lim} : ∀ {k : Nat}, k ≤ ls.length → pickTo (fun _ l => f l) ls k = (ls.take k).filter f
  | 0, _ => by simp [pickTo]
  | k + 1, h => by
    obtain ⟨l, hl⟩ := nth (l := ls) (k := k) (by omega)
    rw [pickTo_succ hl, pickTo_filter f (by omega), take_snoc hl, List.filter_append]
    congr 1
    by_cases e : f l = true <;> simp [e]
theorem pickTo_all (f : Lim → Bool) (ls : List Lim) : pickTo (fun _ l => f l) ls ls.length = ls.filter f := by
  rw [pickTo_filter f (Nat.le_refl _), List.take_length]
def Syst.but (s : Syst) (i : Nat) : Syst := ⟨s.many, s.lims.take i ++ s.lims.drop (i + 1)⟩
theorem OwnS.blk {v : Value} {xs : List Int} {en : Ent} (h : OwnS 1 v (Is xs) en) (hx : 0 < xs.length) : ∃ b cap sp, v = .slice (.some ⟨b, 0, none⟩) xs.length cap ∧ en = .blk b (Is xs ++ sp) ∧ xs.length + sp.length = cap := by
  rcases h with ⟨a, _, h2, _⟩ | ⟨b, len, cap, sp, rfl, rfl, h3, h4, h5⟩
  · have : xs = [] := by simpa using h2
    subst this; simp at hx
  · obtain rfl : len = xs.length := by simpa using h3.symm
    exact ⟨b, cap, sp, rfl, rfl, by simpa using h4⟩
theorem OwnS.shapeI {v : Value} {xs : List Int} {en : Ent} (h : OwnS 1 v (Is xs) en) : ∃ a cap, v = .slice a xs.length cap := by
  obtain ⟨a, len, cap, rfl, h1⟩ := h.shape
  exact ⟨a, cap, by rw [show len = xs.length by simpa using h1.symm]⟩
structure DelI (q : Int → Bool) (xs Y : List Int) (i j : Nat) : Prop where
  len : Y.length = xs.length
  jl : j ≤ xs.length
  il : i = ((xs.take j).filter fun x => !q x).length
  front : ∀ m < i, gi Y m = gi ((xs.take j).filter fun x => !q x) m
  rest : ∀ m, j ≤ m → gi Y m = gi xs m
theorem DelI.le {q : Int → Bool} {xs Y : List Int} {i j : Nat} (h : DelI q xs Y i j) : i ≤ j := by
  have := List.length_filter_le (fun x => !q x) (xs.take j)
  rw [List.length_take] at this
  have := h.il
  omega
theorem DelI.start {q : Int → Bool} {xs : List Int} {k : Nat} {x : Int} (hx : xs[k]? = some x) (hq : q x = true) (hn : ∀ j < k, ∀ y, xs[j]? = some y → q y = false) : DelI q xs xs k (k + 1) := by
  have hk := (List.getElem?_eq_some_iff.1 hx).1
  have h1 : (xs.take (k + 1)).filter (fun x => !q x) = xs.take k := by
    rw [take_snoc hx, List.filter_append]
    have : (xs.take k).filter (fun x => !q x) = xs.take k := List.filter_eq_self.2 fun y hy => by
      obtain ⟨j, hj⟩ := List.getElem?_of_mem hy
      have hjk : j < k := by have := (List.getElem?_eq_some_iff.1 hj).1; rw [List.length_take] at this; omega
      rw [List.getElem?_take, if_pos hjk] at hj
      simp [hn j hjk y hj]
    rw [this]; simp [hq]
  refine ⟨rfl, by omega, by rw [h1, List.length_take]; omega, fun m hm => ?_, fun _ _ => rfl⟩
  rw [h1]
  simp [gi, hm]
theorem DelI.skip {q : Int → Bool} {xs Y : List Int} {i j : Nat} {x : Int} (h : DelI q xs Y i j) (hx : xs[j]? = some x) (hq : q x = true) : DelI q xs Y i (j + 1) := by
  have hj := (List.getElem?_eq_some_iff.1 hx).1
  have h1 : (xs.take (j + 1)).filter (fun x => !q x) = (xs.take j).filter fun x => !q x := by rw [take_snoc hx, List.filter_append]; simp [hq]
  exact ⟨h.len, by omega, by rw [h1]; exact h.il, by rw [h1]; exact h.front, fun m hm => h.rest m (by omega)⟩
theorem gi_app1 {A : List Int} {x : Int} {m : Nat} : gi (A ++ [x]) m = if m < A.length then gi A m else if m = A.length then x else 0 := by
  unfold gi
  by_cases h : m < A.length
  · simp [h, List.getElem?_append_left h]
  · by_cases e : m = A.length
    · subst e; simp
    · simp only [List.getD_eq_getElem?_getD]
      rw [List.getElem?_append_right (by omega), if_neg h, if_neg e, List.getElem?_eq_none (by simp; omega)]; rfl
theorem DelI.keep {q : Int → Bool} {xs Y : List Int} {i j : Nat} {x : Int} (h : DelI q xs Y i j) (hx : xs[j]? = some x) (hq : q x = false) : DelI q xs (Y.set i x) (i + 1) (j + 1) := by
  have hj := (List.getElem?_eq_some_iff.1 hx).1
  have hle := h.le
  have h1 : (xs.take (j + 1)).filter (fun x => !q x) = (xs.take j).filter (fun x => !q x) ++ [x] := by rw [take_snoc hx, List.filter_append]; simp [hq]
  have hiY : i < Y.length := by rw [h.len]; omega
  refine ⟨by rw [List.length_set]; exact h.len, by omega, by rw [h1, List.length_append, ← h.il]; rfl, fun m hm => ?_, fun m hm => ?_⟩
  · rw [gi_set hiY, h1, gi_app1, ← h.il]
    by_cases e : m = i
    · subst e; rw [if_pos rfl, if_neg (by omega), if_pos rfl]
    · rw [if_neg e, if_pos (by omega)]; exact h.front m (by omega)
  · rw [gi_set hiY, if_neg (by omega)]; exact h.rest m (by omega)
theorem DelI.done {q : Int → Bool} {xs Y : List Int} {i : Nat} (h : DelI q xs Y i xs.length) (sp : List Value) :
    setL (Is Y ++ sp) i (List.replicate (xs.length - i) (I 0)) = Is (xs.filter fun x => !q x) ++ (List.replicate (xs.length - i) (I 0) ++ sp) := by
  have hle := h.le
  have hl := h.len
  have hil := h.il
  have hf := h.front
  rw [List.take_length] at hil hf
  have h1 : Y.take i = xs.filter fun x => !q x := by
    refine ext_gi (by rw [List.length_take, ← hil]; omega) fun m hm => ?_
    rw [List.length_take] at hm
    rw [← hf m (by omega)]
    simp [gi, show m < i by omega]
  have h2 : Is Y ++ sp = Is (xs.filter fun x => !q x) ++ Is (Y.drop i) ++ sp := by rw [← h1, ← List.map_append, List.take_append_drop]
  have h3 := setL_mid (List.replicate (xs.length - i) (I 0)) (Is (xs.filter fun x => !q x)) sp (Is (Y.drop i)) (by simp [hl])
  have e : (Is (xs.filter fun x => !q x)).length = i := by simp [hil]
  rw [e] at h3
  rw [h2, h3, List.append_assoc]
theorem DelI.lt {q : Int → Bool} {xs Y : List Int} {i j k : Nat} {x : Int} (h : DelI q xs Y i j) (hx : xs[k]? = some x) (hq : q x = true) (hk : k < j) : i < j := by
  have h0 := h.jl
  have h1 : ((xs.take j).filter fun x => !q x).length < (xs.take j).length := by
    refine Nat.lt_of_le_of_ne (List.length_filter_le _ _) fun e => ?_
    have h2 := List.length_filter_eq_length_iff.1 e x (List.mem_of_getElem? (i := k) (by rw [List.getElem?_take, if_pos hk]; exact hx))
    simp [hq] at h2
  rw [List.length_take] at h1
  have := h.il
  omega
end Go.MW

namespace Go.MW
def InReach (x : List Int) : Prop := ∀ n ∈ x, -1280000 ≤ n ∧ n ≤ 1280000
theorem InReach.at {x : List Int} (h : InReach x) {v : Nat} (hv : v < x.length) : -1280000 ≤ gi x v ∧ gi x v ≤ 1280000 := h _ (List.mem_of_getElem? (gi_get hv))
theorem inReach_iff {x : List Int} : InReach x ↔ ∀ v < x.length, -1280000 ≤ gi x v ∧ gi x v ≤ 1280000 := by
  refine ⟨fun h v hv => h.at hv, fun h n hn => ?_⟩
  obtain ⟨i, hi⟩ := List.getElem?_of_mem hn
  have hlt := (List.getElem?_eq_some_iff.1 hi).1
  have := gi_get hlt
  rw [hi] at this
  cases this
  exact h i hlt
def dotL (w x : List Int) : Int := sumTo (fun v => gi w v * gi x v) w.length
inductive ValueR (w x : List Int) : Int → Int → Prop
  | wt (h : ¬ (w.length ≤ 65 ∧ SizedW w)) : ValueR w x 0 27
  | pt (h : w.length ≤ 65 ∧ SizedW w) (h1 : ¬ (x.length = w.length ∧ InReach x)) : ValueR w x 0 25
  | ok (h : w.length ≤ 65 ∧ SizedW w) (h1 : x.length = w.length ∧ InReach x) : ValueR w x (dotL w x) 0
theorem ValueR.uniq {w x : List Int} {a b e f : Int} (h : ValueR w x a e) (g : ValueR w x b f) : a = b ∧ e = f := by
  cases h <;> cases g <;> first | exact ⟨rfl, rfl⟩ | contradiction
theorem ValueR.zero {w x : List Int} {a : Int} (h : ValueR w x a 0) : (w.length ≤ 65 ∧ SizedW w) ∧ (x.length = w.length ∧ InReach x) ∧ a = dotL w x := by
  generalize hz : (0 : Int) = z at h
  cases h with
  | wt => omega
  | pt => omega
  | ok h h1 => exact ⟨h, h1, rfl⟩
theorem BestR.value {s : Syst} {w x : List Int} {m : Int} (h : BestR s w x) (hM : MostR s w m 0) : ValueR w x m 0 ∧ s.Ok ∧ x.length = s.n ∧ gi x 0 = 0 ∧ (∀ v < s.n, -1280000 ≤ gi x v ∧ gi x v ≤ 1280000) ∧ Feas s.arcs (gi x) := by
  obtain ⟨hA, _, _⟩ := hM.1.zero
  obtain ⟨h1, h2, h3⟩ := askErr_ok hA
  have hin : InReach x := inReach_iff.2 fun v hv => by have := h.low v (by rw [← h.len]; exact hv); omega
  have e : m = dotL w x := by
    rw [(hM.2.2 rfl).1.uniq h.sum]; unfold dotL; rw [h2]
  rw [e]
  exact ⟨.ok ⟨by rw [h2]; exact h1.n65, h3⟩ ⟨by rw [h.len, h2], hin⟩, h1, h.len, h.zero, fun v hv => by have := h.low v hv; omega, h.feas⟩
theorem RT.nil (H : Heap) : RT H (.slice none 0 0) [] := ⟨[], rfl, RS.nil H 1 none 0, fun i u r h => by simp at h⟩
def lmA (s : Syst) (i : Int) : Lim := s.lims.getD i.toNat ⟨0, 0, 0, 0⟩
theorem lmA_get {s : Syst} {i : Int} (h : 0 ≤ i ∧ i < s.lims.length) : s.lims[i.toNat]? = some (lmA s i) := by
  have : i.toNat < s.lims.length := by omega
  simp [lmA, List.getD, List.getElem?_eq_getElem this]
structure RoundP (s : Syst) (l : List Int) : Prop where
  l0 : 0 < l.length
  l1 : l.length ≤ 400
  inn : ∀ k < l.length, 0 ≤ gi l k ∧ gi l k < s.lims.length
  link : ∀ k < l.length, (lmA s (gi l k)).B = (lmA s (gi l ((k + 1) % l.length))).A
  neg : sumTo (fun k => (lmA s (gi l k)).M) l.length < 0
inductive RndR (s : Syst) (l : List Int) : Int → Prop
  | bad (h : s.check ≠ 0) : RndR s l s.check
  | no (h : s.Ok) (h1 : ¬ RoundP s l) : RndR s l 20
  | ok (h : s.Ok) (h1 : RoundP s l) : RndR s l 0
theorem RndR.uniq {s : Syst} {l : List Int} {e f : Int} (h : RndR s l e) (g : RndR s l f) : e = f := by
  cases h with
  | bad h =>
    cases g with
    | bad => rfl
    | no g _ => exact (h (s.ok_iff.2 g)).elim
    | ok g _ => exact (h (s.ok_iff.2 g)).elim
  | no h h1 =>
    cases g with
    | bad g => exact (g (s.ok_iff.2 h)).elim
    | no => rfl
    | ok _ g1 => exact (h1 g1).elim
  | ok h h1 =>
    cases g with
    | bad g => exact (g (s.ok_iff.2 h)).elim
    | no _ g1 => exact (g1 h1).elim
    | ok => rfl
end Go.MW

namespace Go.MW
theorem rise_gi {S : Int → Prop} {A : List Int} (h : RiseOf S A) {i j : Nat} (hij : i < j) (hj : j < A.length) : gi A i < gi A j := by
  have := List.pairwise_iff_getElem.1 h.up i j (by omega) hj hij
  simpa [gi, hj, (by omega : i < A.length)] using this
inductive WithR (s : Syst) (l : Lim) : Syst → Int → Prop
  | bad (h : s.check ≠ 0) : WithR s l ⟨0, []⟩ s.check
  | lim (h : s.Ok) (h1 : l.ok s.many = false) : WithR s l ⟨0, []⟩ 20
  | long (h : s.Ok) (h1 : l.ok s.many = true) (h2 : s.lims.length = 400) : WithR s l ⟨0, []⟩ 2
  | ok (h : s.Ok) (h1 : l.ok s.many = true) (h2 : s.lims.length ≠ 400) : WithR s l ⟨s.many, s.lims ++ [l]⟩ 0
theorem WithR.uniq {s : Syst} {l : Lim} {t u : Syst} {e f : Int} (h : WithR s l t e) (g : WithR s l u f) : t = u ∧ e = f := by
  cases h with
  | bad h =>
    cases g with
    | bad => exact ⟨rfl, rfl⟩
    | lim g _ => exact (h (s.ok_iff.2 g)).elim
    | long g _ _ => exact (h (s.ok_iff.2 g)).elim
    | ok g _ _ => exact (h (s.ok_iff.2 g)).elim
  | lim h h1 =>
    cases g with
    | bad g => exact (g (s.ok_iff.2 h)).elim
    | lim => exact ⟨rfl, rfl⟩
    | long _ g1 _ => rw [h1] at g1; cases g1
    | ok _ g1 _ => rw [h1] at g1; cases g1
  | long h h1 h2 =>
    cases g with
    | bad g => exact (g (s.ok_iff.2 h)).elim
    | lim _ g1 => rw [h1] at g1; cases g1
    | long => exact ⟨rfl, rfl⟩
    | ok _ _ g2 => exact (g2 h2).elim
  | ok h h1 h2 =>
    cases g with
    | bad g => exact (g (s.ok_iff.2 h)).elim
    | lim _ g1 => rw [h1] at g1; cases g1
    | long _ _ g2 => exact (h2 g2).elim
    | ok => exact ⟨rfl, rfl⟩
end Go.MW

namespace Go.MW
inductive RestsR (s : Syst) (us : List Use) : List Int → Int → Prop
  | bad (h : s.check ≠ 0) : RestsR s us [] s.check
  | no (h : s.Ok) (h1 : ¬ ∀ u ∈ us, 0 ≤ u.l ∧ u.l < s.lims.length) : RestsR s us [] 24
  | ok {L : List Int} (h : s.Ok) (h1 : ∀ u ∈ us, 0 ≤ u.l ∧ u.l < s.lims.length) (h2 : RiseOf (fun x => ∃ u ∈ us, (lmA s u.l).S = x) L) : RestsR s us L 0
theorem RestsR.uniq {s : Syst} {us : List Use} {A B : List Int} {e f : Int} (h : RestsR s us A e) (g : RestsR s us B f) : A = B ∧ e = f := by
  cases h with
  | bad h =>
    cases g with
    | bad => exact ⟨rfl, rfl⟩
    | no g _ => exact (h (s.ok_iff.2 g)).elim
    | ok g _ _ => exact (h (s.ok_iff.2 g)).elim
  | no h h1 =>
    cases g with
    | bad g => exact (g (s.ok_iff.2 h)).elim
    | no => exact ⟨rfl, rfl⟩
    | ok _ g1 _ => exact (h1 g1).elim
  | ok h h1 h2 =>
    cases g with
    | bad g => exact (g (s.ok_iff.2 h)).elim
    | no _ g1 => exact (g1 h1).elim
    | ok _ _ g2 => exact ⟨h2.uniq g2, rfl⟩
def leftAt (s : Syst) (bs : List Int) (k : Nat) : Nat := ((s.lims.take k).filter fun l => !decide (l.S ∈ bs)).length
def carryU (s : Syst) (bs : List Int) (u : Use) : Use := ⟨leftAt s bs u.l.toNat, u.t⟩
inductive CarryR (s : Syst) (w : List Int) (n : Int) (us : List Use) (bs : List Int) : Int → List Use → Int → Prop
  | bad {e : Int} (h : ProofR s w n us e) (he : e ≠ 0) : CarryR s w n us bs 0 [] e
  | none (h : ProofR s w n us 0) (h1 : ∃ u ∈ us, (lmA s u.l).S ∈ bs) : CarryR s w n us bs 0 [] 3
  | ok (h : ProofR s w n us 0) (h1 : ∀ u ∈ us, (lmA s u.l).S ∉ bs) : CarryR s w n us bs n (us.map (carryU s bs)) 0
theorem CarryR.uniq {s : Syst} {w : List Int} {n : Int} {us : List Use} {bs : List Int} {a b : Int} {A B : List Use} {e f : Int} (h : CarryR s w n us bs a A e) (g : CarryR s w n us bs b B f) : a = b ∧ A = B ∧ e = f := by
  cases h with
  | bad h he =>
    cases g with
    | bad g _ => exact ⟨rfl, rfl, h.uniq g⟩
    | none g _ => exact (he (h.uniq g)).elim
    | ok g _ => exact (he (h.uniq g)).elim
  | none h h1 =>
    cases g with
    | bad g ge => exact (ge (g.uniq h)).elim
    | none => exact ⟨rfl, rfl, rfl⟩
    | ok _ g1 => obtain ⟨u, hu, h2⟩ := h1; exact (g1 u hu h2).elim
  | ok h h1 =>
    cases g with
    | bad g ge => exact (ge (g.uniq h)).elim
    | none _ g1 => obtain ⟨u, hu, g2⟩ := g1; exact (h1 u hu g2).elim
    | ok => exact ⟨rfl, rfl, rfl⟩
theorem ProofR.inn {s : Syst} {w : List Int} {n : Int} {us : List Use} (h : ProofR s w n us 0) : s.Ok ∧ us.length ≤ 400 ∧ ∀ u ∈ us, 0 ≤ u.l ∧ u.l < s.lims.length := by
  generalize hz : (0 : Int) = z at h
  cases h with
  | ask h => exact (h hz.symm).elim
  | bad => omega
  | ok h h1 =>
    refine ⟨(askErr_ok h).1, h1.len, fun u hu => ?_⟩
    obtain ⟨i, hi⟩ := List.getElem?_of_mem hu
    have hlt := (List.getElem?_eq_some_iff.1 hi).1
    have hg := gu_get hlt
    rw [hi] at hg
    rw [Option.some.inj hg]
    exact ⟨(h1.use i hlt).l0, (h1.use i hlt).l1⟩
end Go.MW

namespace Go.MW
theorem sound_sub {s t : Syst} (h : s.Sound) (hs : ∀ l ∈ t.lims, l ∈ s.lims) : t.Sound := by
  obtain ⟨p, hp⟩ := h
  exact ⟨p, feas_iff.2 fun l hl => feas_iff.1 hp l (hs l hl)⟩
structure ConfP (s : Syst) (bs : List Int) : Prop where
  src : ∀ x ∈ bs, SrcS s.lims x
  up : bs.Pairwise (· < ·)
  bad : ¬ (s.only bs).Sound
  least : ∀ x ∈ bs, ((s.only bs).wo [x]).Sound
inductive CConfR (s : Syst) (bs : List Int) : Int → Prop
  | bad (h : s.check ≠ 0) : CConfR s bs s.check
  | no (h : s.Ok) (h1 : ¬ ConfP s bs) : CConfR s bs 26
  | ok (h : s.Ok) (h1 : ConfP s bs) : CConfR s bs 0
theorem CConfR.uniq {s : Syst} {bs : List Int} {e f : Int} (h : CConfR s bs e) (g : CConfR s bs f) : e = f := by
  cases h with
  | bad h =>
    cases g with
    | bad => rfl
    | no g _ => exact (h (s.ok_iff.2 g)).elim
    | ok g _ => exact (h (s.ok_iff.2 g)).elim
  | no h h1 =>
    cases g with
    | bad g => exact (g (s.ok_iff.2 h)).elim
    | no => rfl
    | ok _ g1 => exact (h1 g1).elim
  | ok h h1 =>
    cases g with
    | bad g => exact (g (s.ok_iff.2 h)).elim
    | no _ g1 => exact (g1 h1).elim
    | ok => rfl
theorem only_all {s : Syst} {L : List Int} (hL : RiseOf (SrcS s.lims) L) : s.only L = s := by
  unfold Syst.only
  rw [List.filter_eq_self.2 fun l hl => decide_eq_true ((hL.mem _).2 ⟨l, hl, rfl⟩)]
theorem only_wo {s : Syst} {out : List Int} {x : Int} : (s.only out).wo [x] = s.only (out.filter fun y => !decide (y = x)) := by
  unfold Syst.only Syst.wo
  simp only [List.filter_filter]
  congr 1
  apply List.filter_congr
  intro l _
  by_cases h1 : l.S = x <;> by_cases h2 : l.S ∈ out <;> simp [h1, h2]
structure ConfV (s0 : Syst) (L : List Int) (i : Nat) (s : Syst) (out : List Int) : Prop where
  bad : ¬ s.Sound
  up : out.Pairwise (· < ·)
  sub : ∀ x ∈ out, x ∈ L
  low : ∀ j < i, j < L.length → gi L j ∈ out
  eq : s = s0.only out
  least : ∀ j, i ≤ j → j < L.length → gi L j ∈ out → (s.wo [gi L j]).Sound
theorem ConfI.inv {s0 s : Syst} {L out : List Int} {i : Nat} (h : ConfI s0 L i s out) (h0 : ¬ s0.Sound) (hL : RiseOf (SrcS s0.lims) L) : ConfV s0 L i s out := by
  induction h with
  | start =>
    exact ⟨h0, hL.up, fun _ h => h, fun j hj _ => List.mem_of_getElem? (gi_get hj), (only_all hL).symm, fun j h1 h2 => by omega⟩
  | @drop i s out h h1 ih =>
    have hle := h.le
    have hlt : ∀ j k, j < k → k < L.length → gi L j < gi L k := fun j k hjk hk => rise_gi hL hjk hk
    refine ⟨h1, ih.up.filter _, fun x hx => ih.sub x (List.mem_filter.1 hx).1, fun j hj hjl => ?_, ?_, fun j hj hjl hm => ?_⟩
    · have := hlt j i hj (by omega)
      exact List.mem_filter.2 ⟨ih.low j (by omega) hjl, by simp; omega⟩
    · rw [ih.eq, only_wo]
    · obtain ⟨hm1, hm2⟩ := List.mem_filter.1 hm
      by_cases e : j = i
      · subst e; simp at hm2
      · exact sound_sub (ih.least j (by omega) hjl hm1) fun l hl => by
          simp only [Syst.wo, List.mem_filter] at hl ⊢
          exact ⟨hl.1.1, hl.2⟩
  | @keep i s out h h1 ih =>
    have hle := h.le
    refine ⟨ih.bad, ih.up, ih.sub, fun j hj hjl => ih.low j (by omega) hjl, ih.eq, fun j hj hjl hm => ?_⟩
    by_cases e : j = i
    · subst e; exact h1
    · exact ih.least j (by omega) hjl hm
theorem open_iff {s : Syst} {w : List Int} : OpenS s.arcs (s.wt w) s.n ↔ ∃ q : Nat → Int, (∀ v, q v = 0 ∨ q v = 1) ∧ (∀ l ∈ s.lims, q l.A.toNat = 0 → q l.B.toNat = 0) ∧ 0 < sumTo (fun v => s.wt w v * q v) s.n := by
  constructor
  · rintro ⟨q, h1, h2, h3⟩
    refine ⟨q, h1, fun l hl => ?_, h3⟩
    obtain ⟨i, hi⟩ := List.getElem?_of_mem hl
    exact h2 (l.arc i) (List.mem_of_getElem? (arcsOf_get hi))
  · rintro ⟨q, h1, h2, h3⟩
    refine ⟨q, h1, fun x hx => ?_, h3⟩
    obtain ⟨i, l, hl, rfl⟩ := arcsOf_mem hx
    exact h2 l (List.mem_of_getElem? hl)
theorem wt_val' (s : Syst) (w : List Int) (q : Nat → Int) : sumTo (fun v => s.wt w v * q v) s.n = valw w s.n q := wt_val w s.n_pos q
theorem range_most {s : Syst} {w : List Int} {lo hi e : Int} (h : RangeR s w lo hi e) : ∃ a f b g, MostR s w a f ∧ MostR s (negW w) b g ∧ ((f ≠ 0 ∧ e = f ∧ lo = 0 ∧ hi = 0) ∨ (f = 0 ∧ g ≠ 0 ∧ e = g ∧ lo = 0 ∧ hi = 0) ∨ (f = 0 ∧ g = 0 ∧ e = 0 ∧ lo = -b ∧ hi = a)) := by
  cases h with
  | first h he =>
    obtain ⟨b, g, hb⟩ := mostR_some s (negW w)
    exact ⟨_, _, b, g, h, hb, .inl ⟨he, rfl, rfl, rfl⟩⟩
  | second h h2 he => exact ⟨_, 0, _, _, h, h2, .inr (.inl ⟨rfl, he, rfl, rfl, rfl⟩)⟩
  | ok h h2 => exact ⟨_, 0, _, 0, h, h2, .inr (.inr ⟨rfl, rfl, rfl, rfl, rfl⟩)⟩
theorem but_mem {s : Syst} {i : Nat} {l : Lim} (h : l ∈ (s.but i).lims) : l ∈ s.lims := by
  rcases List.mem_append.1 h with h | h
  · exact List.mem_of_mem_take h
  · exact List.mem_of_mem_drop h
theorem but_len (s : Syst) (i : Nat) : (s.but i).lims.length ≤ s.lims.length := by
  simp only [Syst.but, List.length_append, List.length_take, List.length_drop]; omega
theorem Syst.Ok.but {s : Syst} (h : s.Ok) (i : Nat) : (s.but i).Ok :=
  ⟨h.m0, h.m1, Nat.le_trans (but_len s i) h.len, fun l hl => h.lim l (but_mem hl)⟩
def IdleP (s : Syst) (i : Nat) : Prop := ∃ rs, Sq s.n rs ∧ WaysT s.n s.arcs (gt rs) ∧ WaysT s.n (s.but i).arcs (gt rs)
inductive IdleR (s : Syst) : List Int → Int → Prop
  | bad (h : s.check ≠ 0) : IdleR s [] s.check
  | clash (h : s.Ok) (h1 : ¬ s.Sound) : IdleR s [] 23
  | ok {L : List Int} (h : s.Ok) (h1 : s.Sound) (g : RiseOf (fun x => ∃ i : Nat, x = i ∧ i < s.lims.length ∧ IdleP s i) L) : IdleR s L 0
theorem IdleR.uniq {s : Syst} {A B : List Int} {e f : Int} (h : IdleR s A e) (g : IdleR s B f) : A = B ∧ e = f := by
  cases h with
  | bad h =>
    cases g with
    | bad => exact ⟨rfl, rfl⟩
    | clash g _ => exact (h (s.ok_iff.2 g)).elim
    | ok g _ _ => exact (h (s.ok_iff.2 g)).elim
  | clash h h1 =>
    cases g with
    | bad g => exact (g (s.ok_iff.2 h)).elim
    | clash => exact ⟨rfl, rfl⟩
    | ok _ g1 _ => exact (h1 g1).elim
  | ok h h1 h2 =>
    cases g with
    | bad g => exact (g (s.ok_iff.2 h)).elim
    | clash _ g1 => exact (g1 h1).elim
    | ok _ _ g2 => exact ⟨h2.uniq g2, rfl⟩
theorem ways_feas {n : Nat} {es : List Arc} {T : Nat → Nat → Int} (h : WaysT n es T) (hin : ∀ x ∈ es, x.f < n ∧ x.t < n ∧ x.f ≠ x.t ∧ -20000 ≤ x.c ∧ x.c ≤ 20000) {p : Nat → Int} (hp : ∀ i j, i < n → j < n → T i j ≠ free → p j - p i ≤ T i j) : Feas es p := fun x hx => by
  obtain ⟨b1, b2, b3, b4, b5⟩ := hin x hx
  have h1 := h.dom x.f x.t b1 b2 [] x.c .nil (fun _ h => by cases h) ⟨x, hx, rfl, rfl, rfl⟩
  have h2 := hp x.f x.t b1 b2 (by simp only [free]; omega)
  omega
theorem IdleP.feas {s : Syst} {i : Nat} (hok : s.Ok) (h : IdleP s i) (p : Nat → Int) : Feas s.arcs p ↔ Feas (s.but i).arcs p := by
  obtain ⟨rs, _, h2, h3⟩ := h
  constructor
  · intro hp; exact ways_feas h3 (hok.but i).inn fun i j hi hj hne => h2.lo i j hi hj hne p hp
  · intro hp; exact ways_feas h2 hok.inn fun i j hi hj hne => h3.lo i j hi hj hne p hp
end Go.MW

namespace Go.MW
variable {n : Nat} {es : List Arc} {T : Nat → Nat → Int} {p : Nat → Int} {X : List Int}
theorem Wk.small (hb : ∀ x ∈ es, -100 ≤ x.c ∧ x.c ≤ 100) {L : List Nat} : ∀ {i j : Nat} {c : Int}, Wk es i L j c → -(100 * (L.length + 1 : Int)) ≤ c ∧ c ≤ 100 * (L.length + 1 : Int) := by
  induction L with
  | nil =>
    rintro i j c ⟨x, h1, h2, h3, rfl⟩
    have := hb x h1
    simpa using this
  | cons v L ih =>
    rintro i j c ⟨x, h1, h2, h3, h4⟩
    have h5 := ih h4
    have := hb x h1
    simp only [List.length_cons]
    omega
theorem WaysT.small (h : WaysT n es T) (hin : ∀ x ∈ es, x.f < n ∧ x.t < n ∧ x.f ≠ x.t ∧ -20000 ≤ x.c ∧ x.c ≤ 20000) (hp : Feas es p) (hb : ∀ x ∈ es, -100 ≤ x.c ∧ x.c ≤ 100) {i j : Nat} (hi : i < n) (hj : j < n) (hne : T i j ≠ free) :
    -(100 * (n + 1 : Int)) ≤ T i j ∧ T i j ≤ 100 * (n + 1 : Int) := by
  by_cases e : j = i
  · subst e
    have e1 := h.dg j hj
    have e2 := h.lo j j hj hj hne p hp
    omega
  · obtain ⟨L, c, h1, h2⟩ := h.walk hp hi hj hne e
    obtain ⟨L', c', k1, k2, k3, k4⟩ := h1.simpleF hp L.length (Nat.le_refl _)
    have k5 := h.le_walk hin hp hi hj k4
    have k6 := Wk.small hb k4
    have k7 := nodup_le k1 (k4.mem hin)
    have : c' = T i j := by omega
    subst this
    omega
theorem PtsR.small {f : Int → Int → Int} {B : Int} (hB : 0 ≤ B) (hf : ∀ i n : Int, 1 ≤ n → 0 ≤ f i n ∧ f i n < n) (ht : TabS n T) (hb : ∀ i j, i < n → j < n → T i j ≠ free → -B ≤ T i j ∧ T i j ≤ B) (h : PtsR T f X) :
    X.length ≤ n → ∀ v < X.length, -(B * (v : Int)) ≤ gi X v ∧ gi X v ≤ B * (v : Int) := by
  induction h with
  | start => intro _ v hv; simp at hv; subst hv; simp [gi]
  | @snoc X lo hi h h1 h2 ih =>
    intro hl v hv
    simp only [List.length_append, List.length_singleton] at hl hv
    have g := h.inv hf ht (by omega)
    have ih := ih (by omega)
    rw [gi_snoc]
    by_cases e : v < X.length
    · rw [if_pos e]; exact ih v e
    · rw [if_neg e, if_pos (by omega), show v = X.length by omega]
      have mono : ∀ a : Nat, a < X.length → B * (a : Int) + B ≤ B * (X.length : Int) := fun a ha => by
        have := Int.mul_le_mul_of_nonneg_left (show (a : Int) + 1 ≤ X.length by omega) hB
        rw [Int.mul_add, Int.mul_one] at this
        exact this
      have h0 : 0 ≤ B * (X.length : Int) := Int.mul_nonneg hB (by omega)
      have k1 : lo ≠ -free → -(B * (X.length : Int)) ≤ lo ∧ lo ≤ B * (X.length : Int) := fun e => by
        rcases h1.2 with ⟨g, _⟩ | ⟨a', g1, g2, g3⟩
        · exact (e g).elim
        · have := hb X.length a' (by omega) (by omega) g2; have := ih a' (by omega); have := mono a' g1; omega
      have k2 : hi ≠ free → -(B * (X.length : Int)) ≤ hi ∧ hi ≤ B * (X.length : Int) := fun e => by
        rcases h2.2 with ⟨g, _⟩ | ⟨a', g1, g2, g3⟩
        · exact (e g).elim
        · have := hb a' X.length (by omega) (by omega) g2; have := ih a' (by omega); have := mono a' g1; omega
      unfold chooseI
      by_cases e1 : lo = -free
      · by_cases e2 : hi = free
        · rw [if_neg (by omega), if_neg (by omega)]; omega
        · rw [if_neg (by omega), if_pos e2]; exact k2 e2
      · by_cases e2 : hi = free
        · rw [if_pos e1, if_neg (by omega)]; exact k1 e1
        · have e3 := g.le ht (by omega) rfl h1 h2 e1 e2
          have e4 := hf (X.length - 1) (hi - lo + 1) (by omega)
          rw [if_pos e1, if_pos e2]
          have := k1 e1; have := k2 e2; omega
variable {s : Syst} {bs : List Int}
end Go.MW
