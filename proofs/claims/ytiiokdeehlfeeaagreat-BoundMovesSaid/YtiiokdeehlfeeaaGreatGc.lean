/-
  Texts of these claims, joined: Mxg Mxh Mxi Mxk Mxm Mxn Mxo Mxp.
-/
import Derived.Test.YtiiokdeehlfeeaaGreatGb
import Derived.Sort.Grow
import Derived.Lib.SlicesCompact
namespace Go.MW
section
variable {P : Program} {ro : Option Nat} {K : FS → World → Prop} {s : FS} {w : World} {H : Heap} {σ τ : List Ent} {ty t : TypeId} {pos : String} {aft : Array Edge} {v : Value} {x y : Operand}
theorem OJ.valN {o : Op} {w' : World} (hdf : ∀ c, o ≠ .defer c) (hx : ∀ a, Sim s a → (execOp a.eval ⟨none, o, ty, pos, aft, none⟩).run P w = .ok (.value v) w') (k : K s w') :
    OJ P ro ⟨none, o, ty, pos, aft, none⟩ K s w := fun a ha => by
  refine ⟨fun _ _ => trivial, ?_⟩
  rw [Oper.semAt_eq _ _ _ hdf, hx a ha]
  exact ⟨_, ha.put_none v, k⟩
theorem setL_mid : ∀ (zs pre post mid : List Value), mid.length = zs.length → setL (pre ++ mid ++ post) pre.length zs = pre ++ zs ++ post := by
  intro zs
  induction zs with
  | nil => intro pre post mid h; have : mid = [] := List.length_eq_zero_iff.1 h; subst this; simp [setL]
  | cons z zs ih =>
    intro pre post mid h
    cases mid with
    | nil => simp at h
    | cons m mid =>
      simp only [setL]
      have e1 : (pre ++ m :: mid ++ post).set pre.length z = (pre ++ [z]) ++ mid ++ post := by
        rw [List.append_assoc, List.set_append_right _ _ (Nat.le_refl _)]; simp
      have e2 : pre.length + 1 = (pre ++ [z]).length := by simp
      rw [e1, e2, ih (pre ++ [z]) post mid (by simpa using h)]
      simp
theorem OJ.clearI {b o len cap : Nat} {c : List Value} {elem : TypeId} (hs : St H w σ) (hx : FS.ev s x = some (.slice (some ⟨b, o, none⟩) len cap)) (hu : ∀ w, (underlying t).run P w = .ok (.slice elem) w) (hz : ∀ w, (zeroValue elem).run P w = .ok (I 0) w) (hl : o + len ≤ c.length)
    (k : ∀ w', St H w' τ → K s w') (hU : Upd σ (.blk b c) (.blk b (setL c o (List.replicate len (I 0)))) τ := by repeat constructor) :
    OJ P ro ⟨none, .call ⟨.builtin .clear, #[x], #[t]⟩, ty, pos, aft, none⟩ K s w := by
  have hzc : (Builtin.zeroCells (I 0).cells len).toList = List.replicate len (I 0) := by
    simp [Builtin.zeroCells, Value.cells]
    apply List.ext_getElem
    · simp
    · intro i h1 h2
      simp [Nat.mod_one]
  obtain ⟨w', h1, h2⟩ := run_storeL (P := P) (List.replicate len (I 0)) o 0 c w σ τ hs (by intro v hv; rw [List.eq_of_mem_replicate hv]; rfl) (by simpa using hl) (by rw [Nat.add_zero]; exact hU)
  refine .valN (v := .tuple #[]) (w' := w') (fun _ => by simp) (fun a ha => ?_) (k w' h2)
  cases len with
  | zero =>
    have e : w' = w := by
      have h3 : (storeCells ⟨b, o, none⟩ (List.replicate 0 (I 0)) 0).run P w = .ok () w := by simp [storeCells]
      rw [h3] at h1; cases h1; rfl
    subst e
    simp only [execOp, resolve, List.map_toArray, List.map_cons, List.map_nil, ha.ev hx, Sem.run_bind, Sem.run_pure, Result.andThen, invoke, builtin, Builtin.clear_]
    simp [hu w']
  | succ m =>
    simp only [execOp, resolve, List.map_toArray, List.map_cons, List.map_nil, ha.ev hx, Sem.run_bind, Sem.run_pure, Result.andThen, invoke, builtin, Builtin.clear_]
    simp only [List.getElem?_toArray, List.getElem?_cons_zero, Sem.run_bind, hu w, Result.andThen, Sem.run_pure, hz w, hzc, h1]
theorem q_field {fs : Array Field} {f : Field} {cs : Array Value} {k : Nat} (hx : FS.ev s x = some (.agg cs)) (hu : ∀ w, (underlying t).run P w = .ok (.struct fs) w) (hf : fs[k]? = some f) (ha : ∀ w, (isAgg f.type).run P w = .ok false w) (hv : cs[f.offset]? = some v) :
    QJ P H σ s (.field t x k) v :=
  ⟨fun _ => by simp, fun a w _ _ _ _ _ hsim _ => by
    simp only [execOp, hsim.ev hx, Instr.field, Sem.run_bind, hu w, Result.andThen, hf, asAgg, Sem.run_pure, run_part ha hv]⟩
theorem run_eqS3 {d : Nat} {f0 f1 f2 : Field} {a0 a1 a2 b0 b1 b2 : Int} {w : World} (hu : ∀ w, (underlying t).run P w = .ok (.struct #[f0, f1, f2]) w) (hh : P.stoodInHeld t = false)
    (hf : ∀ f ∈ [f0, f1, f2], f.name ≠ "_" ∧ (∀ w, (underlying f.type).run P w = .ok (.int .i64) w) ∧ (∀ w, (isAgg f.type).run P w = .ok false w)) (o0 : f0.offset = 0) (o1 : f1.offset = 1) (o2 : f2.offset = 2) :
    (Op.equalIn (d + 2) t (.agg #[I a0, I a1, I a2]) (.agg #[I b0, I b1, I b2])).run P w = .ok (decide (a0 = b0 ∧ a1 = b1 ∧ a2 = b2)) w := by
  obtain ⟨n0, u0, g0⟩ := hf f0 (by simp)
  obtain ⟨n1, u1, g1⟩ := hf f1 (by simp)
  obtain ⟨n2, u2, g2⟩ := hf f2 (by simp)
  unfold Op.equalIn
  simp only [Sem.run_bind, hu w, Result.andThen]
  simp [hh, n0, n1, n2, o0, o1, o2, part, g0, g1, g2, run_eqI u0, run_eqI u1, run_eqI u2]
  by_cases h0 : a0 = b0 <;> by_cases h1 : a1 = b1 <;> by_cases h2 : a2 = b2 <;> simp [h0, h1, h2]
theorem q_eqS3 {ty' : TypeId} {f0 f1 f2 : Field} {a0 a1 a2 b0 b1 b2 : Int} (hx : FS.ev s x = some (.agg #[I a0, I a1, I a2])) (hy : FS.ev s y = some (.agg #[I b0, I b1, I b2])) (hu : ∀ w, (underlying t).run P w = .ok (.struct #[f0, f1, f2]) w) (hh : P.stoodInHeld t = false) (hg : P.eqGuardType P.depth t = false)
    (hf : ∀ f ∈ [f0, f1, f2], f.name ≠ "_" ∧ (∀ w, (underlying f.type).run P w = .ok (.int .i64) w) ∧ (∀ w, (isAgg f.type).run P w = .ok false w)) (o0 : f0.offset = 0 := by rfl) (o1 : f1.offset = 1 := by rfl) (o2 : f2.offset = 2 := by rfl) :
    QJ P H σ s (.binOp .eql t x y ty') (.bool (decide (a0 = b0 ∧ a1 = b1 ∧ a2 = b2))) :=
  ⟨fun _ => by simp, fun a w _ _ _ _ _ ha _ => by
    have h2 : (Op.equal t (.agg #[I a0, I a1, I a2]) (.agg #[I b0, I b1, I b2])).run P w = .ok (decide (a0 = b0 ∧ a1 = b1 ∧ a2 = b2)) w := run_eqS3 (d := 9998) hu hh hf o0 o1 o2
    have hg' : (eqGuard .eql t x y (.agg #[I a0, I a1, I a2]) (.agg #[I b0, I b1, I b2])).run P w = .ok () w := by simp [eqGuard, hg]
    simp only [execOp, ha.ev hx, ha.ev hy, Sem.run_bind, hg', Result.andThen]
    simp [binOp, h2]⟩
end
end Go.MW

namespace Go.MW
theorem St.grow {H : Heap} {w : World} {σ : List Ent} (hs : St H w σ) (os : Array Obj) : St H (Go.Sort.grow w os) σ := by
  have key : ∀ b o, w.heap[b]? = some o → (w.heap ++ os)[b]? = some o := fun b o h => by
    have hlt := (Array.getElem?_eq_some_iff.1 h).1
    rw [Array.getElem?_append_left hlt]; exact h
  refine ⟨fun b o hb => key b o (hs.ro b o hb), fun e he => ?_, hs.nd, hs.dis, hs.io⟩
  have := hs.own e he
  cases e with
  | blk b c => obtain ⟨T, h⟩ := this; exact ⟨T, key _ _ h⟩
  | obj b o => exact key _ _ this
  | nul => trivial
theorem putCells_front (ys xs : List Int) (sp : List Value) (h : ys.length = xs.length) : Go.Sort.putCells (Value.int .i64) 0 ys.toArray (Is xs ++ sp).toArray = (Is ys ++ sp).toArray := by
  unfold Go.Sort.putCells
  apply Array.ext_getElem?
  intro k
  simp only [Array.getElem?_mapIdx, List.getElem?_toArray, List.size_toArray, Nat.zero_add, Nat.zero_le, true_and, Nat.sub_zero]
  by_cases hk : k < ys.length
  · have h1 : (Is xs ++ sp)[k]? = some (I (gi xs k)) := Is_gi_sp (by omega) sp
    have h2 : (Is ys ++ sp)[k]? = some (I (gi ys k)) := Is_gi_sp hk sp
    rw [h1, h2, Option.map_some, if_pos hk]
    simp [gi, hk]
  · have e1 : (Is xs).length ≤ k := by simp; omega
    have e2 : (Is ys).length ≤ k := by simp; omega
    rw [List.getElem?_append_right e1, List.getElem?_append_right e2]
    simp only [List.length_map, h]
    cases h3 : sp[k - xs.length]? with
    | none => rfl
    | some v => rw [Option.map_some, if_neg (by omega)]
theorem St.putRow {H : Heap} {w : World} {σ : List Ent} {b m : Nat} {xs ys : List Int} {sp : List Value} (hs : St H w (.blk b (Is xs ++ sp) :: σ)) (h : ys.length = xs.length) :
    St H (Go.Sort.putRow (Value.int .i64) (Go.Sort.ahead w m) b 0 ys.toArray) (.blk b (Is ys ++ sp) :: σ) := by
  obtain ⟨T, hb⟩ := hs.own _ (.head _)
  have hne : ∀ k, k ≠ b → (Go.Sort.putRow (Value.int .i64) (Go.Sort.ahead w m) b 0 ys.toArray).heap[k]? = w.heap[k]? := fun k hk => by
    show (w.heap.modify b _)[k]? = _
    rw [Array.getElem?_modify]; simp [Ne.symm hk]
  have hsame : (Go.Sort.putRow (Value.int .i64) (Go.Sort.ahead w m) b 0 ys.toArray).heap[b]? = some (.cells (Is ys ++ sp).toArray T (0, 0)) := by
    show (w.heap.modify b _)[b]? = _
    rw [Array.getElem?_modify]
    simp only [if_true, hb, Option.map_some, Go.Sort.onCells]
    rw [putCells_front ys xs sp h]
  have hnd := List.pairwise_cons.1 hs.nd
  refine ⟨fun k o hk => ?_, fun e he => ?_, List.pairwise_cons.2 ⟨fun y hy k h1 h2 => hnd.1 y hy k h1 h2, hnd.2⟩, fun e he k hk => ?_, hs.io⟩
  · rw [hne k]
    · exact hs.ro k o hk
    · intro e; subst e; rw [hs.dis _ (.head _) k rfl] at hk; cases hk
  · cases he with
    | head => exact ⟨T, hsame⟩
    | tail _ he =>
      have h4 := hs.own e (.tail _ he)
      have h5 := hnd.1 e he
      cases e with
      | blk b' c' => obtain ⟨T', h4⟩ := h4; exact ⟨T', by rw [hne b' (fun e => h5 b rfl (by rw [e]; rfl))]; exact h4⟩
      | obj b' o => simp only [Ent.sat] at h4 ⊢; rw [hne b' (fun e => h5 b rfl (by rw [e]; rfl))]; exact h4
      | nul => trivial
  · cases he with
    | head => exact hs.dis _ (.head _) k hk
    | tail _ he => exact hs.dis e (.tail _ he) k hk
theorem St.holds {H : Heap} {w : World} {σ : List Ent} {b : Nat} {xs : List Int} {sp : List Value} (hs : St H w (.blk b (Is xs ++ sp) :: σ)) : Go.Sort.Holds (Value.int .i64) w b 0 xs.toArray := fun j hj => by
  have hj' : j < xs.length := by simpa using hj
  refine ⟨?_, ?_⟩
  · rw [Nat.zero_add, cell?_own hs .here, Is_gi_sp hj' sp]
    simp [gi, hj']
  · rw [Nat.zero_add]; exact frozen?_own hs .here j
theorem sorted_rise {xs : List Int} : RiseOf (fun x => x ∈ xs) (Go.Lib.compact (xs.mergeSort fun x y => decide (x ≤ y))) := by
  generalize hz : (xs.mergeSort fun x y => decide (x ≤ y)) = zs
  have hp : ∀ x, x ∈ zs ↔ x ∈ xs := fun x => by rw [← hz]; exact (List.mergeSort_perm xs _).mem_iff
  have hsrt : zs.Pairwise (fun x y => x ≤ y) := by
    rw [← hz]
    have := List.pairwise_mergeSort (le := fun x y : Int => decide (x ≤ y)) (fun a b c h1 h2 => by simp at *; omega) (fun a b => by simp; omega) xs
    exact this.imp fun h => by simpa using h
  have key : ∀ m, m ≤ zs.length → (Go.Lib.compactUpTo zs.toArray m).Pairwise (· < ·) ∧ (∀ x ∈ Go.Lib.compactUpTo zs.toArray m, ∃ j, j < m ∧ gi zs j = x) ∧ (∀ j, j < m → gi zs j ∈ Go.Lib.compactUpTo zs.toArray m) := by
    intro m
    induction m with
    | zero => exact fun _ => ⟨by simp [Go.Lib.compactUpTo], by simp [Go.Lib.compactUpTo], fun j hj => by omega⟩
    | succ m ih =>
      intro hm
      obtain ⟨h1, h2, h3⟩ := ih (by omega)
      have hle : ∀ i j, i < j → j < zs.length → gi zs i ≤ gi zs j := fun i j hij hj => by
        have := List.pairwise_iff_getElem.1 hsrt i j (by omega) hj hij
        simpa [gi, hj, (by omega : i < zs.length)] using this
      have hg : zs.toArray[m]! = gi zs m := by simp [gi, (by omega : m < zs.length)]
      have hk : Go.Lib.keeps zs.toArray m = true ↔ (m = 0 ∨ gi zs m ≠ gi zs (m - 1)) := by
        have hg2 : 0 < m → zs.toArray[m - 1]! = gi zs (m - 1) := fun h => by simp [gi, (by omega : m - 1 < zs.length)]
        unfold Go.Lib.keeps
        by_cases h0 : m = 0
        · simp [h0]
        · simp [h0, hg, hg2 (by omega)]
      rw [Go.Lib.compactUpTo_succ, hg]
      by_cases hkk : Go.Lib.keeps zs.toArray m = true
      · rw [if_pos hkk]
        refine ⟨List.pairwise_append.2 ⟨h1, List.pairwise_singleton _ _, fun a ha b hb => ?_⟩, fun x hx => ?_, fun j hj => ?_⟩
        · simp only [List.mem_singleton] at hb
          subst hb
          obtain ⟨j, hj, rfl⟩ := h2 a ha
          rcases hk.1 hkk with h0 | h0
          · omega
          · have e1 := hle (m - 1) m (by omega) (by omega)
            by_cases e : j = m - 1
            · subst e; omega
            · have := hle j (m - 1) (by omega) (by omega); omega
        · rcases List.mem_append.1 hx with hx | hx
          · obtain ⟨j, hj, e⟩ := h2 x hx; exact ⟨j, by omega, e⟩
          · simp only [List.mem_singleton] at hx; exact ⟨m, by omega, hx.symm⟩
        · by_cases e : j = m
          · subst e; simp
          · exact List.mem_append_left _ (h3 j (by omega))
      · rw [if_neg hkk, List.append_nil]
        refine ⟨h1, fun x hx => ?_, fun j hj => ?_⟩
        · obtain ⟨j, hj, e⟩ := h2 x hx; exact ⟨j, by omega, e⟩
        · by_cases e : j = m
          · subst e
            have hn : ¬ (j = 0 ∨ gi zs j ≠ gi zs (j - 1)) := fun h => hkk (hk.2 h)
            have e2 : gi zs j = gi zs (j - 1) := Classical.byContradiction fun h => hn (.inr h)
            have e3 : j ≠ 0 := fun h => hn (.inl h)
            rw [e2]; exact h3 (j - 1) (by omega)
          · exact h3 j (by omega)
  obtain ⟨h1, h2, h3⟩ := key zs.length (Nat.le_refl _)
  refine ⟨h1, fun x => ?_⟩
  rw [← hp x]
  constructor
  · intro hx
    obtain ⟨j, hj, e⟩ := h2 x hx
    rw [← e]; exact List.mem_of_getElem? (gi_get hj)
  · intro hx
    obtain ⟨j, hj⟩ := List.getElem?_of_mem hx
    have hlt := (List.getElem?_eq_some_iff.1 hj).1
    have := h3 j hlt
    rwa [show gi zs j = x by have := gi_get hlt; rw [hj] at this; exact (Option.some.inj this).symm] at this
end Go.MW

namespace Go.MW
def pickTo (q : Nat → Lim → Bool) (ls : List Lim) : Nat → List Lim
  | 0 => []
  | k + 1 => pickTo q ls k ++ (match ls[k]? with | some l => if q k l then [l] else [] | none => [])
theorem pickTo_succ {q : Nat → Lim → Bool} {ls : List Lim} {k : Nat} {l : Lim} (h : ls[k]? = some l) : pickTo q ls (k + 1) = pickTo q ls k ++ if q k l then [l] else [] := by
  simp only [pickTo, h]
theorem pickTo_length (q : Nat → Lim → Bool) (ls : List Lim) : ∀ k, (pickTo q ls k).length ≤ k
  | 0 => Nat.le_refl _
  | k + 1 => by
    have := pickTo_length q ls k
    simp only [pickTo, List.length_append]
    split
    · split <;> simp <;> omega
    · simp; omega
theorem pickTo_filter (f : Lim → Bool) {ls : List Lim} : ∀ {k : Nat}, k ≤ ls.length → pickTo (fun _ l => f l) ls k = (ls.take k).filter f
  | 0, _ => by simp [pickTo]
  | k + 1, h => by
    obtain ⟨l, hl⟩ := nth (l := ls) (k := k) (by omega)
    rw [pickTo_succ hl, pickTo_filter f (by omega), take_snoc hl, List.filter_append]
    congr 1
    by_cases e : f l = true <;> simp [e]
theorem pickTo_all (f : Lim → Bool) (ls : List Lim) : pickTo (fun _ l => f l) ls ls.length = ls.filter f := by
  rw [pickTo_filter f (Nat.le_refl _), List.take_length]
theorem pickTo_but {i : Nat} {ls : List Lim} : ∀ {k : Nat}, k ≤ ls.length → pickTo (fun j _ => !decide (j = i)) ls k = if k ≤ i then ls.take k else ls.take i ++ (ls.take k).drop (i + 1)
  | 0, _ => by simp [pickTo]
  | k + 1, h => by
    obtain ⟨l, hl⟩ := nth (l := ls) (k := k) (by omega)
    rw [pickTo_succ hl, pickTo_but (k := k) (by omega), take_snoc hl]
    by_cases e : k = i
    · subst e
      rw [if_pos (Nat.le_refl _), if_neg (show ¬ k + 1 ≤ k by omega)]
      simp
      omega
    · by_cases e2 : k + 1 ≤ i
      · rw [if_pos (by omega), if_pos e2]; simp [e]
      · rw [if_neg (by omega), if_neg e2, List.drop_append_of_le_length (by rw [List.length_take]; omega)]
        simp [e]
def Syst.but (s : Syst) (i : Nat) : Syst := ⟨s.many, s.lims.take i ++ s.lims.drop (i + 1)⟩
theorem pickTo_butS {s : Syst} {i : Nat} (h : i < s.lims.length) : pickTo (fun j _ => !decide (j = i)) s.lims s.lims.length = (s.but i).lims := by
  rw [pickTo_but (Nat.le_refl _), if_neg (by omega), List.take_length]; rfl
theorem OwnS.blk {v : Value} {xs : List Int} {en : Ent} (h : OwnS 1 v (Is xs) en) (hx : 0 < xs.length) : ∃ b cap sp, v = .slice (.some ⟨b, 0, none⟩) xs.length cap ∧ en = .blk b (Is xs ++ sp) ∧ xs.length + sp.length = cap := by
  rcases h with ⟨a, _, h2, _⟩ | ⟨b, len, cap, sp, rfl, rfl, h3, h4, h5⟩
  · have : xs = [] := by simpa using h2
    subst this; simp at hx
  · obtain rfl : len = xs.length := by simpa using h3.symm
    exact ⟨b, cap, sp, rfl, rfl, by simpa using h4⟩
theorem OwnS.shapeI {v : Value} {xs : List Int} {en : Ent} (h : OwnS 1 v (Is xs) en) : ∃ a cap, v = .slice a xs.length cap := by
  obtain ⟨a, len, cap, rfl, h1⟩ := h.shape
  exact ⟨a, cap, by rw [show len = xs.length by simpa using h1.symm]⟩
structure DelI (q : Int → Bool) (xs Y : List Int) (i j : Nat) : Prop where
  len : Y.length = xs.length
  jl : j ≤ xs.length
  il : i = ((xs.take j).filter fun x => !q x).length
  front : ∀ m < i, gi Y m = gi ((xs.take j).filter fun x => !q x) m
  rest : ∀ m, j ≤ m → gi Y m = gi xs m
theorem DelI.le {q : Int → Bool} {xs Y : List Int} {i j : Nat} (h : DelI q xs Y i j) : i ≤ j := by
  have := List.length_filter_le (fun x => !q x) (xs.take j)
  rw [List.length_take] at this
  have := h.il
  omega
theorem DelI.start {q : Int → Bool} {xs : List Int} {k : Nat} {x : Int} (hx : xs[k]? = some x) (hq : q x = true) (hn : ∀ j < k, ∀ y, xs[j]? = some y → q y = false) : DelI q xs xs k (k + 1) := by
  have hk := (List.getElem?_eq_some_iff.1 hx).1
  have h1 : (xs.take (k + 1)).filter (fun x => !q x) = xs.take k := by
    rw [take_snoc hx, List.filter_append]
    have : (xs.take k).filter (fun x => !q x) = xs.take k := List.filter_eq_self.2 fun y hy => by
      obtain ⟨j, hj⟩ := List.getElem?_of_mem hy
      have hjk : j < k := by have := (List.getElem?_eq_some_iff.1 hj).1; rw [List.length_take] at this; omega
      rw [List.getElem?_take, if_pos hjk] at hj
      simp [hn j hjk y hj]
    rw [this]; simp [hq]
  refine ⟨rfl, by omega, by rw [h1, List.length_take]; omega, fun m hm => ?_, fun _ _ => rfl⟩
  rw [h1]
  simp [gi, hm]
theorem DelI.skip {q : Int → Bool} {xs Y : List Int} {i j : Nat} {x : Int} (h : DelI q xs Y i j) (hx : xs[j]? = some x) (hq : q x = true) : DelI q xs Y i (j + 1) := by
  have hj := (List.getElem?_eq_some_iff.1 hx).1
  have h1 : (xs.take (j + 1)).filter (fun x => !q x) = (xs.take j).filter fun x => !q x := by rw [take_snoc hx, List.filter_append]; simp [hq]
  exact ⟨h.len, by omega, by rw [h1]; exact h.il, by rw [h1]; exact h.front, fun m hm => h.rest m (by omega)⟩
theorem gi_app1 {A : List Int} {x : Int} {m : Nat} : gi (A ++ [x]) m = if m < A.length then gi A m else if m = A.length then x else 0 := by
  unfold gi
  by_cases h : m < A.length
  · simp [h, List.getElem?_append_left h]
  · by_cases e : m = A.length
    · subst e; simp
    · simp only [List.getD_eq_getElem?_getD]
      rw [List.getElem?_append_right (by omega), if_neg h, if_neg e, List.getElem?_eq_none (by simp; omega)]; rfl
theorem DelI.keep {q : Int → Bool} {xs Y : List Int} {i j : Nat} {x : Int} (h : DelI q xs Y i j) (hx : xs[j]? = some x) (hq : q x = false) : DelI q xs (Y.set i x) (i + 1) (j + 1) := by
  have hj := (List.getElem?_eq_some_iff.1 hx).1
  have hle := h.le
  have h1 : (xs.take (j + 1)).filter (fun x => !q x) = (xs.take j).filter (fun x => !q x) ++ [x] := by rw [take_snoc hx, List.filter_append]; simp [hq]
  have hiY : i < Y.length := by rw [h.len]; omega
  refine ⟨by rw [List.length_set]; exact h.len, by omega, by rw [h1, List.length_append, ← h.il]; rfl, fun m hm => ?_, fun m hm => ?_⟩
  · rw [gi_set hiY, h1, gi_app1, ← h.il]
    by_cases e : m = i
    · subst e; rw [if_pos rfl, if_neg (by omega), if_pos rfl]
    · rw [if_neg e, if_pos (by omega)]; exact h.front m (by omega)
  · rw [gi_set hiY, if_neg (by omega)]; exact h.rest m (by omega)
theorem DelI.done {q : Int → Bool} {xs Y : List Int} {i : Nat} (h : DelI q xs Y i xs.length) (sp : List Value) :
    setL (Is Y ++ sp) i (List.replicate (xs.length - i) (I 0)) = Is (xs.filter fun x => !q x) ++ (List.replicate (xs.length - i) (I 0) ++ sp) := by
  have hle := h.le
  have hl := h.len
  have hil := h.il
  have hf := h.front
  rw [List.take_length] at hil hf
  have h1 : Y.take i = xs.filter fun x => !q x := by
    refine ext_gi (by rw [List.length_take, ← hil]; omega) fun m hm => ?_
    rw [List.length_take] at hm
    rw [← hf m (by omega)]
    simp [gi, show m < i by omega]
  have h2 : Is Y ++ sp = Is (xs.filter fun x => !q x) ++ Is (Y.drop i) ++ sp := by rw [← h1, ← List.map_append, List.take_append_drop]
  have h3 := setL_mid (List.replicate (xs.length - i) (I 0)) (Is (xs.filter fun x => !q x)) sp (Is (Y.drop i)) (by simp [hl])
  have e : (Is (xs.filter fun x => !q x)).length = i := by simp [hil]
  rw [e] at h3
  rw [h2, h3, List.append_assoc]
theorem DelI.lt {q : Int → Bool} {xs Y : List Int} {i j k : Nat} {x : Int} (h : DelI q xs Y i j) (hx : xs[k]? = some x) (hq : q x = true) (hk : k < j) : i < j := by
  have h0 := h.jl
  have h1 : ((xs.take j).filter fun x => !q x).length < (xs.take j).length := by
    refine Nat.lt_of_le_of_ne (List.length_filter_le _ _) fun e => ?_
    have h2 := List.length_filter_eq_length_iff.1 e x (List.mem_of_getElem? (i := k) (by rw [List.getElem?_take, if_pos hk]; exact hx))
    simp [hq] at h2
  rw [List.length_take] at h1
  have := h.il
  omega
end Go.MW

namespace Go.MW
def InReach (x : List Int) : Prop := ∀ n ∈ x, -1280000 ≤ n ∧ n ≤ 1280000
theorem InReach.at {x : List Int} (h : InReach x) {v : Nat} (hv : v < x.length) : -1280000 ≤ gi x v ∧ gi x v ≤ 1280000 := h _ (List.mem_of_getElem? (gi_get hv))
theorem inReach_iff {x : List Int} : InReach x ↔ ∀ v < x.length, -1280000 ≤ gi x v ∧ gi x v ≤ 1280000 := by
  refine ⟨fun h v hv => h.at hv, fun h n hn => ?_⟩
  obtain ⟨i, hi⟩ := List.getElem?_of_mem hn
  have hlt := (List.getElem?_eq_some_iff.1 hi).1
  have := gi_get hlt
  rw [hi] at this
  cases this
  exact h i hlt
def dotL (w x : List Int) : Int := sumTo (fun v => gi w v * gi x v) w.length
inductive ValueR (w x : List Int) : Int → Int → Prop
  | wt (h : ¬ (w.length ≤ 65 ∧ SizedW w)) : ValueR w x 0 27
  | pt (h : w.length ≤ 65 ∧ SizedW w) (h1 : ¬ (x.length = w.length ∧ InReach x)) : ValueR w x 0 25
  | ok (h : w.length ≤ 65 ∧ SizedW w) (h1 : x.length = w.length ∧ InReach x) : ValueR w x (dotL w x) 0
theorem ValueR.uniq {w x : List Int} {a b e f : Int} (h : ValueR w x a e) (g : ValueR w x b f) : a = b ∧ e = f := by
  cases h <;> cases g <;> first | exact ⟨rfl, rfl⟩ | contradiction
theorem ValueR.zero {w x : List Int} {a : Int} (h : ValueR w x a 0) : (w.length ≤ 65 ∧ SizedW w) ∧ (x.length = w.length ∧ InReach x) ∧ a = dotL w x := by
  generalize hz : (0 : Int) = z at h
  cases h with
  | wt => omega
  | pt => omega
  | ok h h1 => exact ⟨h, h1, rfl⟩
theorem BestR.value {s : Syst} {w x : List Int} {m : Int} (h : BestR s w x) (hM : MostR s w m 0) : ValueR w x m 0 ∧ s.Ok ∧ x.length = s.n ∧ gi x 0 = 0 ∧ (∀ v < s.n, -1280000 ≤ gi x v ∧ gi x v ≤ 1280000) ∧ Feas s.arcs (gi x) := by
  obtain ⟨hA, _, _⟩ := hM.1.zero
  obtain ⟨h1, h2, h3⟩ := askErr_ok hA
  have hin : InReach x := inReach_iff.2 fun v hv => by have := h.low v (by rw [← h.len]; exact hv); omega
  have e : m = dotL w x := by
    rw [(hM.2.2 rfl).1.uniq h.sum]; unfold dotL; rw [h2]
  rw [e]
  exact ⟨.ok ⟨by rw [h2]; exact h1.n65, h3⟩ ⟨by rw [h.len, h2], hin⟩, h1, h.len, h.zero, fun v hv => by have := h.low v hv; omega, h.feas⟩
theorem RT.nil (H : Heap) : RT H (.slice none 0 0) [] := ⟨[], rfl, RS.nil H 1 none 0, fun i u r h => by simp at h⟩
def lmA (s : Syst) (i : Int) : Lim := s.lims.getD i.toNat ⟨0, 0, 0, 0⟩
theorem lmA_get {s : Syst} {i : Int} (h : 0 ≤ i ∧ i < s.lims.length) : s.lims[i.toNat]? = some (lmA s i) := by
  have : i.toNat < s.lims.length := by omega
  simp [lmA, List.getD, List.getElem?_eq_getElem this]
structure RoundP (s : Syst) (l : List Int) : Prop where
  l0 : 0 < l.length
  l1 : l.length ≤ 400
  inn : ∀ k < l.length, 0 ≤ gi l k ∧ gi l k < s.lims.length
  link : ∀ k < l.length, (lmA s (gi l k)).B = (lmA s (gi l ((k + 1) % l.length))).A
  neg : sumTo (fun k => (lmA s (gi l k)).M) l.length < 0
inductive RndR (s : Syst) (l : List Int) : Int → Prop
  | bad (h : s.check ≠ 0) : RndR s l s.check
  | no (h : s.Ok) (h1 : ¬ RoundP s l) : RndR s l 20
  | ok (h : s.Ok) (h1 : RoundP s l) : RndR s l 0
theorem RndR.uniq {s : Syst} {l : List Int} {e f : Int} (h : RndR s l e) (g : RndR s l f) : e = f := by
  cases h with
  | bad h =>
    cases g with
    | bad => rfl
    | no g _ => exact (h (s.ok_iff.2 g)).elim
    | ok g _ => exact (h (s.ok_iff.2 g)).elim
  | no h h1 =>
    cases g with
    | bad g => exact (g (s.ok_iff.2 h)).elim
    | no => rfl
    | ok _ g1 => exact (h1 g1).elim
  | ok h h1 =>
    cases g with
    | bad g => exact (g (s.ok_iff.2 h)).elim
    | no _ g1 => exact (g1 h1).elim
    | ok => rfl
end Go.MW

namespace Go.MW
theorem rise_gi {S : Int → Prop} {A : List Int} (h : RiseOf S A) {i j : Nat} (hij : i < j) (hj : j < A.length) : gi A i < gi A j := by
  have := List.pairwise_iff_getElem.1 h.up i j (by omega) hj hij
  simpa [gi, hj, (by omega : i < A.length)] using this
theorem take_all {A : List Int} {k : Nat} {p : Int → Prop} (h : ∀ j < k, j < A.length → p (gi A j)) : ∀ x ∈ A.take k, p x := fun x hx => by
  obtain ⟨j, hj⟩ := List.getElem?_of_mem hx
  have h1 := (List.getElem?_eq_some_iff.1 hj).1
  rw [List.length_take] at h1
  rw [List.getElem?_take, if_pos (by omega), gi_get (by omega)] at hj
  rw [← Option.some.inj hj]
  exact h j (by omega) (by omega)
theorem drop_all {A : List Int} {k : Nat} {p : Int → Prop} (h : ∀ j, k ≤ j → j < A.length → p (gi A j)) : ∀ x ∈ A.drop k, p x := fun x hx => by
  obtain ⟨j, hj⟩ := List.getElem?_of_mem hx
  have h1 := (List.getElem?_eq_some_iff.1 hj).1
  rw [List.length_drop] at h1
  rw [List.getElem?_drop, gi_get (by omega)] at hj
  rw [← Option.some.inj hj]
  exact h _ (by omega) (by omega)
inductive WithR (s : Syst) (l : Lim) : Syst → Int → Prop
  | bad (h : s.check ≠ 0) : WithR s l ⟨0, []⟩ s.check
  | lim (h : s.Ok) (h1 : l.ok s.many = false) : WithR s l ⟨0, []⟩ 20
  | long (h : s.Ok) (h1 : l.ok s.many = true) (h2 : s.lims.length = 400) : WithR s l ⟨0, []⟩ 2
  | ok (h : s.Ok) (h1 : l.ok s.many = true) (h2 : s.lims.length ≠ 400) : WithR s l ⟨s.many, s.lims ++ [l]⟩ 0
theorem WithR.uniq {s : Syst} {l : Lim} {t u : Syst} {e f : Int} (h : WithR s l t e) (g : WithR s l u f) : t = u ∧ e = f := by
  cases h with
  | bad h =>
    cases g with
    | bad => exact ⟨rfl, rfl⟩
    | lim g _ => exact (h (s.ok_iff.2 g)).elim
    | long g _ _ => exact (h (s.ok_iff.2 g)).elim
    | ok g _ _ => exact (h (s.ok_iff.2 g)).elim
  | lim h h1 =>
    cases g with
    | bad g => exact (g (s.ok_iff.2 h)).elim
    | lim => exact ⟨rfl, rfl⟩
    | long _ g1 _ => rw [h1] at g1; cases g1
    | ok _ g1 _ => rw [h1] at g1; cases g1
  | long h h1 h2 =>
    cases g with
    | bad g => exact (g (s.ok_iff.2 h)).elim
    | lim _ g1 => rw [h1] at g1; cases g1
    | long => exact ⟨rfl, rfl⟩
    | ok _ _ g2 => exact (g2 h2).elim
  | ok h h1 h2 =>
    cases g with
    | bad g => exact (g (s.ok_iff.2 h)).elim
    | lim _ g1 => rw [h1] at g1; cases g1
    | long _ _ g2 => exact (h2 g2).elim
    | ok => exact ⟨rfl, rfl⟩
end Go.MW

namespace Go.MW
inductive RestsR (s : Syst) (us : List Use) : List Int → Int → Prop
  | bad (h : s.check ≠ 0) : RestsR s us [] s.check
  | no (h : s.Ok) (h1 : ¬ ∀ u ∈ us, 0 ≤ u.l ∧ u.l < s.lims.length) : RestsR s us [] 24
  | ok {L : List Int} (h : s.Ok) (h1 : ∀ u ∈ us, 0 ≤ u.l ∧ u.l < s.lims.length) (h2 : RiseOf (fun x => ∃ u ∈ us, (lmA s u.l).S = x) L) : RestsR s us L 0
theorem RestsR.uniq {s : Syst} {us : List Use} {A B : List Int} {e f : Int} (h : RestsR s us A e) (g : RestsR s us B f) : A = B ∧ e = f := by
  cases h with
  | bad h =>
    cases g with
    | bad => exact ⟨rfl, rfl⟩
    | no g _ => exact (h (s.ok_iff.2 g)).elim
    | ok g _ _ => exact (h (s.ok_iff.2 g)).elim
  | no h h1 =>
    cases g with
    | bad g => exact (g (s.ok_iff.2 h)).elim
    | no => exact ⟨rfl, rfl⟩
    | ok _ g1 _ => exact (h1 g1).elim
  | ok h h1 h2 =>
    cases g with
    | bad g => exact (g (s.ok_iff.2 h)).elim
    | no _ g1 => exact (g1 h1).elim
    | ok _ _ g2 => exact ⟨h2.uniq g2, rfl⟩
def leftAt (s : Syst) (bs : List Int) (k : Nat) : Nat := ((s.lims.take k).filter fun l => !decide (l.S ∈ bs)).length
def carryU (s : Syst) (bs : List Int) (u : Use) : Use := ⟨leftAt s bs u.l.toNat, u.t⟩
inductive CarryR (s : Syst) (w : List Int) (n : Int) (us : List Use) (bs : List Int) : Int → List Use → Int → Prop
  | bad {e : Int} (h : ProofR s w n us e) (he : e ≠ 0) : CarryR s w n us bs 0 [] e
  | none (h : ProofR s w n us 0) (h1 : ∃ u ∈ us, (lmA s u.l).S ∈ bs) : CarryR s w n us bs 0 [] 3
  | ok (h : ProofR s w n us 0) (h1 : ∀ u ∈ us, (lmA s u.l).S ∉ bs) : CarryR s w n us bs n (us.map (carryU s bs)) 0
theorem CarryR.uniq {s : Syst} {w : List Int} {n : Int} {us : List Use} {bs : List Int} {a b : Int} {A B : List Use} {e f : Int} (h : CarryR s w n us bs a A e) (g : CarryR s w n us bs b B f) : a = b ∧ A = B ∧ e = f := by
  cases h with
  | bad h he =>
    cases g with
    | bad g _ => exact ⟨rfl, rfl, h.uniq g⟩
    | none g _ => exact (he (h.uniq g)).elim
    | ok g _ => exact (he (h.uniq g)).elim
  | none h h1 =>
    cases g with
    | bad g ge => exact (ge (g.uniq h)).elim
    | none => exact ⟨rfl, rfl, rfl⟩
    | ok _ g1 => obtain ⟨u, hu, h2⟩ := h1; exact (g1 u hu h2).elim
  | ok h h1 =>
    cases g with
    | bad g ge => exact (ge (g.uniq h)).elim
    | none _ g1 => obtain ⟨u, hu, g2⟩ := g1; exact (h1 u hu g2).elim
    | ok => exact ⟨rfl, rfl, rfl⟩
theorem ProofR.inn {s : Syst} {w : List Int} {n : Int} {us : List Use} (h : ProofR s w n us 0) : s.Ok ∧ us.length ≤ 400 ∧ ∀ u ∈ us, 0 ≤ u.l ∧ u.l < s.lims.length := by
  generalize hz : (0 : Int) = z at h
  cases h with
  | ask h => exact (h hz.symm).elim
  | bad => omega
  | ok h h1 =>
    refine ⟨(askErr_ok h).1, h1.len, fun u hu => ?_⟩
    obtain ⟨i, hi⟩ := List.getElem?_of_mem hu
    have hlt := (List.getElem?_eq_some_iff.1 hi).1
    have hg := gu_get hlt
    rw [hi] at hg
    rw [Option.some.inj hg]
    exact ⟨(h1.use i hlt).l0, (h1.use i hlt).l1⟩
end Go.MW

namespace Go.MW
theorem sound_sub {s t : Syst} (h : s.Sound) (hs : ∀ l ∈ t.lims, l ∈ s.lims) : t.Sound := by
  obtain ⟨p, hp⟩ := h
  exact ⟨p, feas_iff.2 fun l hl => feas_iff.1 hp l (hs l hl)⟩
structure ConfP (s : Syst) (bs : List Int) : Prop where
  src : ∀ x ∈ bs, SrcS s.lims x
  up : bs.Pairwise (· < ·)
  bad : ¬ (s.only bs).Sound
  least : ∀ x ∈ bs, ((s.only bs).wo [x]).Sound
inductive CConfR (s : Syst) (bs : List Int) : Int → Prop
  | bad (h : s.check ≠ 0) : CConfR s bs s.check
  | no (h : s.Ok) (h1 : ¬ ConfP s bs) : CConfR s bs 26
  | ok (h : s.Ok) (h1 : ConfP s bs) : CConfR s bs 0
theorem CConfR.uniq {s : Syst} {bs : List Int} {e f : Int} (h : CConfR s bs e) (g : CConfR s bs f) : e = f := by
  cases h with
  | bad h =>
    cases g with
    | bad => rfl
    | no g _ => exact (h (s.ok_iff.2 g)).elim
    | ok g _ => exact (h (s.ok_iff.2 g)).elim
  | no h h1 =>
    cases g with
    | bad g => exact (g (s.ok_iff.2 h)).elim
    | no => rfl
    | ok _ g1 => exact (h1 g1).elim
  | ok h h1 =>
    cases g with
    | bad g => exact (g (s.ok_iff.2 h)).elim
    | no _ g1 => exact (g1 h1).elim
    | ok => rfl
theorem only_all {s : Syst} {L : List Int} (hL : RiseOf (SrcS s.lims) L) : s.only L = s := by
  unfold Syst.only
  rw [List.filter_eq_self.2 fun l hl => decide_eq_true ((hL.mem _).2 ⟨l, hl, rfl⟩)]
theorem only_wo {s : Syst} {out : List Int} {x : Int} : (s.only out).wo [x] = s.only (out.filter fun y => !decide (y = x)) := by
  unfold Syst.only Syst.wo
  simp only [List.filter_filter]
  congr 1
  apply List.filter_congr
  intro l _
  by_cases h1 : l.S = x <;> by_cases h2 : l.S ∈ out <;> simp [h1, h2]
structure ConfV (s0 : Syst) (L : List Int) (i : Nat) (s : Syst) (out : List Int) : Prop where
  bad : ¬ s.Sound
  up : out.Pairwise (· < ·)
  sub : ∀ x ∈ out, x ∈ L
  low : ∀ j < i, j < L.length → gi L j ∈ out
  eq : s = s0.only out
  least : ∀ j, i ≤ j → j < L.length → gi L j ∈ out → (s.wo [gi L j]).Sound
theorem ConfI.inv {s0 s : Syst} {L out : List Int} {i : Nat} (h : ConfI s0 L i s out) (h0 : ¬ s0.Sound) (hL : RiseOf (SrcS s0.lims) L) : ConfV s0 L i s out := by
  induction h with
  | start =>
    exact ⟨h0, hL.up, fun _ h => h, fun j hj _ => List.mem_of_getElem? (gi_get hj), (only_all hL).symm, fun j h1 h2 => by omega⟩
  | @drop i s out h h1 ih =>
    have hle := h.le
    have hlt : ∀ j k, j < k → k < L.length → gi L j < gi L k := fun j k hjk hk => rise_gi hL hjk hk
    refine ⟨h1, ih.up.filter _, fun x hx => ih.sub x (List.mem_filter.1 hx).1, fun j hj hjl => ?_, ?_, fun j hj hjl hm => ?_⟩
    · have := hlt j i hj (by omega)
      exact List.mem_filter.2 ⟨ih.low j (by omega) hjl, by simp; omega⟩
    · rw [ih.eq, only_wo]
    · obtain ⟨hm1, hm2⟩ := List.mem_filter.1 hm
      by_cases e : j = i
      · subst e; simp at hm2
      · exact sound_sub (ih.least j (by omega) hjl hm1) fun l hl => by
          simp only [Syst.wo, List.mem_filter] at hl ⊢
          exact ⟨hl.1.1, hl.2⟩
  | @keep i s out h h1 ih =>
    have hle := h.le
    refine ⟨ih.bad, ih.up, ih.sub, fun j hj hjl => ih.low j (by omega) hjl, ih.eq, fun j hj hjl hm => ?_⟩
    by_cases e : j = i
    · subst e; exact h1
    · exact ih.least j (by omega) hjl hm
theorem but_mem {s : Syst} {i : Nat} {l : Lim} (h : l ∈ (s.but i).lims) : l ∈ s.lims := by
  rcases List.mem_append.1 h with h | h
  · exact List.mem_of_mem_take h
  · exact List.mem_of_mem_drop h
theorem but_len (s : Syst) (i : Nat) : (s.but i).lims.length ≤ s.lims.length := by
  simp only [Syst.but, List.length_append, List.length_take, List.length_drop]; omega
theorem Syst.Ok.but {s : Syst} (h : s.Ok) (i : Nat) : (s.but i).Ok :=
  ⟨h.m0, h.m1, Nat.le_trans (but_len s i) h.len, fun l hl => h.lim l (but_mem hl)⟩
def IdleP (s : Syst) (i : Nat) : Prop := ∃ rs, Sq s.n rs ∧ WaysT s.n s.arcs (gt rs) ∧ WaysT s.n (s.but i).arcs (gt rs)
inductive IdleR (s : Syst) : List Int → Int → Prop
  | bad (h : s.check ≠ 0) : IdleR s [] s.check
  | clash (h : s.Ok) (h1 : ¬ s.Sound) : IdleR s [] 23
  | ok {L : List Int} (h : s.Ok) (h1 : s.Sound) (g : RiseOf (fun x => ∃ i : Nat, x = i ∧ i < s.lims.length ∧ IdleP s i) L) : IdleR s L 0
theorem IdleR.uniq {s : Syst} {A B : List Int} {e f : Int} (h : IdleR s A e) (g : IdleR s B f) : A = B ∧ e = f := by
  cases h with
  | bad h =>
    cases g with
    | bad => exact ⟨rfl, rfl⟩
    | clash g _ => exact (h (s.ok_iff.2 g)).elim
    | ok g _ _ => exact (h (s.ok_iff.2 g)).elim
  | clash h h1 =>
    cases g with
    | bad g => exact (g (s.ok_iff.2 h)).elim
    | clash => exact ⟨rfl, rfl⟩
    | ok _ g1 _ => exact (h1 g1).elim
  | ok h h1 h2 =>
    cases g with
    | bad g => exact (g (s.ok_iff.2 h)).elim
    | clash _ g1 => exact (g1 h1).elim
    | ok _ _ g2 => exact ⟨h2.uniq g2, rfl⟩
theorem idle_iff {s : Syst} {i : Nat} {as bs : List (List Int)} (hok : s.Ok) (hs : s.Sound) (ha : Sq s.n as) (hb : Sq s.n bs) (h : WaysT s.n s.arcs (gt as)) (g : WaysT s.n (s.but i).arcs (gt bs)) : as = bs ↔ IdleP s i := by
  constructor
  · rintro rfl; exact ⟨as, ha, h, g⟩
  · rintro ⟨rs, h1, h2, h3⟩
    rw [rows_same hok hs ha h1 h h2]
    exact (rows_same (hok.but i) (sound_sub hs fun l hl => but_mem hl) hb h1 g h3).symm
theorem ways_feas {n : Nat} {es : List Arc} {T : Nat → Nat → Int} (h : WaysT n es T) (hin : ∀ x ∈ es, x.f < n ∧ x.t < n ∧ x.f ≠ x.t ∧ -20000 ≤ x.c ∧ x.c ≤ 20000) {p : Nat → Int} (hp : ∀ i j, i < n → j < n → T i j ≠ free → p j - p i ≤ T i j) : Feas es p := fun x hx => by
  obtain ⟨b1, b2, b3, b4, b5⟩ := hin x hx
  have h1 := h.dom x.f x.t b1 b2 [] x.c .nil (fun _ h => by cases h) ⟨x, hx, rfl, rfl, rfl⟩
  have h2 := hp x.f x.t b1 b2 (by simp only [free]; omega)
  omega
theorem IdleP.feas {s : Syst} {i : Nat} (hok : s.Ok) (h : IdleP s i) (p : Nat → Int) : Feas s.arcs p ↔ Feas (s.but i).arcs p := by
  obtain ⟨rs, _, h2, h3⟩ := h
  constructor
  · intro hp; exact ways_feas h3 (hok.but i).inn fun i j hi hj hne => h2.lo i j hi hj hne p hp
  · intro hp; exact ways_feas h2 hok.inn fun i j hi hj hne => h3.lo i j hi hj hne p hp
end Go.MW

namespace Go.MW
variable {n : Nat} {es : List Arc} {T : Nat → Nat → Int} {p : Nat → Int} {X : List Int}
theorem Wk.small (hb : ∀ x ∈ es, -100 ≤ x.c ∧ x.c ≤ 100) {L : List Nat} : ∀ {i j : Nat} {c : Int}, Wk es i L j c → -(100 * (L.length + 1 : Int)) ≤ c ∧ c ≤ 100 * (L.length + 1 : Int) := by
  induction L with
  | nil =>
    rintro i j c ⟨x, h1, h2, h3, rfl⟩
    have := hb x h1
    simpa using this
  | cons v L ih =>
    rintro i j c ⟨x, h1, h2, h3, h4⟩
    have h5 := ih h4
    have := hb x h1
    simp only [List.length_cons]
    omega
theorem WaysT.small (h : WaysT n es T) (hin : ∀ x ∈ es, x.f < n ∧ x.t < n ∧ x.f ≠ x.t ∧ -20000 ≤ x.c ∧ x.c ≤ 20000) (hp : Feas es p) (hb : ∀ x ∈ es, -100 ≤ x.c ∧ x.c ≤ 100) {i j : Nat} (hi : i < n) (hj : j < n) (hne : T i j ≠ free) :
    -(100 * (n + 1 : Int)) ≤ T i j ∧ T i j ≤ 100 * (n + 1 : Int) := by
  by_cases e : j = i
  · subst e
    have e1 := h.dg j hj
    have e2 := h.lo j j hj hj hne p hp
    omega
  · obtain ⟨L, c, h1, h2⟩ := h.walk hp hi hj hne e
    obtain ⟨L', c', k1, k2, k3, k4⟩ := h1.simpleF hp L.length (Nat.le_refl _)
    have k5 := h.le_walk hin hp hi hj k4
    have k6 := Wk.small hb k4
    have k7 := nodup_le k1 (k4.mem hin)
    have : c' = T i j := by omega
    subst this
    omega
theorem PtsR.small {f : Int → Int → Int} {B : Int} (hB : 0 ≤ B) (hf : ∀ i n : Int, 1 ≤ n → 0 ≤ f i n ∧ f i n < n) (ht : TabS n T) (hb : ∀ i j, i < n → j < n → T i j ≠ free → -B ≤ T i j ∧ T i j ≤ B) (h : PtsR T f X) :
    X.length ≤ n → ∀ v < X.length, -(B * (v : Int)) ≤ gi X v ∧ gi X v ≤ B * (v : Int) := by
  induction h with
  | start => intro _ v hv; simp at hv; subst hv; simp [gi]
  | @snoc X lo hi h h1 h2 ih =>
    intro hl v hv
    simp only [List.length_append, List.length_singleton] at hl hv
    have g := h.inv hf ht (by omega)
    have ih := ih (by omega)
    rw [gi_snoc]
    by_cases e : v < X.length
    · rw [if_pos e]; exact ih v e
    · rw [if_neg e, if_pos (by omega), show v = X.length by omega]
      have mono : ∀ a : Nat, a < X.length → B * (a : Int) + B ≤ B * (X.length : Int) := fun a ha => by
        have := Int.mul_le_mul_of_nonneg_left (show (a : Int) + 1 ≤ X.length by omega) hB
        rw [Int.mul_add, Int.mul_one] at this
        exact this
      have h0 : 0 ≤ B * (X.length : Int) := Int.mul_nonneg hB (by omega)
      have k1 : lo ≠ -free → -(B * (X.length : Int)) ≤ lo ∧ lo ≤ B * (X.length : Int) := fun e => by
        rcases h1.2 with ⟨g, _⟩ | ⟨a', g1, g2, g3⟩
        · exact (e g).elim
        · have := hb X.length a' (by omega) (by omega) g2; have := ih a' (by omega); have := mono a' g1; omega
      have k2 : hi ≠ free → -(B * (X.length : Int)) ≤ hi ∧ hi ≤ B * (X.length : Int) := fun e => by
        rcases h2.2 with ⟨g, _⟩ | ⟨a', g1, g2, g3⟩
        · exact (e g).elim
        · have := hb a' X.length (by omega) (by omega) g2; have := ih a' (by omega); have := mono a' g1; omega
      unfold chooseI
      by_cases e1 : lo = -free
      · by_cases e2 : hi = free
        · rw [if_neg (by omega), if_neg (by omega)]; omega
        · rw [if_neg (by omega), if_pos e2]; exact k2 e2
      · by_cases e2 : hi = free
        · rw [if_pos e1, if_neg (by omega)]; exact k1 e1
        · have e3 := g.le ht (by omega) rfl h1 h2 e1 e2
          have e4 := hf (X.length - 1) (hi - lo + 1) (by omega)
          rw [if_pos e1, if_pos e2]
          have := k1 e1; have := k2 e2; omega
variable {s : Syst} {bs : List Int}
end Go.MW
