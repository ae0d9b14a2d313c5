/-
  Texts of these claims, joined: Zb Zc Ze Zf Zg Zh Zi Zj Zk Zl Zm.
-/
import Derived.Test.YtddaejgfjlneoaaGreatAd
namespace Go.Proofs.YtddaejgfjlneoaaGreat
open Go.MW
def rowP (X Y : List Int) (i : Nat) : List Int := (List.range Y.length).map fun k => gi X i * gi Y k
def gridP (X Y : List Int) (i : Nat) : List (List Int) := (List.range i).map (rowP X Y)
theorem rowP_length (X Y : List Int) (i : Nat) : (rowP X Y i).length = Y.length := by simp [rowP]
theorem gridP_length (X Y : List Int) (i : Nat) : (gridP X Y i).length = i := by simp [gridP]
theorem gridP_succ (X Y : List Int) (i : Nat) : gridP X Y (i + 1) = gridP X Y i ++ [rowP X Y i] := by simp [gridP, List.range_succ]
theorem rowP_take {X Y : List Int} {i k : Nat} (hk : k < Y.length) : (rowP X Y i).take (k + 1) = (rowP X Y i).take k ++ [gi X i * gi Y k] := by
  rw [take_snoc (by simp [rowP, hk] : (rowP X Y i)[k]? = some (gi X i * gi Y k))]
theorem gridP_gr {X Y : List Int} {n i : Nat} (h : i < n) : gr (gridP X Y n) i = rowP X Y i := by simp [gr, List.getD, gridP, h]
theorem gridP_gt {X Y : List Int} {n i k : Nat} (h : i < n) (hk : k < Y.length) : gt (gridP X Y n) i k = gi X i * gi Y k := by
  unfold gt; rw [gridP_gr h]; simp [gi, List.getD, rowP, hk]
inductive GrS (X Y : List Int) (b : Nat) (i k : Nat) (H : Heap) (σ : List Ent) : Prop
  | go (us : List Value) (v : Value) (en : Ent) (h : i < X.length) (h1 : RLs H us (gridP X Y i)) (h2 : OwnS 1 v (Is ((rowP X Y i).take k)) en) (h3 : σ = [.blk b (us ++ v :: List.replicate (X.length - i - 1) (.slice none 0 0)), en])
  | fin (us : List Value) (h : i = X.length) (h1 : RLs H us (gridP X Y i)) (h3 : σ = [.blk b us])
theorem GrS.mono {X Y : List Int} {b i k : Nat} {H H' : Heap} {σ : List Ent} (h : GrS X Y b i k H σ) (hl : HLe H H') : GrS X Y b i k H' σ := by
  cases h with
  | go us v en h h1 h2 h3 => exact .go us v en h (h1.mono hl) h2 h3
  | fin us h h1 h3 => exact .fin us h (h1.mono hl) h3
theorem weigh_Weights_spec {H : Heap} {w : World} {σ : List Ent} {v : Value} {l : List Int} (hs : St H w σ) (hr : RI H v l) :
    Cl Tryz.prog 273 [v] w fun u w' => ∃ H1 vo e, HLe H H1 ∧ u = .tuple #[vo, I e] ∧ (PlcOk 9 100000 l → e = 0 ∧ RI H1 vo (wts l)) ∧ St H1 w' σ := by
  obtain ⟨a, c, rfl⟩ := RI.shape hr
  refine Cl.of Tryz.func273 rfl Tryz.ntmps273 (by simp) (args_cons (k := 0) rfl (args0)) ?_
  refine .regSeq (.z zg (.z zg (.nil (.seq (.regSeq (.z zm ?_))))))
  refine .o (.call Tryz.call294 rfl (weigh_CheckPlaces_spec hs hr) ?_); rintro _ w ⟨e, rfl, he, hs⟩
  refine .z zg (.nil (.regSeq (.z zm (.z zneq (.nil ?_)))))
  refine (.condN rfl (fun hc8 => ?_) (fun hc8 => ?_))
  · refine .regSeq (.z zm (.z zg (.z zg (.nil ?_))))
    refine .ret (rT (Fin.ret2 Tryz.results273 rfl rfl ?_))
    exact ⟨H, _, _, HLe.refl H, rfl, fun h => by rcases he with ⟨_, h2⟩ | ⟨h1, _⟩; exact (hc8 h2).elim; exact (h1 h).elim, hs⟩
  · refine .skip ?_
    refine nT ?_
    refine .regSeq (.z zm ?_)
    have hp : PlcOk 9 100000 l := by rcases he with ⟨h, _⟩ | ⟨_, h2⟩; exact h; exact (h2 (by simpa using hc8)).elim
    refine .o (.call Tryz.call248 rfl (weigh_weights_spec hs hr hp) ?_); rintro v11 w ⟨H1, hle1, hR, hs⟩
    refine .z zg (.z zg (.nil ?_))
    refine .ret (Fin.ret2 Tryz.results273 rfl rfl ?_)
    exact ⟨H1, _, _, hle1, rfl, fun _ => ⟨rfl, hR⟩, hs⟩
theorem weigh_isGrid_spec {H : Heap} {w : World} {σ : List Ent} {v1 v2 : Value} {a b : List Int} (hs : St H w σ) (h1 : RI H v1 a) (h2 : RI H v2 b) :
    Cl Tryz.prog 191 [v1, v2] w fun u w' => ∃ bb : Bool, u = .bool bb ∧ (bb = true ↔ PlcOk 9 100000 a ∧ PlcOk 7 15000 b) ∧ St H w' σ := by
  refine Cl.of Tryz.func191 rfl Tryz.ntmps191 (by simp) (args_cons (k := 0) rfl (args_cons (k := 1) rfl (args0))) ?_
  refine .regSeq (.z zg (.nil (.regSeq (.z zm ?_))))
  refine .o (.call Tryz.call247 rfl (weigh_arePlaces_spec (many := 9) (most := 100000) hs h1) ?_); rintro _ w ⟨b6, rfl, hb6, hs⟩
  refine .z zm ?_
  refine .bif (t' := 7) rfl (fun hb7 => ?_) (fun hb7 => ?_)
  · refine .gT rfl rfl ?_
    refine .z zm ?_
    refine .gT rfl rfl ?_
    refine .o (.call Tryz.call247 rfl (weigh_arePlaces_spec (many := 7) (most := 15000) hs h2) ?_); rintro _ w ⟨b9, rfl, hb9, hs⟩
    refine .z zpT (.z zg (.nil ?_))
    refine .ret (Fin.ret1 Tryz.results191 rfl ?_)
    exact ⟨_, rfl, by rw [hb9]; exact ⟨fun h => ⟨hb6.1 hb7, h⟩, fun h => h.2⟩, hs⟩
  · refine .gFs 2 2 true rfl rfl rfl ?_
    refine .z zpF (.z zg (.nil ?_))
    refine .ret (Fin.ret1 Tryz.results191 rfl ?_)
    exact ⟨_, rfl, ⟨fun h => (by cases h), fun h => by rw [hb6.2 h.1] at hb7; cases hb7⟩, hs⟩
theorem weigh_pairs_1_1_spec {H : Heap} {w : World} {σ : List Ent} {bx by_ : Nat} {x y : Int} (hs : St H w σ) (hx : Row H bx [I x]) (hy : Row H by_ [I y]) :
    Cl Tryz.prog 279 [.pointer (some ⟨bx, 0, none⟩), .pointer (some ⟨by_, 0, none⟩)] w fun u w' => u = .tuple #[I x, I y] ∧ St H w' σ := by
  have hx0 := hx.at 0
  have hy0 := hy.at 0
  refine Cl.of Tryz.func279 rfl Tryz.ntmps279 (by simp) (args_cons (k := 0) rfl (args_cons (k := 1) rfl (args0))) ?_
  refine .regSeq (.z zg (.z zg (.nil ?_)))
  refine .seq (.draw mix rfl hs ?_); intro w hs
  refine .y 0 rfl hs Tryz.isAgg3 ?_; refine .y 1 rfl hs Tryz.isAgg3 ?_; refine .z 2 rfl zg ?_; refine .z 3 rfl zg ?_; refine .done (by kernel_rfl) hs ?_
  refine .ret (Fin.ret2 Tryz.results279 rfl rfl ?_)
  exact ⟨rfl, hs⟩
def PrE (X Y : List Int) (p : Nat) (H : Heap) (z : List Value) : Prop :=
  ∃ bx by_, z = [.agg #[I ((p / Y.length : Nat) : Int), I ((p % Y.length : Nat) : Int)], .func (.func 279) #[] #[.pointer (some ⟨bx, 0, none⟩), .pointer (some ⟨by_, 0, none⟩)]] ∧ Row H bx [I (gi X (p / Y.length))] ∧ Row H by_ [I (gi Y (p % Y.length))]
theorem weigh_pairs_1_iter {H : Heap} {b1 b2 : Nat} {v1 v2 : Value} {X Y : List Int} (hb1 : Row H b1 [v1]) (hb2 : Row H b2 [v2]) (hX : RI H v1 X) (hY : RI H v2 Y) (hXl : X.length ≤ 1000) (hYl : Y.length ≤ 1000) :
    IterE Tryz.prog 278 [.pointer (some ⟨b1, 0, none⟩), .pointer (some ⟨b2, 0, none⟩)] H (X.length * Y.length) (PrE X Y) := by
  intro ly II Ix hmI _ hy H0 σb0 σf w hle hI0 hs
  obtain ⟨a1, c1, rfl⟩ := RI.shape hX
  obtain ⟨a2, c2, rfl⟩ := RI.shape hY
  have h01 : cellAt H0 b1 0 = some (.slice a1 X.length c1) := cellAt.mono (hb1.at 0) hle
  have h02 : cellAt H0 b2 0 = some (.slice a2 Y.length c2) := cellAt.mono (hb2.at 0) hle
  refine Cl.of Tryz.func278 rfl Tryz.ntmps278 (by simp) (args_cons (k := 0) rfl (args_cons (k := 1) rfl (args_cons (k := 2) rfl (args0)))) ?_
  refine .regSeq (.y hs (zld Tryz.isAgg22) (.z (zlen Tryz.runUnderlying22) (.z zm (.nil ?_))))
  refine .for (N := X.length) (J := fun i fr w => fr = [(8, .slice a1 X.length c1), (0, .func (.yield ly) #[] #[]), (1, .pointer (some ⟨b1, 0, none⟩)), (2, .pointer (some ⟨b2, 0, none⟩))] ∧ ∃ H1 σb, HLe H H1 ∧ HLe H0 H1 ∧ II (i * Y.length) H1 σb ∧ St H1 w (σb ++ σf)) (by omega) ?_ ?_ ?_
  · exact .mk ⟨rfl, H0, σb0, hle, HLe.refl _, by rw [Nat.zero_mul]; exact hI0, hs⟩
  · rintro i fr w hi ⟨rfl, H1, σb, hle1, hle0, hI, hs⟩
    refine .block (.regSeq (.z zm ?_))
    refine .ixY hs (hX.mono hle1) rfl rfl Tryz.runUnderlying22 Tryz.sizeOf3 (gi_get (l := X) (i := i) (by omega)) (by first | rfl | assumption | omega) ?_; intro b13 o13 hc13
    refine .q hs (q_loadR rfl Tryz.isAgg3 hc13) ?_
    refine .o (.alloc hs Tryz.zeroValue3 rfl ?_); intro b5 w hs
    refine .z zg ?_
    refine .o (.store hs rfl rfl Tryz.sizeOf3 ?_); intro w hs
    refine .nil (.regSeq ?_)
    obtain ⟨H2, hle2, r5, hs⟩ := hs.publish (b := b5) .here
    have h22 := cellAt.mono h02 (hle0.trans hle2)
    refine .y hs (zld Tryz.isAgg22) (.z (zlen Tryz.runUnderlying22) (.z zm (.nil ?_)))
    refine .for (N := Y.length) (J := fun k fr w => fr = [(15, .slice a2 Y.length c2), (4, I (i : Int)), (10, I (i : Int)), (9, I (X.length : Int)), (5, .pointer (some ⟨b5, 0, none⟩)), (8, .slice a1 X.length c1), (0, .func (.yield ly) #[] #[]), (1, .pointer (some ⟨b1, 0, none⟩)), (2, .pointer (some ⟨b2, 0, none⟩))] ∧ ∃ H3 σb, HLe H2 H3 ∧ II (i * Y.length + k) H3 σb ∧ St H3 w (σb ++ σf)) (by omega) ?_ ?_ ?_
    · exact .mk ⟨rfl, H2, σb, HLe.refl _, hmI _ _ _ _ hle2 hI, hs⟩
    · rintro k fr w hk ⟨rfl, H3, σb3, hle3, hI3, hs⟩
      have hle03 := hle0.trans (hle2.trans hle3)
      have hle13 := hle1.trans (hle2.trans hle3)
      refine .block (.regSeq (.z zm ?_))
      refine .ixY hs (hY.mono hle13) rfl rfl Tryz.runUnderlying22 Tryz.sizeOf3 (gi_get (l := Y) (i := k) (by omega)) (by first | rfl | assumption | omega) ?_; intro b20 o20 hc20
      refine .q hs (q_loadR rfl Tryz.isAgg3 hc20) ?_
      refine .o (.alloc hs Tryz.zeroValue3 rfl ?_); intro b7 w hs
      refine .z zg ?_
      refine .o (.store hs rfl rfl Tryz.sizeOf3 ?_); intro w hs
      refine .nil (.regSeq (.z zm (.z zm (.z zm ?_))))
      refine .q hs (q_buildA (vs := [(0, I (i : Int)), (1, I (k : Int))]) (cells := [I (i : Int), I (k : Int)]) Tryz.zeroValue90 rfl Tryz.runUnderlying90 Tryz.sizeOf3 rfl) ?_
      refine .q hs (q_makeFunc (f := []) (c := [_, _]) rfl rfl) ?_
      obtain ⟨H4, hle4, r7, hs⟩ := hs.publish (b := b7) .here
      obtain ⟨d1, d2⟩ := uidx (nw := Y.length) (i := i) (k := k) hk
      have hlt : i * Y.length + k < X.length * Y.length := by
        have := Nat.mul_le_mul_right Y.length (show i + 1 ≤ X.length by omega)
        rw [Nat.add_mul, Nat.one_mul] at this; omega
      have hyd := hy (i * Y.length + k) hlt [.agg #[I (i : Int), I (k : Int)], .func (.func 279) #[] #[.pointer (some ⟨b5, 0, none⟩), .pointer (some ⟨b7, 0, none⟩)]] H4 σb3 σf w (hle13.trans hle4) ⟨b5, b7, by rw [d1, d2], by rw [d1]; exact r5.mono (hle3.trans hle4), by rw [d2]; exact r7⟩ (hmI _ _ _ _ hle4 hI3) hs
      refine .o (.yield rfl rfl hyd ?_); rintro v27 w ⟨H5, σ5, g1, hs, g3⟩
      obtain ⟨bb, rfl, gT, gF⟩ := yd_bool g3
      refine .z znot (.nil ?_)
      refine (.cond rfl (fun hc28 => ?_) (fun hc28 => ?_))
      · refine .ret (rB (rT (rB (rB (rT (rB (Fin.ret0 Tryz.results278 ?_)))))))
        exact ⟨H5, σ5, hle03.trans (hle4.trans g1), hs, .inr (gF (by simpa using hc28))⟩
      · refine .skip ?_
        refine nB (nT ?_)
        exact .mk ⟨rfl, H5, σ5, hle3.trans (hle4.trans g1), gT (by simpa using hc28), hs⟩
    · rintro fr w ⟨rfl, H3, σb3, hle3, hI3, hs⟩
      refine nB (nT ?_)
      exact .mk ⟨rfl, H3, σb3, hle1.trans (hle2.trans hle3), hle0.trans (hle2.trans hle3), by rw [Nat.add_mul, Nat.one_mul]; exact hI3, hs⟩
  · rintro fr w ⟨rfl, H1, σb, hle1, hle0, hI, hs⟩
    exact Fin.end0 Tryz.results278 ⟨H1, σb, hle0, hs, .inl hI⟩
theorem weigh_pairs_spec {H : Heap} {w : World} {σ : List Ent} {v1 v2 : Value} {X Y : List Int} (hs : St H w σ) (hX : RI H v1 X) (hY : RI H v2 Y) (hXl : X.length ≤ 1000) (hYl : Y.length ≤ 1000) :
    Cl Tryz.prog 249 [v1, v2] w fun u w' => ∃ H1 b1 b2, HLe H H1 ∧ u = .func (.func 278) #[] #[.pointer (some ⟨b1, 0, none⟩), .pointer (some ⟨b2, 0, none⟩)] ∧ IterE Tryz.prog 278 [.pointer (some ⟨b1, 0, none⟩), .pointer (some ⟨b2, 0, none⟩)] H1 (X.length * Y.length) (PrE X Y) ∧ St H1 w' σ := by
  obtain ⟨a1, c1, rfl⟩ := RI.shape hX
  obtain ⟨a2, c2, rfl⟩ := RI.shape hY
  refine Cl.of Tryz.func249 rfl Tryz.ntmps249 (by simp) (args_cons (k := 0) rfl (args_cons (k := 1) rfl (args0))) ?_
  refine .regSeq ?_
  refine .o (.box hs rfl rfl ?_); intro b2 w hs
  refine .o (.box hs rfl rfl ?_); intro b3 w hs
  refine .z zg (.nil (.regSeq ?_))
  refine .q hs (q_makeFunc (f := []) (c := [_, _]) rfl rfl) ?_
  refine .z zg (.nil ?_)
  refine .ret (Fin.ret1 Tryz.results249 rfl ?_)
  obtain ⟨H1, g1, r1, hs⟩ := hs.publish (b := b2) (by repeat constructor)
  obtain ⟨H2, g2, r2, hs⟩ := hs.publish (b := b3) (by repeat constructor)
  exact ⟨H2, b2, b3, g1.trans g2, rfl, weigh_pairs_1_iter (r1.mono g2) r2 (hX.mono (g1.trans g2)) (hY.mono (g1.trans g2)) hXl hYl, hs⟩
set_option maxHeartbeats 1000000 in
theorem weigh_grid_spec {H : Heap} {w : World} {σ : List Ent} {v1 v2 : Value} {l1 l2 : List Int} (hs : St H w σ) (hr1 : RI H v1 l1) (hr2 : RI H v2 l2) (hp1 : PlcOk 9 100000 l1) (hp2 : PlcOk 7 15000 l2) :
    Cl Tryz.prog 192 [v1, v2] w fun u w' => ∃ H1, HLe H H1 ∧ RT H1 u (gridP (wts l1) (wts l2) l1.length) ∧ St H1 w' σ := by
  obtain ⟨a1, c1, rfl⟩ := RI.shape hr1
  obtain ⟨a2, c2, rfl⟩ := RI.shape hr2
  have hn1 := hp1.many
  have hn2 := hp2.many
  have htw1 := hp1.two
  have htw2 := hp2.two
  have hp2' : PlcOk 9 100000 l2 := ⟨hp2.two, by omega, hp2.low, by have := hp2.high; omega, hp2.rise⟩
  have hXl := wts_length l1
  have hYl := wts_length l2
  have hXb := wts_at hp1
  have hYb := wts_at hp2
  refine Cl.of Tryz.func192 rfl Tryz.ntmps192 (by simp) (args_cons (k := 0) rfl (args_cons (k := 1) rfl (args0))) ?_
  refine .regSeq (.z zg (.nil (.regSeq (.z zm ?_))))
  refine .o (.call Tryz.call248 rfl (weigh_weights_spec hs hr1 hp1) ?_); rintro v13 w ⟨H1, hle1, hX, hs⟩
  refine .z zm ?_
  refine .o (.call Tryz.call248 rfl (weigh_weights_spec hs (hr2.mono hle1) hp2') ?_); rintro v15 w ⟨H2, hle2, hY, hs⟩
  replace hX := hX.mono hle2
  generalize wts l1 = X at *
  generalize wts l2 = Y at *
  obtain ⟨aX, cX, rfl⟩ := RI.shape hX
  obtain ⟨aY, cY, rfl⟩ := RI.shape hY
  refine .z zg (.z zg (.nil (.regSeq (.z zm (.z (zlen Tryz.runUnderlying22) ?_)))))
  refine .o (.makeP l1.length hs rfl rfl Tryz.runUnderlying61 Tryz.typeInfo22 rfl Tryz.sizeOf22 Tryz.zeroValue22 (by omega) ?_); intro b18 w hs
  refine .o (.alloc hs Tryz.zeroValue61 rfl ?_); intro b7 w hs
  refine .o (.store hs rfl rfl Tryz.sizeOf61 ?_); intro w hs
  refine .nil (.seq (.regSeq (.z zm (.z zm ?_))))
  refine .o (.call Tryz.call249 rfl (weigh_pairs_spec hs hX hY (by omega) (by omega)) ?_); rintro _ w ⟨H3, bp1, bp2, hle3, rfl, hit, hs⟩
  have hle03 := hle1.trans (hle2.trans hle3)
  have h0 : GrS X Y b18 0 0 H3 [.blk b18 (List.replicate l1.length (.slice none 0 0)), .nul] := by
    refine .go [] (.slice none 0 0) .nul (by omega) (RLs.nil _) (.nil 1 none) ?_
    rw [hXl]
    obtain ⟨m, hm⟩ : ∃ m, l1.length = m + 1 := ⟨l1.length - 1, by omega⟩
    rw [hm]
    rfl
  refine .nil (.block ?_)
  refine .rangeE (gf := 278) (cap := [.pointer (some ⟨bp1, 0, none⟩), .pointer (some ⟨bp2, 0, none⟩)]) (N := X.length * Y.length) (E := PrE X Y) (σb := .blk b7 [.slice (some ⟨b18, 0, none⟩) l1.length l1.length] :: [.blk b18 (List.replicate l1.length (.slice none 0 0)), .nul]) (σf := σ) (hs.nul.sub (by repeat (first | exact Sub.refl _ | constructor | apply Sub.weaken))) trivial rfl hit Tryz.call278 (fun k H' z ⟨_, _, hz, _⟩ => by rw [hz]; rfl) rfl
    (I := fun p H' σb => ∃ σ1, σb = .blk b7 [.slice (some ⟨b18, 0, none⟩) l1.length l1.length] :: σ1 ∧ GrS X Y b18 (p / Y.length) (p % Y.length) H' σ1) (Ix := fun _ _ _ => False)
    (fun j _ _ σ g1 ⟨σ1, g2, g3⟩ => ⟨σ1, g2, g3.mono g1⟩) (fun _ _ _ _ _ h => h) ⟨_, rfl, by rw [Nat.zero_div, Nat.zero_mod]; exact h0⟩ ?_ ?_ (fun D c H' σb w _ h _ => h.elim)
  · rintro ly p hp z H4 σb2 σf2 w hle4 ⟨bx, by_, rfl, rx, ry⟩ ⟨σ1, rfl, hG⟩ hs ⟨rr, hrr⟩
    have hnext := next_div (p := p) (m := Y.length) (by omega)
    have hkm := Nat.mod_lt p (show 0 < Y.length by omega)
    have hin : p / Y.length < X.length := Nat.div_lt_of_lt_mul (by rw [Nat.mul_comm]; exact hp)
    generalize hi : p / Y.length = i at *
    generalize hk : p % Y.length = k at *
    cases hG with
    | fin us h => omega
    | go us v en h h1 h2 h3 =>
    subst h3
    obtain ⟨av, lv, cv, rfl, hlv⟩ := h2.shape
    have husl : us.length = i := by rw [h1.1, gridP_length]
    have hb1 := hXb i
    have hb2 := hYb k
    have hpr := ab_mul (gi X i) (gi Y k)
    have hprb : -3456000000000 ≤ gi X i * gi Y k ∧ gi X i * gi Y k ≤ 3456000000000 := mul_bd (A := 4800000) (B := 720000) (by unfold ab at hb1; omega) (by unfold ab at hb2; omega)
    refine .regSeq ?_
    refine .o (.alloc hs Tryz.zeroValue90 rfl ?_); intro b8 w hs
    refine .o (.stores (vs := [_, _]) hs rfl rfl Tryz.sizeOf90 ?_); intro w hs
    refine .nil (.region (.z zg (.nil ?_)))
    refine nT ?_
    refine ⟨H4, [.blk b8 [I (i : Int), I (k : Int)], .blk b7 [.slice (some ⟨b18, 0, none⟩) l1.length l1.length], .blk b18 (us ++ Value.slice av lv cv :: List.replicate (X.length - i - 1) (Value.slice none 0 0)), en], HLe.refl _, hs, ?_⟩; rintro w σf4 - hs
    refine .block (.regSeq (.z zm ?_))
    refine .o (.callG (first := []) (cap := [.pointer (some ⟨bx, 0, none⟩), .pointer (some ⟨by_, 0, none⟩)]) rfl rfl Tryz.call279 (weigh_pairs_1_1_spec hs rx ry) ?_); rintro _ w ⟨rfl, hs⟩
    refine .z zm (.z zex (.z zex (.z zg (.z zg (.nil ?_)))))
    refine .draw mix rfl hs ?_; intro w hs
    refine .y 0 rfl hs Tryz.isAgg61 ?_
    first | refine .p (i := 1) rfl (by kernel_rfl) .none (q_ixA0 (k := 0) rfl rfl Tryz.runUnderlying90 Tryz.sizeOf3 rfl (by decide)) ?_ | refine .p (i := 1) rfl (by kernel_rfl) .none (q_ixA (k := 0) rfl rfl Tryz.runUnderlying90 Tryz.sizeOf3 rfl (by decide)) ?_
    refine .y 2 rfl hs Tryz.isAgg3 ?_; refine .y 3 rfl hs Tryz.isAgg61 ?_
    first | refine .p (i := 4) rfl (by kernel_rfl) .none (q_ixA0 (k := 0) rfl rfl Tryz.runUnderlying90 Tryz.sizeOf3 rfl (by decide)) ?_ | refine .p (i := 4) rfl (by kernel_rfl) .none (q_ixA (k := 0) rfl rfl Tryz.runUnderlying90 Tryz.sizeOf3 rfl (by decide)) ?_
    refine .y 5 rfl hs Tryz.isAgg3 ?_
    refine .p (i := 6) rfl (by kernel_rfl) .none (q_ixO (k := i) rfl rfl Tryz.runUnderlying61 Tryz.sizeOf22 rfl (by omega)) ?_
    refine .load (i := 7) hs rfl (by kernel_rfl) .none rfl Tryz.isAgg22 ?_ (hv := by rw [List.getElem?_append_right (by omega), husl, Nat.sub_self]; rfl)
    refine .z 8 rfl zm ?_; refine .z 9 rfl zm ?_; refine .z 10 rfl zmul ?_
    refine .e1 (i := 11) (by kernel_rfl) rfl rfl .none hs ?_
    refine .buildSlice (cells := [_]) hs bls_sl_int_1 rfl rfl ?_; intro b40 w hs
    refine .go ?_
    refine .e1 (i := 12) (by kernel_rfl) rfl rfl .none hs ?_
    refine .append (ys := Is [gi X i * gi Y k]) hs app_sl_int_int rfl rfl h2 (.own .here rfl rfl) (Is_cell _) (fun l' h => by simp at h; omega) ?_; intro v41 en41 w hO hs
    rw [show Is ((rowP X Y i).take k) ++ Is [gi X i * gi Y k] = Is ((rowP X Y i).take (k + 1)) by rw [rowP_take hkm]; simp [Is]] at hO
    obtain ⟨a41, l41, c41, rfl, hl41⟩ := hO.shape
    refine .go ?_
    refine .p (i := 13) rfl (by kernel_rfl) .none (q_ixO (k := i) rfl rfl Tryz.runUnderlying61 Tryz.sizeOf22 rfl (by omega)) ?_
    refine .e1 (i := 14) (by kernel_rfl) rfl rfl .none hs ?_
    refine .store (c' := us ++ .slice a41 l41 c41 :: List.replicate (X.length - i - 1) (.slice none 0 0)) hs rfl rfl Tryz.sizeOf22 ?_ (by repeat constructor) (by simp; omega) (by rw [List.set_append_right _ _ (by omega), husl, Nat.sub_self]; rfl); intro w hs
    refine .go ?_
    refine .done (by kernel_rfl) hs ?_
    refine nB ?_
    rcases hnext with ⟨g1, g2, g3⟩ | ⟨g1, g2, g3⟩
    · exact ⟨H4, [.blk b7 [.slice (some ⟨b18, 0, none⟩) l1.length l1.length], .blk b18 (us ++ .slice a41 l41 c41 :: List.replicate (X.length - i - 1) (.slice none 0 0)), en41], HLe.refl _, (hs.sub (by repeat (first | exact Sub.refl _ | constructor | apply Sub.weaken)) : St H4 w (.blk b7 _ :: .blk b18 _ :: en41 :: σf4)), _, rfl, by rw [g2, g3]; exact .go us _ en41 h h1 hO rfl⟩
    · obtain ⟨H5, hle5, hR, hs⟩ := OwnS.publishI hO (by rw [List.length_take, rowP_length]; omega) hs (by repeat constructor)
      rw [List.take_of_length_le (by rw [rowP_length]; omega)] at hR
      have h1' : RLs H5 (us ++ [.slice a41 l41 c41]) (gridP X Y (i + 1)) := by rw [gridP_succ]; exact (h1.mono hle5).snoc hR
      by_cases e : i + 1 < X.length
      · refine ⟨H5, [.blk b7 [.slice (some ⟨b18, 0, none⟩) l1.length l1.length], .blk b18 (us ++ .slice a41 l41 c41 :: List.replicate (X.length - i - 1) (.slice none 0 0)), .nul], hle5, (hs.nul.sub (by repeat (first | exact Sub.refl _ | constructor | apply Sub.weaken)) : St H5 w (.blk b7 _ :: .blk b18 _ :: .nul :: σf4)), _, rfl, ?_⟩
        rw [g2, g3]
        refine .go (us ++ [.slice a41 l41 c41]) (.slice none 0 0) .nul e h1' (.nil 1 none) ?_
        obtain ⟨m, hm⟩ : ∃ m, X.length - i - 1 = m + 1 := ⟨X.length - i - 2, by omega⟩
        rw [hm, show X.length - (i + 1) - 1 = m by omega, List.append_assoc]
        rfl
      · refine ⟨H5, [.blk b7 [.slice (some ⟨b18, 0, none⟩) l1.length l1.length], .blk b18 (us ++ .slice a41 l41 c41 :: List.replicate (X.length - i - 1) (.slice none 0 0))], hle5, (hs.sub (by repeat (first | exact Sub.refl _ | constructor | apply Sub.weaken)) : St H5 w (.blk b7 _ :: .blk b18 _ :: σf4)), _, rfl, ?_⟩
        rw [g2, g3]
        refine .fin (us ++ [.slice a41 l41 c41]) (by omega) h1' ?_
        rw [show X.length - i - 1 = 0 by omega]
        rfl
  · rintro D H4 σb2 w hle4 ⟨σ1, rfl, hG⟩ hs
    rw [Nat.mul_div_cancel _ (by omega), Nat.mul_mod_left] at hG
    cases hG with
    | go us v en h => omega
    | fin us h h1 h3 =>
    subst h3
    replace hs : St H4 w (.obj D (.deferred (some [])) :: .blk b7 [.slice (some ⟨b18, 0, none⟩) l1.length l1.length] :: .blk b18 us :: σ) := hs
    have husl : us.length = l1.length := by rw [h1.1, gridP_length, hXl]
    refine nB (nT ?_)
    refine .regSeq (.y hs (zld Tryz.isAgg61) (.z zg (.nil ?_)))
    refine .ret ?_
    obtain ⟨H5, hle5, hR, hs⟩ := h1.publish (v := .slice (some ⟨b18, 0, none⟩) l1.length l1.length) (en := .blk b18 us) (.full (by simp [husl])) (by omega) hs (by repeat constructor)
    rw [hXl] at hR
    exact Fin.retD [D] [] hs fun w hs => ⟨_, results1 Tryz.results192 rfl, H5, hle03.trans (hle4.trans hle5), hR, hs.out⟩
theorem weigh_Grid_spec {H : Heap} {w : World} {σ : List Ent} {v1 v2 : Value} {l1 l2 : List Int} (hs : St H w σ) (hr1 : RI H v1 l1) (hr2 : RI H v2 l2) :
    Cl Tryz.prog 104 [v1, v2] w fun u w' => ∃ H1 vo e, HLe H H1 ∧ u = .tuple #[vo, I e] ∧ (PlcOk 9 100000 l1 ∧ PlcOk 7 15000 l2 → e = 0 ∧ RT H1 vo (gridP (wts l1) (wts l2) l1.length)) ∧ (e = 0 → PlcOk 9 100000 l1 ∧ PlcOk 7 15000 l2) ∧ St H1 w' σ := by
  refine Cl.of Tryz.func104 rfl Tryz.ntmps104 (by simp) (args_cons (k := 0) rfl (args_cons (k := 1) rfl (args0))) ?_
  refine .regSeq (.z zg (.z zg (.nil (.seq (.regSeq (.z zm (.z zm ?_)))))))
  refine .o (.call Tryz.call191 rfl (weigh_isGrid_spec hs hr1 hr2) ?_); rintro _ w ⟨b8, rfl, hb8, hs⟩
  refine .z znot (.nil ?_)
  refine (.cond rfl (fun hc9 => ?_) (fun hc9 => ?_))
  · refine .regSeq (.z zg (.z zg (.nil ?_)))
    refine .ret (rT (Fin.ret2 Tryz.results104 rfl rfl ?_))
    exact ⟨H, _, _, HLe.refl H, rfl, fun h => (by rw [hb8.2 h] at hc9; cases hc9), fun h => (by omega), hs⟩
  · refine .skip ?_
    refine nT ?_
    refine .regSeq (.z zm (.z zm ?_))
    have hp := hb8.1 (by simpa using hc9)
    refine .o (.call Tryz.call192 rfl (weigh_grid_spec hs hr1 hr2 hp.1 hp.2) ?_); rintro v12 w ⟨H1, hle1, hR, hs⟩
    refine .z zg (.z zg (.nil ?_))
    refine .ret (Fin.ret2 Tryz.results104 rfl rfl ?_)
    exact ⟨H1, _, _, hle1, rfl, fun _ => ⟨rfl, hR⟩, fun _ => hp, hs⟩
end Go.Proofs.YtddaejgfjlneoaaGreat

namespace Go.Proofs.YtddaejgfjlneoaaGreat
open Go.MW
theorem plc_of {many : Nat} {most : Int} {l : List Int} (h2 : 2 ≤ l.length) (hm : l.length ≤ many) (h : ∀ j < l.length, 0 ≤ gi l j ∧ gi l j ≤ most ∧ (0 < j → gi l (j - 1) < gi l j)) : PlcOk many most l :=
  ⟨h2, hm, (h 0 (by omega)).1, (h (l.length - 1) (by omega)).2.1, fun i hi => by have := (h (i + 1) hi).2.2 (by omega); rwa [Nat.add_sub_cancel] at this⟩
theorem PlcOk_each {many : Nat} {most : Int} {l : List Int} (h : PlcOk many most l) {j : Nat} (hj : j < l.length) : 0 ≤ gi l j ∧ gi l j ≤ most ∧ (0 < j → gi l (j - 1) < gi l j) :=
  ⟨(h.bd hj).1, (h.bd hj).2, fun h0 => by have := h.rise (j - 1) (by omega); rwa [Nat.sub_add_cancel h0] at this⟩
theorem ref01_rising_spec {H : Heap} {w : World} {σ : List Ent} {v : Value} {l : List Int} {many : Nat} {most : Int} (hs : St H w σ) (hr : RI H v l) (hmany : many ≤ 1000) :
    Cl Tryz.prog 168 [v, I many, I most] w fun u w' => ∃ b : Bool, u = .bool b ∧ (b = true ↔ PlcOk many most l) ∧ St H w' σ := by
  obtain ⟨a, c, rfl⟩ := RI.shape hr
  have hlen := (RI.len hr).2.2
  refine Cl.of Tryz.func168 rfl Tryz.ntmps168 (by simp) (args_cons (k := 0) rfl (args_cons (k := 1) rfl (args_cons (k := 2) rfl (args0)))) ?_
  refine .regSeq (.z zg (.nil (.seq (.regSeq (.z zm (.z (zlen Tryz.runUnderlying22) (.z zlss (.z zm ?_))))))))
  refine .bifD (t' := 11) rfl (fun hb11 => ?_) (fun hb11 => ?_)
  · refine .gFs 4 3 false rfl rfl rfl ?_
    refine .z zpT (.nil ?_)
    refine (.condT rfl rfl ?_)
    refine .regSeq (.z zg (.nil ?_))
    refine .ret (rT (Fin.ret1 Tryz.results168 rfl ?_))
    exact ⟨false, rfl, ⟨fun h => (by cases h), fun h => by have := h.two; omega⟩, hs⟩
  · refine .gT rfl rfl ?_
    refine .z zm ?_
    refine .gT rfl rfl ?_
    refine .z (zlen Tryz.runUnderlying22) ?_
    refine .gT rfl rfl ?_
    refine .z zm ?_
    refine .gT rfl rfl ?_
    refine .z zgtr (.z zpF (.nil ?_))
    refine (.condD rfl (fun hc16 => ?_) (fun hc16 => ?_))
    · refine .regSeq (.z zg (.nil ?_))
      refine .ret (rT (Fin.ret1 Tryz.results168 rfl ?_))
      exact ⟨false, rfl, ⟨fun h => (by cases h), fun h => by have := h.many; omega⟩, hs⟩
    · refine .skip ?_
      refine nT ?_
      refine .seq (.regSeq (.z zg (.nil (.block ?_))))
      refine .loop (fun k : Nat => ⟨52, [], [(7, I (k : Int)), (0, .slice a l.length c), (1, I (many : Int)), (2, I most)]⟩)
        (fun k w => k ≤ l.length ∧ (∀ j < k, 0 ≤ gi l j ∧ gi l j ≤ most ∧ (0 < j → gi l (j - 1) < gi l j)) ∧ St H w σ) (fun k => l.length - k) 0 (.consI rfl (by simp) (by repeat (first | exact .nil rfl rfl | refine .cons rfl ?_)))
        ⟨Nat.zero_le _, fun j hj => by omega, hs⟩ ?_
      rintro k w ⟨hk, hno, hs⟩
      refine .seq (.regSeq (.z zm (.z zm (.z (zlen Tryz.runUnderlying22) (.z zlss (.nil ?_))))))
      refine (.condD rfl (fun hc20 => ?_) (fun hc20 => ?_))
      · refine .skip ?_
        refine nT ?_
        refine .seq (.block ?_)
        refine .seq (.draw mix rfl hs ?_); intro w hs
        refine .z 0 rfl zm ?_; refine .z 1 rfl zm ?_
        refine .ixX (enc := fun x => [I x]) (i := 2) hs rfl (by kernel_rfl) .none hr rfl rfl Tryz.runUnderlying22 Tryz.sizeOf3 (gi_get (l := l) (i := k) (by omega)) (by first | rfl | assumption | omega) ?_; intro b25 o25 hc25; replace hc25 := CellsAt.one hc25
        refine .r (i := 3) hs rfl (by kernel_rfl) .none (q_loadR rfl Tryz.isAgg3 hc25) ?_
        refine .z 4 rfl zlss ?_; refine .z 5 rfl zm ?_
        refine .bifD (t' := 28) rfl (fun hb28 => ?_) (fun hb28 => ?_)
        · refine .qF (i := 6) rfl (by kernel_rfl) rfl rfl ?_
          refine .qF (i := 7) rfl (by kernel_rfl) rfl rfl ?_
          refine .qF (i := 8) rfl (by kernel_rfl) rfl rfl ?_
          refine .qF (i := 9) rfl (by kernel_rfl) rfl rfl ?_
          refine .qF (i := 10) rfl (by kernel_rfl) rfl rfl ?_
          refine .qF (i := 11) rfl (by kernel_rfl) rfl rfl ?_
          refine .z 12 rfl zpT ?_; refine .z 13 rfl zm ?_
          refine .qF (i := 14) rfl (by kernel_rfl) rfl rfl ?_
          refine .qF (i := 15) rfl (by kernel_rfl) rfl rfl ?_
          refine .qF (i := 16) rfl (by kernel_rfl) rfl rfl ?_
          refine .qF (i := 17) rfl (by kernel_rfl) rfl rfl ?_
          refine .qF (i := 18) rfl (by kernel_rfl) rfl rfl ?_
          refine .qF (i := 19) rfl (by kernel_rfl) rfl rfl ?_
          refine .qF (i := 20) rfl (by kernel_rfl) rfl rfl ?_
          refine .qF (i := 21) rfl (by kernel_rfl) rfl rfl ?_
          refine .qF (i := 22) rfl (by kernel_rfl) rfl rfl ?_
          refine .qF (i := 23) rfl (by kernel_rfl) rfl rfl ?_
          refine .qF (i := 24) rfl (by kernel_rfl) rfl rfl ?_
          refine .qF (i := 25) rfl (by kernel_rfl) rfl rfl ?_
          refine .qF (i := 26) rfl (by kernel_rfl) rfl rfl ?_
          refine .qF (i := 27) rfl (by kernel_rfl) rfl rfl ?_
          refine .z 28 rfl zpT ?_; refine .done (by kernel_rfl) hs ?_
          refine (.condT rfl rfl ?_)
          refine .regSeq (.z zg (.nil ?_))
          refine .ret (rB (rT (rT (rB (rT (Fin.ret1 Tryz.results168 rfl ?_))))))
          exact ⟨false, rfl, ⟨fun h => (by cases h), fun h => by have := PlcOk_each h (j := k) (by omega); omega⟩, hs⟩
        · refine .z 6 rfl zm ?_; refine .z 7 rfl zm ?_
          refine .ixX (enc := fun x => [I x]) (i := 8) hs rfl (by kernel_rfl) (.some rfl rfl) hr rfl rfl Tryz.runUnderlying22 Tryz.sizeOf3 (gi_get (l := l) (i := k) (by omega)) (by first | rfl | assumption | omega) ?_; intro b31 o31 hc31; replace hc31 := CellsAt.one hc31
          refine .r (i := 9) hs rfl (by kernel_rfl) (.some rfl rfl) (q_loadR rfl Tryz.isAgg3 hc31) ?_
          refine .z 10 rfl zm ?_; refine .z 11 rfl zgtr ?_; refine .z 12 rfl zpF ?_; refine .z 13 rfl zm ?_
          refine .bifD (t' := 36) rfl (fun hb36 => ?_) (fun hb36 => ?_)
          · refine .qF (i := 14) rfl (by kernel_rfl) rfl rfl ?_
            refine .qF (i := 15) rfl (by kernel_rfl) rfl rfl ?_
            refine .qF (i := 16) rfl (by kernel_rfl) rfl rfl ?_
            refine .qF (i := 17) rfl (by kernel_rfl) rfl rfl ?_
            refine .qF (i := 18) rfl (by kernel_rfl) rfl rfl ?_
            refine .qF (i := 19) rfl (by kernel_rfl) rfl rfl ?_
            refine .qF (i := 20) rfl (by kernel_rfl) rfl rfl ?_
            refine .qF (i := 21) rfl (by kernel_rfl) rfl rfl ?_
            refine .qF (i := 22) rfl (by kernel_rfl) rfl rfl ?_
            refine .qF (i := 23) rfl (by kernel_rfl) rfl rfl ?_
            refine .qF (i := 24) rfl (by kernel_rfl) rfl rfl ?_
            refine .qF (i := 25) rfl (by kernel_rfl) rfl rfl ?_
            refine .qF (i := 26) rfl (by kernel_rfl) rfl rfl ?_
            refine .qF (i := 27) rfl (by kernel_rfl) rfl rfl ?_
            refine .z 28 rfl zpT ?_; refine .done (by kernel_rfl) hs ?_
            refine (.condT rfl rfl ?_)
            refine .regSeq (.z zg (.nil ?_))
            refine .ret (rB (rT (rT (rB (rT (Fin.ret1 Tryz.results168 rfl ?_))))))
            exact ⟨false, rfl, ⟨fun h => (by cases h), fun h => by have := PlcOk_each h (j := k) (by omega); omega⟩, hs⟩
          · refine .z 14 rfl zm ?_; refine .z 15 rfl zgtr ?_; refine .z 16 rfl zm ?_
            refine .bifD (t' := 39) rfl (fun hb39 => ?_) (fun hb39 => ?_)
            · refine .z 17 rfl zm ?_; refine .z 18 rfl zm ?_; refine .z 19 rfl zsub ?_
              refine .ixX (enc := fun x => [I x]) (i := 20) hs rfl (by kernel_rfl) (.some rfl rfl) hr rfl rfl Tryz.runUnderlying22 Tryz.sizeOf3 (gi_get (l := l) (i := (k-1)) (by omega)) (by first | rfl | assumption | omega) ?_; intro b43 o43 hc43; replace hc43 := CellsAt.one hc43
              refine .r (i := 21) hs rfl (by kernel_rfl) (.some rfl rfl) (q_loadR rfl Tryz.isAgg3 hc43) ?_
              refine .z 22 rfl zm ?_; refine .z 23 rfl zm ?_
              refine .ixX (enc := fun x => [I x]) (i := 24) hs rfl (by kernel_rfl) (.some rfl rfl) hr rfl rfl Tryz.runUnderlying22 Tryz.sizeOf3 (gi_get (l := l) (i := k) (by omega)) (by first | rfl | assumption | omega) ?_; intro b47 o47 hc47; replace hc47 := CellsAt.one hc47
              refine .r (i := 25) hs rfl (by kernel_rfl) (.some rfl rfl) (q_loadR rfl Tryz.isAgg3 hc47) ?_
              refine .z 26 rfl zgeq ?_; refine .z 27 rfl zpT ?_; refine .z 28 rfl zpF ?_; refine .done (by kernel_rfl) hs ?_
              refine (.condD rfl (fun hc51 => ?_) (fun hc51 => ?_))
              · refine .regSeq (.z zg (.nil ?_))
                refine .ret (rB (rT (rT (rB (rT (Fin.ret1 Tryz.results168 rfl ?_))))))
                exact ⟨false, rfl, ⟨fun h => (by cases h), fun h => by have := PlcOk_each h (j := k) (by omega); omega⟩, hs⟩
              · refine .skip ?_
                refine nB (nT ?_)
                refine .region (.z zm (.z zadd (.z zg (.nil ?_))))
                refine nT ?_
                exact ⟨k + 1, .consI rfl (by simp) (by repeat (first | exact .nil rfl rfl | refine .cons rfl ?_)), ⟨by omega, fun j hj => by
                  by_cases e : j = k
                  · subst e; exact ⟨by omega, by omega, fun _ => by omega⟩
                  · exact hno j (by omega), hs⟩, by omega⟩
            · refine .qF (i := 17) rfl (by kernel_rfl) rfl rfl ?_
              refine .qF (i := 18) rfl (by kernel_rfl) rfl rfl ?_
              refine .qF (i := 19) rfl (by kernel_rfl) rfl rfl ?_
              refine .qF (i := 20) rfl (by kernel_rfl) rfl rfl ?_
              refine .qF (i := 21) rfl (by kernel_rfl) rfl rfl ?_
              refine .qF (i := 22) rfl (by kernel_rfl) rfl rfl ?_
              refine .qF (i := 23) rfl (by kernel_rfl) rfl rfl ?_
              refine .qF (i := 24) rfl (by kernel_rfl) rfl rfl ?_
              refine .qF (i := 25) rfl (by kernel_rfl) rfl rfl ?_
              refine .qF (i := 26) rfl (by kernel_rfl) rfl rfl ?_
              refine .z 27 rfl zpF ?_; refine .z 28 rfl zpF ?_; refine .done (by kernel_rfl) hs ?_
              refine (.condF rfl rfl ?_)
              refine .skip ?_
              refine nB (nT ?_)
              refine .region (.z zm (.z zadd (.z zg (.nil ?_))))
              refine nT ?_
              exact ⟨k + 1, .consI rfl (by simp) (by repeat (first | exact .nil rfl rfl | refine .cons rfl ?_)), ⟨by omega, fun j hj => by
                by_cases e : j = k
                · subst e; exact ⟨by omega, by omega, fun _ => by omega⟩
                · exact hno j (by omega), hs⟩, by omega⟩
      · refine .exit ?_
        refine xT (xT (xB (nT ?_)))
        refine .regSeq (.z zg (.nil ?_))
        refine .ret (Fin.ret1 Tryz.results168 rfl ?_)
        exact ⟨true, rfl, ⟨fun _ => plc_of (by omega) (by omega) fun j hj => hno j (by omega), fun _ => rfl⟩, hs⟩
theorem ref01_CheckPlaces_spec {H : Heap} {w : World} {σ : List Ent} {v : Value} {l : List Int} (hs : St H w σ) (hr : RI H v l) :
    Cl Tryz.prog 84 [v] w fun u w' => ∃ e, u = I e ∧ ((PlcOk 9 100000 l ∧ e = 0) ∨ (¬ PlcOk 9 100000 l ∧ e ≠ 0)) ∧ St H w' σ := by
  refine Cl.of Tryz.func84 rfl Tryz.ntmps84 (by simp) (args_cons (k := 0) rfl (args0)) ?_
  refine .regSeq (.z zg (.nil (.seq (.regSeq (.z zm ?_)))))
  refine .o (.call Tryz.call168 rfl (ref01_rising_spec (many := 9) (most := 100000) hs hr (by omega)) ?_); rintro _ w ⟨b4, rfl, hb4, hs⟩
  refine .z znot (.nil ?_)
  refine (.cond rfl (fun hc5 => ?_) (fun hc5 => ?_))
  · refine .regSeq (.z zg (.nil ?_))
    refine .ret (rT (Fin.ret1 Tryz.results84 rfl ?_))
    exact ⟨_, rfl, .inr ⟨fun h => by simp [hb4.2 h] at hc5, by decide⟩, hs⟩
  · refine .skip ?_
    refine nT ?_
    refine .regSeq (.z zg (.nil ?_))
    refine .ret (Fin.ret1 Tryz.results84 rfl ?_)
    exact ⟨_, rfl, .inl ⟨hb4.1 (by simpa using hc5), rfl⟩, hs⟩
def Grp.c (g : Grp) : List Value := [I (g.at_ : Int), I (g.n : Int)]
end Go.Proofs.YtddaejgfjlneoaaGreat

namespace Go.Proofs.YtddaejgfjlneoaaGreat
open Go.MW
theorem offsets_within_spec {H : Heap} {w : World} {σ : List Ent} {a0 a1 a2 : Int} (hs : St H w σ) : Cl Tryz.prog 105 [I a0, I a1, I a2] w fun v w' => v = .bool (decide (a1 ≤ a0 ∧ a0 ≤ a2)) ∧ St H w' σ := by
  refine Cl.of Tryz.func105 rfl Tryz.ntmps105 (by simp) (args_cons (k := 0) rfl (args_cons (k := 1) rfl (args_cons (k := 2) rfl (args0)))) ?_
  refine .regSeq (.z zg (.nil (.regSeq (.z zm (.z zm (.z zleq (.z zm ?_)))))))
  refine .bifD (t' := 10) rfl (fun hb10 => ?_) (fun hb10 => ?_)
  · refine .gT rfl rfl ?_
    refine .z zm ?_
    refine .gT rfl rfl ?_
    refine .z zm ?_
    refine .gT rfl rfl ?_
    refine .z zleq (.z zpT (.z zg (.nil ?_)))
    refine .ret (Fin.ret1 Tryz.results105 rfl ?_)
    exact ⟨by simp [*], hs.out⟩
  · refine .gFs 3 3 true rfl rfl rfl ?_
    refine .z zpF (.z zg (.nil ?_))
    refine .ret (Fin.ret1 Tryz.results105 rfl ?_)
    exact ⟨by simp [*], hs.out⟩
theorem offsets_isSource_spec {H : Heap} {w : World} {σ : List Ent} {a0 : Int} (hs : St H w σ) : Cl Tryz.prog 106 [I a0] w fun v w' => v = .bool (decide (1 ≤ a0 ∧ a0 ≤ 99999)) ∧ St H w' σ := by
  refine Cl.of Tryz.func106 rfl Tryz.ntmps106 (by simp) (args_cons (k := 0) rfl (args0)) ?_
  refine .regSeq (.z zg (.nil (.regSeq (.z zm ?_))))
  refine .o (.call Tryz.call105 rfl (offsets_within_spec hs) ?_); rintro _ w ⟨rfl, hs⟩
  refine .z zg (.nil ?_)
  refine .ret (Fin.ret1 Tryz.results106 rfl ?_)
  exact ⟨rfl, hs⟩
def Spc.agg (s : Spc) (vst vwa : Value) : Value := .agg #[I s.id, I s.src, vst, vwa, I s.al, I s.up]
theorem offsets_CheckSpace_spec {H : Heap} {w : World} {σ : List Ent} {s : Spc} {vst vwa : Value} (hs : St H w σ) (h1 : RI H vst s.st) (h2 : RI H vwa s.wa) :
    Cl Tryz.prog 41 [.agg #[I s.id, I s.src, vst, vwa, I s.al, I s.up]] w fun v w' => ∃ H1 e, HLe H H1 ∧ v = I e ∧ ((SpcOk s ∧ e = 0) ∨ (¬ SpcOk s ∧ e = 30)) ∧ St H1 w' σ := by
  obtain ⟨ast, cst, rfl⟩ := RI.shape h1
  obtain ⟨awa, cwa, rfl⟩ := RI.shape h2
  refine Cl.of Tryz.func41 rfl Tryz.ntmps41 (by simp) (args_cons (k := 0) rfl (args0)) ?_
  refine .regSeq ?_
  refine .o (.box hs rfl rfl ?_); intro b1 w hs
  refine .z zg (.nil (.seq (.regSeq (.z (zfa fa_api_Space_2) (.y hs (zld Tryz.isAgg22) (.z (zfa fa_api_Space_3) (.y hs (zld Tryz.isAgg22) ?_)))))))
  refine .o (.call Tryz.call104 rfl (weigh_Grid_spec hs h1 h2) ?_); rintro _ w ⟨H1, vo, e, hle1, rfl, hG, hG', hs⟩
  refine .z zm (.z zex (.z zex (.z zg (.z zg (.nil (.regSeq (.z zm (.z zneq (.z zm ?_)))))))))
  refine .bifN (t' := 15) rfl (fun hb15 => ?_) (fun hb15 => ?_)
  · refine .gFs 4 2 false rfl rfl rfl ?_
    refine .z zpT (.z zm ?_)
    refine .gFs 4 8 false rfl rfl rfl ?_
    refine .z zpT (.z zm ?_)
    refine .gFs 5 14 false rfl rfl rfl ?_
    refine .z zpT (.z zm ?_)
    refine .gFs 5 21 false rfl rfl rfl ?_
    refine .z zpT (.nil ?_)
    refine (.condT rfl rfl ?_)
    refine .regSeq (.z zg (.nil ?_))
    refine .ret (rT (Fin.ret1 Tryz.results41 rfl ?_))
    exact ⟨H1, _, hle1, rfl, .inr ⟨fun h => by have := (hG ⟨h.st, h.wa⟩).1; simp_all, rfl⟩, hs.out⟩
  · refine .gT rfl rfl ?_
    refine .z (zfa fa_api_Space_0) ?_
    refine .gT rfl rfl ?_
    refine .y hs (zld Tryz.isAgg3) ?_
    refine .gT rfl rfl ?_
    refine .o (.call Tryz.call105 rfl (offsets_within_spec hs) ?_); rintro _ w ⟨rfl, hs⟩
    refine .gT rfl rfl ?_
    refine .z znot (.z zpF (.z zm ?_))
    refine .bif (t' := 21) rfl (fun hb21 => ?_) (fun hb21 => ?_)
    · refine .gFs 4 8 false rfl rfl rfl ?_
      refine .z zpT (.z zm ?_)
      refine .gFs 5 14 false rfl rfl rfl ?_
      refine .z zpT (.z zm ?_)
      refine .gFs 5 21 false rfl rfl rfl ?_
      refine .z zpT (.nil ?_)
      refine (.condT rfl rfl ?_)
      refine .regSeq (.z zg (.nil ?_))
      refine .ret (rT (Fin.ret1 Tryz.results41 rfl ?_))
      exact ⟨H1, _, hle1, rfl, .inr ⟨fun h => by have := h.id; simp_all, rfl⟩, hs.out⟩
    · refine .gT rfl rfl ?_
      refine .z (zfa fa_api_Space_1) ?_
      refine .gT rfl rfl ?_
      refine .y hs (zld Tryz.isAgg3) ?_
      refine .gT rfl rfl ?_
      refine .o (.call Tryz.call106 rfl (offsets_isSource_spec hs) ?_); rintro _ w ⟨rfl, hs⟩
      refine .gT rfl rfl ?_
      refine .z znot (.z zpF (.z zm ?_))
      refine .bif (t' := 27) rfl (fun hb27 => ?_) (fun hb27 => ?_)
      · refine .gFs 5 14 false rfl rfl rfl ?_
        refine .z zpT (.z zm ?_)
        refine .gFs 5 21 false rfl rfl rfl ?_
        refine .z zpT (.nil ?_)
        refine (.condT rfl rfl ?_)
        refine .regSeq (.z zg (.nil ?_))
        refine .ret (rT (Fin.ret1 Tryz.results41 rfl ?_))
        exact ⟨H1, _, hle1, rfl, .inr ⟨fun h => by have := h.src; simp_all, rfl⟩, hs.out⟩
      · refine .gT rfl rfl ?_
        refine .z (zfa fa_api_Space_4) ?_
        refine .gT rfl rfl ?_
        refine .z (zfa fa_api_Fair_0) ?_
        refine .gT rfl rfl ?_
        refine .y hs (zld Tryz.isAgg3) ?_
        refine .gT rfl rfl ?_
        refine .o (.call Tryz.call105 rfl (offsets_within_spec hs) ?_); rintro _ w ⟨rfl, hs⟩
        refine .gT rfl rfl ?_
        refine .z znot (.z zpF (.z zm ?_))
        refine .bif (t' := 34) rfl (fun hb34 => ?_) (fun hb34 => ?_)
        · refine .gFs 5 21 false rfl rfl rfl ?_
          refine .z zpT (.nil ?_)
          refine (.condT rfl rfl ?_)
          refine .regSeq (.z zg (.nil ?_))
          refine .ret (rT (Fin.ret1 Tryz.results41 rfl ?_))
          exact ⟨H1, _, hle1, rfl, .inr ⟨fun h => by have := h.al; simp_all, rfl⟩, hs.out⟩
        · refine .gT rfl rfl ?_
          refine .z (zfa fa_api_Space_4) ?_
          refine .gT rfl rfl ?_
          refine .z (zfa fa_api_Fair_1) ?_
          refine .gT rfl rfl ?_
          refine .y hs (zld Tryz.isAgg3) ?_
          refine .gT rfl rfl ?_
          refine .o (.call Tryz.call105 rfl (offsets_within_spec hs) ?_); rintro _ w ⟨rfl, hs⟩
          refine .gT rfl rfl ?_
          refine .z znot (.z zpF (.nil ?_))
          refine (.cond rfl (fun hc40 => ?_) (fun hc40 => ?_))
          · refine .regSeq (.z zg (.nil ?_))
            refine .ret (rT (Fin.ret1 Tryz.results41 rfl ?_))
            exact ⟨H1, _, hle1, rfl, .inr ⟨fun h => by have := h.up; simp_all, rfl⟩, hs.out⟩
          · refine .skip ?_
            refine nT ?_
            refine .regSeq (.z zg (.nil ?_))
            refine .ret (Fin.ret1 Tryz.results41 rfl ?_)
            have hg := hG' (by simp_all)
            exact ⟨H1, _, hle1, rfl, .inl ⟨⟨hg.1, hg.2, by simp_all, by simp_all, by simp_all, by simp_all⟩, rfl⟩, hs.out⟩
theorem offsets_isReading_spec {H : Heap} {w : World} {σ : List Ent} {s : Spc} {r : Rdg} {vst vwa : Value} (hs : St H w σ) (h1 : RI H vst s.st) (h2 : RI H vwa s.wa) :
    Cl Tryz.prog 107 [.agg #[I s.id, I s.src, vst, vwa, I s.al, I s.up], .agg #[I r.src, I r.st, I r.wa, I r.val, I r.tol, I r.tape, I r.day]] w fun v w' => ∃ b : Bool, v = .bool b ∧ (b = true ↔ RdgOk s r) ∧ St H w' σ := by
  obtain ⟨ast, cst, rfl⟩ := RI.shape h1
  obtain ⟨awa, cwa, rfl⟩ := RI.shape h2
  have l1 := (RI.len h1).2.2
  have l2 := (RI.len h2).2.2
  refine Cl.of Tryz.func107 rfl Tryz.ntmps107 (by simp) (args_cons (k := 0) rfl (args_cons (k := 1) rfl (args0))) ?_
  refine .regSeq ?_
  refine .o (.box hs rfl rfl ?_); intro b2 w hs
  refine .o (.box hs rfl rfl ?_); intro b3 w hs
  refine .z zg (.nil (.regSeq (.z (zfa fa_api_Reading_0) (.y hs (zld Tryz.isAgg3) ?_))))
  refine .o (.call Tryz.call106 rfl (offsets_isSource_spec hs) ?_); rintro _ w ⟨rfl, hs⟩
  refine .z zm ?_
  refine .bif (t' := 8) rfl (fun hb8 => ?_) (fun hb8 => ?_)
  · refine .gT rfl rfl ?_
    refine .z (zfa fa_api_Reading_1) ?_
    refine .gT rfl rfl ?_
    refine .y hs (zld Tryz.isAgg3) ?_
    refine .gT rfl rfl ?_
    refine .z (zfa fa_api_Space_2) ?_
    refine .gT rfl rfl ?_
    refine .y hs (zld Tryz.isAgg22) ?_
    refine .gT rfl rfl ?_
    refine .z (zlen Tryz.runUnderlying22) ?_
    refine .gT rfl rfl ?_
    refine .z zsub ?_
    refine .gT rfl rfl ?_
    refine .o (.call Tryz.call105 rfl (offsets_within_spec hs) ?_); rintro _ w ⟨rfl, hs⟩
    refine .z zpT (.z zm ?_)
    refine .bif (t' := 17) rfl (fun hb17 => ?_) (fun hb17 => ?_)
    · refine .gT rfl rfl ?_
      refine .z (zfa fa_api_Reading_2) ?_
      refine .gT rfl rfl ?_
      refine .y hs (zld Tryz.isAgg3) ?_
      refine .gT rfl rfl ?_
      refine .z (zfa fa_api_Space_3) ?_
      refine .gT rfl rfl ?_
      refine .y hs (zld Tryz.isAgg22) ?_
      refine .gT rfl rfl ?_
      refine .z (zlen Tryz.runUnderlying22) ?_
      refine .gT rfl rfl ?_
      refine .z zsub ?_
      refine .gT rfl rfl ?_
      refine .o (.call Tryz.call105 rfl (offsets_within_spec hs) ?_); rintro _ w ⟨rfl, hs⟩
      refine .z zpT (.z zm ?_)
      refine .bif (t' := 26) rfl (fun hb26 => ?_) (fun hb26 => ?_)
      · refine .gT rfl rfl ?_
        refine .z (zfa fa_api_Reading_4) ?_
        refine .gT rfl rfl ?_
        refine .y hs (zld Tryz.isAgg3) ?_
        refine .gT rfl rfl ?_
        refine .o (.call Tryz.call105 rfl (offsets_within_spec hs) ?_); rintro _ w ⟨rfl, hs⟩
        refine .z zpT (.z zm ?_)
        refine .bif (t' := 31) rfl (fun hb31 => ?_) (fun hb31 => ?_)
        · refine .gT rfl rfl ?_
          refine .z (zfa fa_api_Reading_3) ?_
          refine .gT rfl rfl ?_
          refine .y hs (zld Tryz.isAgg3) ?_
          refine .gT rfl rfl ?_
          refine .z (zfa fa_api_Reading_4) ?_
          refine .gT rfl rfl ?_
          refine .y hs (zld Tryz.isAgg3) ?_
          refine .gT rfl rfl ?_
          have ht : 0 ≤ r.tol ∧ r.tol ≤ 1000 := by simp_all
          refine .z zsub ?_
          refine .gT rfl rfl ?_
          refine .o (.call Tryz.call105 rfl (offsets_within_spec hs) ?_); rintro _ w ⟨rfl, hs⟩
          refine .z zpT (.z zm ?_)
          refine .bif (t' := 39) rfl (fun hb39 => ?_) (fun hb39 => ?_)
          · refine .gT rfl rfl ?_
            refine .z (zfa fa_api_Reading_5) ?_
            refine .gT rfl rfl ?_
            refine .y hs (zld Tryz.isAgg3) ?_
            refine .gT rfl rfl ?_
            refine .o (.call Tryz.call105 rfl (offsets_within_spec hs) ?_); rintro _ w ⟨rfl, hs⟩
            refine .z zpT (.z zm ?_)
            refine .bif (t' := 44) rfl (fun hb44 => ?_) (fun hb44 => ?_)
            · refine .gT rfl rfl ?_
              refine .z (zfa fa_api_Reading_6) ?_
              refine .gT rfl rfl ?_
              refine .y hs (zld Tryz.isAgg3) ?_
              refine .gT rfl rfl ?_
              refine .o (.call Tryz.call105 rfl (offsets_within_spec hs) ?_); rintro _ w ⟨rfl, hs⟩
              refine .z zpT (.z zg (.nil ?_))
              refine .ret (Fin.ret1 Tryz.results107 rfl ?_)
              first
              | exact ⟨false, rfl, ⟨fun h => (by cases h), fun h => (by obtain ⟨g1, g2, g3, g4, g5, g6, g7⟩ := h; simp_all; done)⟩, hs.out⟩
              | exact ⟨_, rfl, ⟨fun h => ⟨by simp_all, by simp_all, by simp_all, by simp_all, by simp_all, by simp_all, by simpa using h⟩, fun h => by simpa using h.day⟩, hs.out⟩
            · refine .gFs 3 39 true rfl rfl rfl ?_
              refine .z zpF (.z zg (.nil ?_))
              refine .ret (Fin.ret1 Tryz.results107 rfl ?_)
              first
              | exact ⟨false, rfl, ⟨fun h => (by cases h), fun h => (by obtain ⟨g1, g2, g3, g4, g5, g6, g7⟩ := h; simp_all; done)⟩, hs.out⟩
              | exact ⟨_, rfl, ⟨fun h => ⟨by simp_all, by simp_all, by simp_all, by simp_all, by simp_all, by simp_all, by simpa using h⟩, fun h => by simpa using h.day⟩, hs.out⟩
          · refine .gFs 3 34 true rfl rfl rfl ?_
            refine .z zpF (.z zm ?_)
            refine .gFs 3 39 true rfl rfl rfl ?_
            refine .z zpF (.z zg (.nil ?_))
            refine .ret (Fin.ret1 Tryz.results107 rfl ?_)
            first
            | exact ⟨false, rfl, ⟨fun h => (by cases h), fun h => (by obtain ⟨g1, g2, g3, g4, g5, g6, g7⟩ := h; simp_all; done)⟩, hs.out⟩
            | exact ⟨_, rfl, ⟨fun h => ⟨by simp_all, by simp_all, by simp_all, by simp_all, by simp_all, by simp_all, by simpa using h⟩, fun h => by simpa using h.day⟩, hs.out⟩
        · refine .gFs 6 26 true rfl rfl rfl ?_
          refine .z zpF (.z zm ?_)
          refine .gFs 3 34 true rfl rfl rfl ?_
          refine .z zpF (.z zm ?_)
          refine .gFs 3 39 true rfl rfl rfl ?_
          refine .z zpF (.z zg (.nil ?_))
          refine .ret (Fin.ret1 Tryz.results107 rfl ?_)
          first
          | exact ⟨false, rfl, ⟨fun h => (by cases h), fun h => (by obtain ⟨g1, g2, g3, g4, g5, g6, g7⟩ := h; simp_all; done)⟩, hs.out⟩
          | exact ⟨_, rfl, ⟨fun h => ⟨by simp_all, by simp_all, by simp_all, by simp_all, by simp_all, by simp_all, by simpa using h⟩, fun h => by simpa using h.day⟩, hs.out⟩
      · refine .gFs 3 21 true rfl rfl rfl ?_
        refine .z zpF (.z zm ?_)
        refine .gFs 6 26 true rfl rfl rfl ?_
        refine .z zpF (.z zm ?_)
        refine .gFs 3 34 true rfl rfl rfl ?_
        refine .z zpF (.z zm ?_)
        refine .gFs 3 39 true rfl rfl rfl ?_
        refine .z zpF (.z zg (.nil ?_))
        refine .ret (Fin.ret1 Tryz.results107 rfl ?_)
        first
        | exact ⟨false, rfl, ⟨fun h => (by cases h), fun h => (by obtain ⟨g1, g2, g3, g4, g5, g6, g7⟩ := h; simp_all; done)⟩, hs.out⟩
        | exact ⟨_, rfl, ⟨fun h => ⟨by simp_all, by simp_all, by simp_all, by simp_all, by simp_all, by simp_all, by simpa using h⟩, fun h => by simpa using h.day⟩, hs.out⟩
    · refine .gFs 7 12 true rfl rfl rfl ?_
      refine .z zpF (.z zm ?_)
      refine .gFs 3 21 true rfl rfl rfl ?_
      refine .z zpF (.z zm ?_)
      refine .gFs 6 26 true rfl rfl rfl ?_
      refine .z zpF (.z zm ?_)
      refine .gFs 3 34 true rfl rfl rfl ?_
      refine .z zpF (.z zm ?_)
      refine .gFs 3 39 true rfl rfl rfl ?_
      refine .z zpF (.z zg (.nil ?_))
      refine .ret (Fin.ret1 Tryz.results107 rfl ?_)
      first
      | exact ⟨false, rfl, ⟨fun h => (by cases h), fun h => (by obtain ⟨g1, g2, g3, g4, g5, g6, g7⟩ := h; simp_all; done)⟩, hs.out⟩
      | exact ⟨_, rfl, ⟨fun h => ⟨by simp_all, by simp_all, by simp_all, by simp_all, by simp_all, by simp_all, by simpa using h⟩, fun h => by simpa using h.day⟩, hs.out⟩
  · refine .gFs 7 3 true rfl rfl rfl ?_
    refine .z zpF (.z zm ?_)
    refine .gFs 7 12 true rfl rfl rfl ?_
    refine .z zpF (.z zm ?_)
    refine .gFs 3 21 true rfl rfl rfl ?_
    refine .z zpF (.z zm ?_)
    refine .gFs 6 26 true rfl rfl rfl ?_
    refine .z zpF (.z zm ?_)
    refine .gFs 3 34 true rfl rfl rfl ?_
    refine .z zpF (.z zm ?_)
    refine .gFs 3 39 true rfl rfl rfl ?_
    refine .z zpF (.z zg (.nil ?_))
    refine .ret (Fin.ret1 Tryz.results107 rfl ?_)
    first
    | exact ⟨false, rfl, ⟨fun h => (by cases h), fun h => (by obtain ⟨g1, g2, g3, g4, g5, g6, g7⟩ := h; simp_all; done)⟩, hs.out⟩
    | exact ⟨_, rfl, ⟨fun h => ⟨by simp_all, by simp_all, by simp_all, by simp_all, by simp_all, by simp_all, by simpa using h⟩, fun h => by simpa using h.day⟩, hs.out⟩
theorem offsets_isCompare_spec {H : Heap} {w : World} {σ : List Ent} {c : Cmp} (hs : St H w σ) :
    Cl Tryz.prog 108 [.agg #[I c.src, I c.tape, I c.fr, I c.to, I c.lo, I c.hi]] w fun v w' => ∃ b : Bool, v = .bool b ∧ (b = true ↔ CmpOk c) ∧ St H w' σ := by
  refine Cl.of Tryz.func108 rfl Tryz.ntmps108 (by simp) (args_cons (k := 0) rfl (args0)) ?_
  refine .regSeq ?_
  refine .o (.box hs rfl rfl ?_); intro b1 w hs
  refine .z zg (.nil (.regSeq (.z (zfa fa_api_Compare_0) (.y hs (zld Tryz.isAgg3) ?_))))
  refine .o (.call Tryz.call106 rfl (offsets_isSource_spec hs) ?_); rintro _ w ⟨rfl, hs⟩
  refine .z zm ?_
  refine .bif (t' := 6) rfl (fun hb6 => ?_) (fun hb6 => ?_)
  · refine .gT rfl rfl ?_
    refine .z (zfa fa_api_Compare_1) ?_
    refine .gT rfl rfl ?_
    refine .y hs (zld Tryz.isAgg3) ?_
    refine .gT rfl rfl ?_
    refine .o (.call Tryz.call105 rfl (offsets_within_spec hs) ?_); rintro _ w ⟨rfl, hs⟩
    refine .z zpT (.z zm ?_)
    refine .bif (t' := 11) rfl (fun hb11 => ?_) (fun hb11 => ?_)
    · refine .gT rfl rfl ?_
      refine .z (zfa fa_api_Compare_2) ?_
      refine .gT rfl rfl ?_
      refine .y hs (zld Tryz.isAgg3) ?_
      refine .gT rfl rfl ?_
      refine .z (zfa fa_api_Compare_3) ?_
      refine .gT rfl rfl ?_
      refine .y hs (zld Tryz.isAgg3) ?_
      refine .gT rfl rfl ?_
      refine .o (.call Tryz.call105 rfl (offsets_within_spec hs) ?_); rintro _ w ⟨rfl, hs⟩
      refine .z zpT (.z zm ?_)
      refine .bif (t' := 18) rfl (fun hb18 => ?_) (fun hb18 => ?_)
      · refine .gT rfl rfl ?_
        refine .z (zfa fa_api_Compare_3) ?_
        refine .gT rfl rfl ?_
        refine .y hs (zld Tryz.isAgg3) ?_
        refine .gT rfl rfl ?_
        refine .o (.call Tryz.call105 rfl (offsets_within_spec hs) ?_); rintro _ w ⟨rfl, hs⟩
        refine .z zpT (.z zm ?_)
        refine .bif (t' := 23) rfl (fun hb23 => ?_) (fun hb23 => ?_)
        · refine .gT rfl rfl ?_
          refine .z (zfa fa_api_Compare_4) ?_
          refine .gT rfl rfl ?_
          refine .y hs (zld Tryz.isAgg3) ?_
          refine .gT rfl rfl ?_
          refine .z (zfa fa_api_Compare_5) ?_
          refine .gT rfl rfl ?_
          refine .y hs (zld Tryz.isAgg3) ?_
          refine .gT rfl rfl ?_
          refine .o (.call Tryz.call105 rfl (offsets_within_spec hs) ?_); rintro _ w ⟨rfl, hs⟩
          refine .z zpT (.z zm ?_)
          refine .bif (t' := 30) rfl (fun hb30 => ?_) (fun hb30 => ?_)
          · refine .gT rfl rfl ?_
            refine .z (zfa fa_api_Compare_5) ?_
            refine .gT rfl rfl ?_
            refine .y hs (zld Tryz.isAgg3) ?_
            refine .gT rfl rfl ?_
            refine .o (.call Tryz.call105 rfl (offsets_within_spec hs) ?_); rintro _ w ⟨rfl, hs⟩
            refine .z zpT (.z zg (.nil ?_))
            refine .ret (Fin.ret1 Tryz.results108 rfl ?_)
            first
            | exact ⟨false, rfl, ⟨fun h => (by cases h), fun h => (by obtain ⟨g1, g2, g3, g4, g5, g6⟩ := h; simp_all; omega)⟩, hs.out⟩
            | exact ⟨false, rfl, ⟨fun h => (by cases h), fun h => (by obtain ⟨g1, g2, g3, g4, g5, g6⟩ := h; simp_all; done)⟩, hs.out⟩
            | exact ⟨_, rfl, ⟨fun h => ⟨by simp_all, by simp_all, by simp_all, by simp_all, by simp_all, (by simpa using h : _ ∧ _).2⟩, fun h => by have := h.lo; have := h.hi; simp; omega⟩, hs.out⟩
          · refine .gFs 3 27 true rfl rfl rfl ?_
            refine .z zpF (.z zg (.nil ?_))
            refine .ret (Fin.ret1 Tryz.results108 rfl ?_)
            first
            | exact ⟨false, rfl, ⟨fun h => (by cases h), fun h => (by obtain ⟨g1, g2, g3, g4, g5, g6⟩ := h; simp_all; omega)⟩, hs.out⟩
            | exact ⟨false, rfl, ⟨fun h => (by cases h), fun h => (by obtain ⟨g1, g2, g3, g4, g5, g6⟩ := h; simp_all; done)⟩, hs.out⟩
            | exact ⟨_, rfl, ⟨fun h => ⟨by simp_all, by simp_all, by simp_all, by simp_all, by simp_all, (by simpa using h : _ ∧ _).2⟩, fun h => by have := h.lo; have := h.hi; simp; omega⟩, hs.out⟩
        · refine .gFs 5 20 true rfl rfl rfl ?_
          refine .z zpF (.z zm ?_)
          refine .gFs 3 27 true rfl rfl rfl ?_
          refine .z zpF (.z zg (.nil ?_))
          refine .ret (Fin.ret1 Tryz.results108 rfl ?_)
          first
          | exact ⟨false, rfl, ⟨fun h => (by cases h), fun h => (by obtain ⟨g1, g2, g3, g4, g5, g6⟩ := h; simp_all; omega)⟩, hs.out⟩
          | exact ⟨false, rfl, ⟨fun h => (by cases h), fun h => (by obtain ⟨g1, g2, g3, g4, g5, g6⟩ := h; simp_all; done)⟩, hs.out⟩
          | exact ⟨_, rfl, ⟨fun h => ⟨by simp_all, by simp_all, by simp_all, by simp_all, by simp_all, (by simpa using h : _ ∧ _).2⟩, fun h => by have := h.lo; have := h.hi; simp; omega⟩, hs.out⟩
      · refine .gFs 3 15 true rfl rfl rfl ?_
        refine .z zpF (.z zm ?_)
        refine .gFs 5 20 true rfl rfl rfl ?_
        refine .z zpF (.z zm ?_)
        refine .gFs 3 27 true rfl rfl rfl ?_
        refine .z zpF (.z zg (.nil ?_))
        refine .ret (Fin.ret1 Tryz.results108 rfl ?_)
        first
        | exact ⟨false, rfl, ⟨fun h => (by cases h), fun h => (by obtain ⟨g1, g2, g3, g4, g5, g6⟩ := h; simp_all; omega)⟩, hs.out⟩
        | exact ⟨false, rfl, ⟨fun h => (by cases h), fun h => (by obtain ⟨g1, g2, g3, g4, g5, g6⟩ := h; simp_all; done)⟩, hs.out⟩
        | exact ⟨_, rfl, ⟨fun h => ⟨by simp_all, by simp_all, by simp_all, by simp_all, by simp_all, (by simpa using h : _ ∧ _).2⟩, fun h => by have := h.lo; have := h.hi; simp; omega⟩, hs.out⟩
    · refine .gFs 5 8 true rfl rfl rfl ?_
      refine .z zpF (.z zm ?_)
      refine .gFs 3 15 true rfl rfl rfl ?_
      refine .z zpF (.z zm ?_)
      refine .gFs 5 20 true rfl rfl rfl ?_
      refine .z zpF (.z zm ?_)
      refine .gFs 3 27 true rfl rfl rfl ?_
      refine .z zpF (.z zg (.nil ?_))
      refine .ret (Fin.ret1 Tryz.results108 rfl ?_)
      first
      | exact ⟨false, rfl, ⟨fun h => (by cases h), fun h => (by obtain ⟨g1, g2, g3, g4, g5, g6⟩ := h; simp_all; omega)⟩, hs.out⟩
      | exact ⟨false, rfl, ⟨fun h => (by cases h), fun h => (by obtain ⟨g1, g2, g3, g4, g5, g6⟩ := h; simp_all; done)⟩, hs.out⟩
      | exact ⟨_, rfl, ⟨fun h => ⟨by simp_all, by simp_all, by simp_all, by simp_all, by simp_all, (by simpa using h : _ ∧ _).2⟩, fun h => by have := h.lo; have := h.hi; simp; omega⟩, hs.out⟩
  · refine .gFs 3 3 true rfl rfl rfl ?_
    refine .z zpF (.z zm ?_)
    refine .gFs 5 8 true rfl rfl rfl ?_
    refine .z zpF (.z zm ?_)
    refine .gFs 3 15 true rfl rfl rfl ?_
    refine .z zpF (.z zm ?_)
    refine .gFs 5 20 true rfl rfl rfl ?_
    refine .z zpF (.z zm ?_)
    refine .gFs 3 27 true rfl rfl rfl ?_
    refine .z zpF (.z zg (.nil ?_))
    refine .ret (Fin.ret1 Tryz.results108 rfl ?_)
    first
    | exact ⟨false, rfl, ⟨fun h => (by cases h), fun h => (by obtain ⟨g1, g2, g3, g4, g5, g6⟩ := h; simp_all; omega)⟩, hs.out⟩
    | exact ⟨false, rfl, ⟨fun h => (by cases h), fun h => (by obtain ⟨g1, g2, g3, g4, g5, g6⟩ := h; simp_all; done)⟩, hs.out⟩
    | exact ⟨_, rfl, ⟨fun h => ⟨by simp_all, by simp_all, by simp_all, by simp_all, by simp_all, (by simpa using h : _ ∧ _).2⟩, fun h => by have := h.lo; have := h.hi; simp; omega⟩, hs.out⟩
theorem offsets_many_spec {H : Heap} {w : World} {σ : List Ent} {s : Spc} {vst vwa : Value} (hs : St H w σ) (h1 : RI H vst s.st) (h2 : RI H vwa s.wa) (hb : s.st.length ≤ 1000 ∧ s.wa.length ≤ 1000) :
    Cl Tryz.prog 91 [.agg #[I s.id, I s.src, vst, vwa, I s.al, I s.up]] w fun v w' => v = I (s.many : Int) ∧ St H w' σ := by
  obtain ⟨ast, cst, rfl⟩ := RI.shape h1
  obtain ⟨awa, cwa, rfl⟩ := RI.shape h2
  have hm := mul_bd (a := (s.st.length : Int)) (b := (s.wa.length : Int)) (A := 1000) (B := 1000) (by omega) (by omega)
  refine Cl.of Tryz.func91 rfl Tryz.ntmps91 (by simp) (args_cons (k := 0) rfl (args0)) ?_
  refine .regSeq ?_
  refine .o (.box hs rfl rfl ?_); intro b1 w hs
  refine .z zg (.nil (.regSeq (.z (zfa fa_api_Space_2) (.y hs (zld Tryz.isAgg22) (.z (zlen Tryz.runUnderlying22) (.z (zfa fa_api_Space_3) (.y hs (zld Tryz.isAgg22) (.z (zlen Tryz.runUnderlying22) (.z zmul ?_)))))))))
  refine .z zg (.nil ?_)
  refine .ret (Fin.ret1 Tryz.results91 rfl ?_)
  exact ⟨by unfold Spc.many; rw [Int.natCast_mul], hs.out⟩
theorem offsets_unknown_spec {H : Heap} {w : World} {σ : List Ent} {s : Spc} {vst vwa : Value} {a b : Int} (hs : St H w σ) (h2 : RI H vwa s.wa) (hb : s.wa.length ≤ 1000) (ha : -1000 ≤ a ∧ a ≤ 1000) (hb' : -1000 ≤ b ∧ b ≤ 1000) :
    Cl Tryz.prog 118 [.agg #[I s.id, I s.src, vst, vwa, I s.al, I s.up], I a, I b] w fun v w' => v = I (1 + a * s.wa.length + b) ∧ St H w' σ := by
  obtain ⟨awa, cwa, rfl⟩ := RI.shape h2
  have hm := mul_bd (a := a) (b := (s.wa.length : Int)) (A := 1000) (B := 1000) (by omega) (by omega)
  refine Cl.of Tryz.func118 rfl Tryz.ntmps118 (by simp) (args_cons (k := 0) rfl (args_cons (k := 1) rfl (args_cons (k := 2) rfl (args0)))) ?_
  refine .regSeq ?_
  refine .o (.box hs rfl rfl ?_); intro b3 w hs
  refine .z zg (.nil (.regSeq (.z zm (.z (zfa fa_api_Space_3) (.y hs (zld Tryz.isAgg22) (.z (zlen Tryz.runUnderlying22) (.z zmul (.z zadd (.z zm ?_)))))))))
  refine .z zadd (.z zg (.nil ?_))
  refine .ret (Fin.ret1 Tryz.results118 rfl ?_)
  exact ⟨rfl, hs.out⟩
theorem offsets_tapeOf_spec {H : Heap} {w : World} {σ : List Ent} {r : Rdg} (hs : St H w σ) :
    Cl Tryz.prog 114 [.agg #[I r.src, I r.st, I r.wa, I r.val, I r.tol, I r.tape, I r.day]] w fun v w' => v = .agg #[I r.tape, I r.day] ∧ St H w' σ := by
  refine Cl.of Tryz.func114 rfl Tryz.ntmps114 (by simp) (args_cons (k := 0) rfl (args0)) ?_
  refine .regSeq ?_
  refine .o (.box hs rfl rfl ?_); intro b1 w hs
  refine .o (.alloc hs Tryz.zeroValue49 rfl ?_); intro b2 w hs
  refine .nil (.regSeq (.z (zfa fa_api_Reading_5) (.y hs (zld Tryz.isAgg3) (.z (zfa fa_api_Reading_6) (.y hs (zld Tryz.isAgg3) (.z (zbd [_, _] bld_api_TapeDay) ?_))))))
  refine .o (.stores (vs := [_, _]) hs rfl rfl Tryz.sizeOf49 ?_); intro w hs
  refine .nil ?_
  refine .ret ?_
  exact Fin.retD [] [] hs fun w hs => ⟨_, results1 Tryz.results114 (rcells (vs := [_, _]) hs rfl Tryz.isAgg49 Tryz.sizeOf49), rfl, hs.out⟩
theorem offsets_fair_spec {H : Heap} {w : World} {σ : List Ent} {a b : Int} (hs : St H w σ) (ha : 0 ≤ a ∧ a ≤ 100000) (hb : 0 ≤ b ∧ b ≤ 100000) :
    Cl Tryz.prog 230 [I a, I b] w fun v w' => v = I (fairI a b) ∧ St H w' σ := by
  have hm := mul_bd (a := a) (b := b) (A := 100000) (B := 100000) (by omega) (by omega)
  have h0 := Int.mul_nonneg ha.1 hb.1
  have hq0 : 0 ≤ (a * b + 999).tdiv 1000 := Int.tdiv_nonneg (by omega) (by omega)
  have hq1 : (a * b + 999).tdiv 1000 ≤ a * b + 999 := by rw [Int.tdiv_eq_ediv_of_nonneg (by omega)]; omega
  refine Cl.of Tryz.func230 rfl Tryz.ntmps230 (by simp) (args_cons (k := 0) rfl (args_cons (k := 1) rfl (args0))) ?_
  refine .regSeq (.z zg (.nil (.regSeq (.z zm (.z zm (.z zmul (.z zadd ?_)))))))
  refine .q hs (q_quoF rfl rfl (by omega) (by omega)) ?_
  refine .z zmin (.z zg (.nil ?_))
  refine .ret (Fin.ret1 Tryz.results230 rfl ?_)
  exact ⟨rfl, hs⟩
def allV (s : Spc) : List (List Value) := (List.range s.many).map fun p => [Value.agg #[I ((p / s.wa.length : Nat) : Int), I ((p % s.wa.length : Nat) : Int), I ((p + 1 : Nat) : Int)]]
theorem allV_length (s : Spc) : (allV s).length = s.many := by simp [allV]
theorem allV_get {s : Spc} {p : Nat} (h : p < (allV s).length) : (allV s)[p] = [Value.agg #[I ((p / s.wa.length : Nat) : Int), I ((p % s.wa.length : Nat) : Int), I ((p + 1 : Nat) : Int)]] := by simp [allV]
theorem offsets_all_1_iter {H : Heap} {b : Nat} {s : Spc} {vst vwa : Value} (hb : Row H b [I s.id, I s.src, vst, vwa, I s.al, I s.up]) (h1 : RI H vst s.st) (h2 : RI H vwa s.wa) (hbd : s.st.length ≤ 1000 ∧ s.wa.length ≤ 1000) :
    Iter Tryz.prog 190 [.pointer (some ⟨b, 0, none⟩)] H (allV s) := by
  intro ly II Ix hmI _ hy H0 σb0 σf w hle hI0 hs
  obtain ⟨ast, cst, rfl⟩ := RI.shape h1
  obtain ⟨awa, cwa, rfl⟩ := RI.shape h2
  have g2 : cellAt H0 b 2 = some (.slice ast s.st.length cst) := cellAt.mono (hb.at 2) hle
  have g3 : cellAt H0 b 3 = some (.slice awa s.wa.length cwa) := cellAt.mono (hb.at 3) hle
  have hm : s.many ≤ 1000000 := Nat.mul_le_mul hbd.1 hbd.2
  refine Cl.of Tryz.func190 rfl Tryz.ntmps190 (by simp) (args_cons (k := 0) rfl (args_cons (k := 1) rfl (args0))) ?_
  refine .regSeq (.z zg (.nil (.regSeq (.z (zfa fa_api_Space_2) (.y hs (zld Tryz.isAgg22) (.z (zlen Tryz.runUnderlying22) (.z zm (.nil ?_))))))))
  refine .for (N := s.st.length) (J := fun i fr w => fr = [(3, I ((i * s.wa.length : Nat) : Int)), (0, .func (.yield ly) #[] #[]), (1, .pointer (some ⟨b, 0, none⟩))] ∧ ∃ H1 σb, HLe H H1 ∧ HLe H0 H1 ∧ II (i * s.wa.length) H1 σb ∧ St H1 w (σb ++ σf)) (by omega) ?_ ?_ ?_
  · exact .mk ⟨by rw [Nat.zero_mul], H0, σb0, hle, HLe.refl _, by rw [Nat.zero_mul]; exact hI0, hs⟩
  · rintro i fr w hi ⟨rfl, H1, σb, hle1, hle0, hI, hs⟩
    have h23 := cellAt.mono g3 hle0
    refine .block (.regSeq (.z zm (.z zg (.nil (.regSeq (.z (zfa fa_api_Space_3) (.y hs (zld Tryz.isAgg22) (.z (zlen Tryz.runUnderlying22) (.z zm ?_)))))))))
    refine .nil ?_
    refine .for (N := s.wa.length) (J := fun k fr w => fr = [(3, I ((i * s.wa.length + k : Nat) : Int)), (4, I (i : Int)), (9, I (i : Int)), (8, I (s.st.length : Int)), (0, .func (.yield ly) #[] #[]), (1, .pointer (some ⟨b, 0, none⟩))] ∧ ∃ H3 σb, HLe H1 H3 ∧ II (i * s.wa.length + k) H3 σb ∧ St H3 w (σb ++ σf)) (by omega) ?_ ?_ ?_
    · exact .mk ⟨rfl, H1, σb, HLe.refl _, hI, hs⟩
    · rintro k fr w hk ⟨rfl, H3, σb3, hle3, hI3, hs⟩
      obtain ⟨d1, d2⟩ := uidx (nw := s.wa.length) (i := i) (k := k) hk
      have hlt := u_lt hi hk
      refine .block (.regSeq (.z zm (.z zg (.nil (.regSeq (.z zm (.z zadd (.z zg (.nil ?_)))))))))
      refine .regSeq (.z zm (.z zm (.z zm (.z zm (.z (zbd [_, _, _] bld_offsets_offset) ?_)))))
      have hk' : i * s.wa.length + k < (allV s).length := by rw [allV_length]; exact hlt
      have hyd := hy (i * s.wa.length + k) hk' H3 σb3 σf w (hle1.trans hle3) hI3 hs
      rw [allV_get hk', d1, d2, show ((i * s.wa.length + k + 1 : Nat) : Int) = ((i * s.wa.length + k : Nat) : Int) + 1 by omega] at hyd
      refine .o (.yield rfl rfl hyd ?_); rintro v25 w ⟨H5, σ5, g1, hs, g3'⟩
      obtain ⟨bb, rfl, gT, gF⟩ := yd_bool g3'
      refine .z znot (.nil ?_)
      refine (.cond rfl (fun hc26 => ?_) (fun hc26 => ?_))
      · refine .ret (rB (rT (rB (rB (rT (rB (Fin.ret0 Tryz.results190 ?_)))))))
        exact ⟨H5, σ5, hle0.trans (hle3.trans g1), hs, .inr (gF (by simpa using hc26))⟩
      · refine .skip ?_
        refine nB (nT ?_)
        exact .mk ⟨rfl, H5, σ5, hle3.trans g1, gT (by simpa using hc26), hs⟩
    · rintro fr w ⟨rfl, H3, σb3, hle3, hI3, hs⟩
      have e : i * s.wa.length + s.wa.length = (i + 1) * s.wa.length := by rw [Nat.add_mul, Nat.one_mul]
      rw [e] at hI3 ⊢
      refine nB (nT ?_)
      exact .mk ⟨rfl, H3, σb3, hle1.trans hle3, hle0.trans hle3, hI3, hs⟩
  · rintro fr w ⟨rfl, H1, σb, hle1, hle0, hI, hs⟩
    exact Fin.end0 Tryz.results190 ⟨H1, σb, hle0, hs, .inl (by rw [allV_length]; exact hI)⟩
theorem offsets_all_spec {H : Heap} {w : World} {σ : List Ent} {s : Spc} {vst vwa : Value} (hs : St H w σ) (h1 : RI H vst s.st) (h2 : RI H vwa s.wa) (hbd : s.st.length ≤ 1000 ∧ s.wa.length ≤ 1000) :
    Cl Tryz.prog 103 [.agg #[I s.id, I s.src, vst, vwa, I s.al, I s.up]] w fun u w' => ∃ H1 b, HLe H H1 ∧ u = .func (.func 190) #[] #[.pointer (some ⟨b, 0, none⟩)] ∧ Iter Tryz.prog 190 [.pointer (some ⟨b, 0, none⟩)] H1 (allV s) ∧ St H1 w' σ := by
  obtain ⟨ast, cst, rfl⟩ := RI.shape h1
  obtain ⟨awa, cwa, rfl⟩ := RI.shape h2
  refine Cl.of Tryz.func103 rfl Tryz.ntmps103 (by simp) (args_cons (k := 0) rfl (args0)) ?_
  refine .regSeq ?_
  refine .o (.box hs rfl rfl ?_); intro b1 w hs
  refine .z zg (.nil (.regSeq ?_))
  refine .q hs (q_makeFunc (f := []) (c := [_]) rfl rfl) ?_
  refine .z zg (.nil ?_)
  refine .ret (Fin.ret1 Tryz.results103 rfl ?_)
  obtain ⟨H1, g1, g2, hs⟩ := hs.publish .here
  exact ⟨H1, b1, g1, rfl, offsets_all_1_iter g2 (h1.mono g1) (h2.mono g1) hbd, hs⟩
end Go.Proofs.YtddaejgfjlneoaaGreat

namespace Go.Proofs.YtddaejgfjlneoaaGreat
open Go.MW
set_option maxRecDepth 100000 in
theorem td_stood : Tryz.prog.stoodInHeld 49 = false := by kernel_rfl
set_option maxRecDepth 100000 in
theorem td_guard : Tryz.prog.eqGuardType Tryz.prog.depth 49 = false := by kernel_rfl
theorem slices_IndexFunc_td {H : Heap} {w : World} {σ : List Ent} {v : Value} {en : Ent} {xs : List TD} {g : Nat} {cap : List Value} (q : TD → Bool) (hs : St H w (en :: σ)) (hO : OwnS 2 v (tdc xs).flatten en) (hl : xs.length ≤ 1000000) (hc : ∀ args w, (callFunc g args).run Tryz.prog w = .ok (.enter g args) w)
    (hp : ∀ w (t : TD), St H w (en :: σ) → Cl Tryz.prog g ([.agg #[I t.tape, I t.day]] ++ cap) w fun u w' => u = .bool (q t) ∧ St H w' (en :: σ)) :
    Cl Tryz.prog 229 [v, .func (.func g) #[] cap.toArray] w fun u w' => ∃ i : Int, u = I i ∧ (0 ≤ i ↔ ∃ x ∈ xs, q x = true) ∧ St H w' (en :: σ) := by
  obtain ⟨a, c, rfl⟩ := hO.shapeX (tdc_2 xs) (by omega)
  rw [tdc_length] at hO ⊢
  refine Cl.of Tryz.func229 rfl Tryz.ntmps229 (by simp) (args_cons (k := 0) rfl (args_cons (k := 1) rfl (args0))) ?_
  refine .regSeq (.z zg (.nil (.seq (.regSeq (.z zm (.z (zlen Tryz.runUnderlying51) (.z zm (.nil ?_))))))))
  refine .for (N := xs.length) (J := fun k fr w => fr = [(1, .func (.func g) #[] cap.toArray), (0, .slice a xs.length c)] ∧ (∀ j < k, ∀ y, xs[j]? = some y → ¬ q y = true) ∧ St H w (en :: σ)) (by omega) ?_ ?_ ?_
  · exact .mk ⟨rfl, fun j hj => by omega, hs⟩
  · rintro k fr w hk ⟨rfl, hno, hs⟩
    obtain ⟨x, hx⟩ := nth hk
    obtain ⟨b, c', sp, hv, rfl, _⟩ := hO.blkX (tdc_2 xs) (by omega) (by rw [tdc_length]; omega)
    rw [tdc_length] at hv
    cases hv
    refine .block (.regSeq (.z zm (.z zg (.nil (.regSeq (.z zm (.z zm (.z zm (.z (zixm Tryz.runUnderlying51 Tryz.sizeOf49) ?_)))))))))
    refine .q hs (q_loads (vs := x.c) rfl Tryz.isAgg49 Tryz.sizeOf49 .here (own_at (tdc_2 xs) (tdc_get hx) sp)) ?_
    refine .o (.callG (first := []) (cap := cap) rfl rfl hc (hp _ x hs) ?_); rintro _ w ⟨rfl, hs⟩
    refine .nil ?_
    refine (.cond rfl (fun hc16 => ?_) (fun hc16 => ?_))
    · refine .regSeq (.z zm (.z zg (.nil ?_)))
      refine .ret (rB (rT (rB (rT (Fin.ret1 Tryz.results229 rfl ?_)))))
      exact ⟨_, rfl, ⟨fun _ => ⟨x, List.mem_of_getElem? hx, hc16⟩, fun _ => by omega⟩, hs⟩
    · refine .skip ?_
      refine nB (nT ?_)
      exact .mk ⟨rfl, upto_succ hno hx (by simpa using hc16), hs⟩
  · rintro fr w ⟨rfl, hno, hs⟩
    refine nT ?_
    refine .regSeq (.z zg (.nil ?_))
    refine .ret (Fin.ret1 Tryz.results229 rfl ?_)
    exact ⟨_, rfl, ⟨fun h => by omega, fun ⟨x, h1, h2⟩ => by
      obtain ⟨j, hj⟩ := List.getElem?_of_mem h1
      exact (hno j (List.getElem?_eq_some_iff.1 hj).1 x hj h2).elim⟩, hs⟩
theorem slices_ContainsFunc_td {H : Heap} {w : World} {σ : List Ent} {v : Value} {en : Ent} {xs : List TD} {g : Nat} {cap : List Value} (q : TD → Bool) (hs : St H w (en :: σ)) (hO : OwnS 2 v (tdc xs).flatten en) (hl : xs.length ≤ 1000000) (hc : ∀ args w, (callFunc g args).run Tryz.prog w = .ok (.enter g args) w)
    (hp : ∀ w (t : TD), St H w (en :: σ) → Cl Tryz.prog g ([.agg #[I t.tape, I t.day]] ++ cap) w fun u w' => u = .bool (q t) ∧ St H w' (en :: σ)) :
    Cl Tryz.prog 172 [v, .func (.func g) #[] cap.toArray] w fun u w' => ∃ b : Bool, u = .bool b ∧ (b = true ↔ ∃ x ∈ xs, q x = true) ∧ St H w' (en :: σ) := by
  refine Cl.of Tryz.func172 rfl Tryz.ntmps172 (by simp) (args_cons (k := 0) rfl (args_cons (k := 1) rfl (args0))) ?_
  refine .regSeq (.z zg (.nil (.regSeq (.z zm (.z zm ?_)))))
  refine .o (.call Tryz.call229 rfl (slices_IndexFunc_td q hs hO hl hc hp) ?_); rintro _ w ⟨i, rfl, hi, hs⟩
  refine .z zgeq (.z zg (.nil ?_))
  refine .ret (Fin.ret1 Tryz.results172 rfl ?_)
  exact ⟨_, rfl, by simp only [decide_eq_true_eq]; exact hi, hs⟩
theorem slices_Index_td {H : Heap} {w : World} {σ : List Ent} {v : Value} {xs : List TD} {t : TD} (hs : St H w σ) (hr : RTd H v xs) (hl : xs.length ≤ 1000000) :
    Cl Tryz.prog 89 [v, .agg #[I t.tape, I t.day]] w fun u w' => u = I (tdIdx xs t) ∧ St H w' σ := by
  obtain ⟨a, c, rfl⟩ := RTd.shape hr
  refine Cl.of Tryz.func89 rfl Tryz.ntmps89 (by simp) (args_cons (k := 0) rfl (args_cons (k := 1) rfl (args0))) ?_
  refine .regSeq ?_
  refine .o (.box hs rfl rfl ?_); intro b3 w hs
  refine .z zg (.nil (.seq (.regSeq (.z zm (.z (zlen Tryz.runUnderlying51) (.z zm (.nil ?_)))))))
  refine .for (N := xs.length) (J := fun k fr w => fr = [(0, .slice a xs.length c), (3, .pointer (some ⟨b3, 0, none⟩))] ∧ (∀ j < k, ∀ y, xs[j]? = some y → ¬ y = t) ∧ St H w (.blk b3 [I t.tape, I t.day] :: σ)) (by omega) ?_ ?_ ?_
  · exact .mk ⟨rfl, fun j hj => by omega, hs⟩
  · rintro k fr w hk ⟨rfl, hno, hs⟩
    obtain ⟨x, hx⟩ := nth hk
    refine .block (.regSeq (.z zm (.z zg (.nil ?_))))
    refine .seq (.draw mix rfl hs ?_); intro w hs
    refine .ys 0 rfl hs [_, _] Tryz.isAgg49 Tryz.sizeOf49 ?_; refine .z 1 rfl zm ?_; refine .z 2 rfl zm ?_
    refine .ixX (enc := TD.c) (i := 3) hs rfl (by kernel_rfl) .none hr rfl rfl Tryz.runUnderlying51 Tryz.sizeOf49 hx (by first | rfl | assumption | omega) ?_; intro b14 o14 hc14
    refine .r (i := 4) hs rfl (by kernel_rfl) .none (q_loadsR (vs := x.c) rfl Tryz.isAgg49 Tryz.sizeOf49 hc14) ?_
    refine .p (i := 5) rfl (by kernel_rfl) .none (q_eqS2 td_stood td_guard Tryz.runUnderlying49 (fun f hf => by
      simp only [List.mem_cons, List.not_mem_nil, or_false] at hf
      rcases hf with rfl | rfl <;> exact ⟨by decide, Tryz.runUnderlying3, Tryz.isAgg3⟩) rfl rfl) ?_
    refine .done (by kernel_rfl) hs ?_
    refine (.cond rfl (fun hc16 => ?_) (fun hc16 => ?_))
    · refine .regSeq (.z zm (.z zg (.nil ?_)))
      refine .ret (rB (rT (rB (rT (Fin.ret1 Tryz.results89 rfl ?_)))))
      have e : x = t := td_eq.1 (by have := of_decide_eq_true hc16; exact ⟨this.1.symm, this.2.symm⟩)
      subst e
      exact ⟨by rw [tdIdx_hit hx fun j hj h => hno j hj _ h rfl], hs.tail⟩
    · refine .skip ?_
      refine nB (nT ?_)
      exact .mk ⟨rfl, upto_succ hno hx (fun e => by subst e; simp at hc16), hs⟩
  · rintro fr w ⟨rfl, hno, hs⟩
    refine nT ?_
    refine .regSeq (.z zg (.nil ?_))
    refine .ret (Fin.ret1 Tryz.results89 rfl ?_)
    exact ⟨by rw [tdIdx_no hno], hs.tail⟩
theorem offsets_tapes_1_spec {H : Heap} {w : World} {σ : List Ent} {t : TD} {r : Rdg} {b : Nat} (hs : St H w σ) (hb : Row H b r.c) :
    Cl Tryz.prog 173 [.agg #[I t.tape, I t.day], .pointer (some ⟨b, 0, none⟩)] w fun u w' => u = .bool (decide (t = r.td)) ∧ St H w' σ := by
  have hb0 : CellsAt H b 0 r.c := hb.cells 0 r.c
  refine Cl.of Tryz.func173 rfl Tryz.ntmps173 (by simp) (args_cons (k := 0) rfl (args_cons (k := 1) rfl (args0))) ?_
  refine .regSeq ?_
  refine .o (.box hs rfl rfl ?_); intro b2 w hs
  refine .z zg (.nil ?_)
  refine .seq (.draw mix rfl hs ?_); intro w hs
  refine .ys 0 rfl hs [_, _] Tryz.isAgg49 Tryz.sizeOf49 ?_; refine .ys 1 rfl hs [_, _, _, _, _, _, _] Tryz.isAgg80 Tryz.sizeOf80 ?_
  refine .e1 (i := 2) (by kernel_rfl) rfl rfl .none hs ?_
  refine .call Tryz.call114 rfl (offsets_tapeOf_spec hs) ?_; rintro _ w ⟨rfl, hs⟩
  refine .go ?_
  refine .p (i := 3) rfl (by kernel_rfl) .none (q_eqS2 td_stood td_guard Tryz.runUnderlying49 (fun f hf => by
    simp only [List.mem_cons, List.not_mem_nil, or_false] at hf
    rcases hf with rfl | rfl <;> exact ⟨by decide, Tryz.runUnderlying3, Tryz.isAgg3⟩) rfl rfl) ?_
  refine .z 4 rfl zg ?_; refine .done (by kernel_rfl) hs ?_
  refine .ret (Fin.ret1 Tryz.results173 rfl ?_)
  exact ⟨by congr 1; rw [decide_eq_decide]; exact td_eq (t := t) (u := r.td), hs.tail⟩
set_option maxHeartbeats 1000000 in
theorem offsets_tapes_own {H : Heap} {w : World} {σ : List Ent} {s : Srv} {vst vwa vr vc : Value} (hs : St H w σ) (hr : RRd H vr s.rs) (hl : s.rs.length ≤ 1000000) :
    Cl Tryz.prog 90 [.agg #[I s.sp.id, I s.sp.src, vst, vwa, I s.sp.al, I s.sp.up, vr, vc]] w fun u w' => ∃ H1 en, HLe H H1 ∧ OwnS 2 u (tdc s.tapes).flatten en ∧ St H1 w' (en :: σ) := by
  obtain ⟨ar, cr, rfl⟩ := RRd.shape hr
  refine Cl.of Tryz.func90 rfl Tryz.ntmps90 (by simp) (args_cons (k := 0) rfl (args0)) ?_
  refine .regSeq ?_
  refine .o (.box hs rfl rfl ?_); intro b1 w hs
  refine .z zg (.nil (.regSeq (.z zg (.nil (.seq (.regSeq (.z (zfa fa_api_Survey_1) (.y hs (zld Tryz.isAgg35) (.z (zlen Tryz.runUnderlying35) ?_)))))))))
  refine .z zm (.nil ?_)
  refine .for (N := s.rs.length) (J := fun k fr w => ∃ vo en H1, fr = [(7, .slice ar s.rs.length cr), (3, vo)] ∧ HLe H H1 ∧ OwnS 2 vo (tdc (tapesOf (s.rs.take k))).flatten en ∧ St H1 w (en :: σ)) (by omega) ?_ ?_ ?_
  · exact .mk ⟨_, .nul, H, rfl, HLe.refl _, .nil 2 none, hs.tail.nul⟩
  · rintro k fr w hk ⟨vo, en, H1, rfl, hle1, hO, hs⟩
    obtain ⟨r, hx⟩ := nth hk
    have htk := tapesOf_take hx
    have htl := tapesOf_len s.rs k (by omega)
    obtain ⟨ao, co, rfl⟩ := hO.shapeX (tdc_2 _) (by omega)
    rw [tdc_length] at hO ⊢
    refine .block (.regSeq ?_)
    refine .ixX (enc := Rdg.c) hs (hr.mono hle1) rfl rfl Tryz.runUnderlying35 Tryz.sizeOf80 hx (by first | rfl | assumption | omega) ?_; intro b11 o11 hc11
    refine .q hs (q_loadsR (vs := (Rdg.c r)) rfl Tryz.isAgg80 Tryz.sizeOf80 hc11) ?_
    refine .o (.alloc hs Tryz.zeroValue80 rfl ?_); intro b5 w hs
    refine .o (.stores (vs := r.c) hs rfl rfl Tryz.sizeOf80 ?_); intro w hs
    obtain ⟨H2, hle2, r5, hs⟩ := hs.publish (b := b5) (c := r.c) .here
    have c5 : CellsAt H2 b5 0 r.c := r5.cells 0 r.c
    refine .nil (.regSeq (.z zm ?_))
    refine .q hs (q_makeFunc (f := []) (c := [_]) rfl rfl) ?_
    refine .o (.call Tryz.call172 rfl (slices_ContainsFunc_td (g := 173) (cap := [.pointer (some ⟨b5, 0, none⟩)]) (fun t => decide (t = r.td)) hs hO (by omega) Tryz.call173 (fun w t hs => offsets_tapes_1_spec hs r5)) ?_); rintro _ w ⟨b15, rfl, hb15, hs⟩
    refine .z znot (.nil ?_)
    refine (.cond rfl (fun hc16 => ?_) (fun hc16 => ?_))
    · refine .region (.z zm ?_)
      refine .q hs (q_loadsR (vs := r.c) rfl Tryz.isAgg80 Tryz.sizeOf80 c5) ?_
      refine .o (.call Tryz.call114 rfl (offsets_tapeOf_spec (r := r) hs) ?_); rintro _ w ⟨rfl, hs⟩
      refine .o (.buildSlice (cells := [_, _]) hs bls_sl_api_TapeDay_1 rfl rfl ?_); intro b20 w hs
      refine .o (.append (ys := r.td.c) hs app_sl_api_TapeDay_api_TapeDay rfl rfl hO (.own .here rfl rfl) (by simp [TD.c, Value.oneCell']) (fun l h => by rw [flat_length _ (tdc_2 _), tdc_length] at h; omega) ?_); intro v21 en21 w hO2 hs
      refine .z zg (.nil ?_)
      refine nB (nT ?_)
      have hn : r.td ∉ tapesOf (s.rs.take k) := fun hm => by
        rw [hb15.2 ⟨_, hm, by simp⟩] at hc16; cases hc16
      rw [← tdc_snoc, show tapesOf (s.rs.take k) ++ [r.td] = tapesOf (s.rs.take (k + 1)) by rw [htk]; unfold addTD; rw [if_neg hn]] at hO2
      exact .mk ⟨_, _, H2, rfl, hle1.trans hle2, hO2, hs.sub (by repeat (first | exact Sub.refl _ | constructor | apply Sub.weaken))⟩
    · refine .skip ?_
      refine nB (nT ?_)
      have hm : r.td ∈ tapesOf (s.rs.take k) := by
        obtain ⟨x, h1, h2⟩ := hb15.1 (by simpa using hc16)
        rw [← of_decide_eq_true h2]; exact h1
      exact .mk ⟨_, _, H2, rfl, hle1.trans hle2, by rw [htk]; unfold addTD; rw [if_pos hm]; exact hO, hs⟩
  · rintro fr w ⟨vo, en, H1, rfl, hle1, hO, hs⟩
    rw [List.take_length] at hO
    refine nT ?_
    refine .regSeq (.z zm (.z zg (.nil ?_)))
    refine .ret (Fin.ret1 Tryz.results90 rfl ?_)
    exact ⟨H1, en, hle1, hO, hs⟩
theorem offsets_tapes_spec {H : Heap} {w : World} {σ : List Ent} {s : Srv} {vst vwa vr vc : Value} (hs : St H w σ) (hr : RRd H vr s.rs) (hl : s.rs.length ≤ 1000000) :
    Cl Tryz.prog 90 [.agg #[I s.sp.id, I s.sp.src, vst, vwa, I s.sp.al, I s.sp.up, vr, vc]] w fun u w' => ∃ H1, HLe H H1 ∧ RTd H1 u s.tapes ∧ St H1 w' σ := by
  refine (offsets_tapes_own hs hr hl).mono ?_
  rintro u w' ⟨H1, en, hle1, hO, hs⟩
  have htl := tapesOf_length s.rs
  have htl' : s.tapes.length ≤ 1000000 := by unfold Srv.tapes; omega
  obtain ⟨H2, hle2, hR, hs⟩ := OwnS.publish (m := 2) hO (tdc_2 _) (by omega) (by rw [tdc_length]; omega) hs .here
  exact ⟨H2, hle1.trans hle2, hR, hs⟩
theorem slices_Index_tdown {H : Heap} {w : World} {σ : List Ent} {v : Value} {en : Ent} {xs : List TD} {t : TD} (hs : St H w (en :: σ)) (hO : OwnS 2 v (tdc xs).flatten en) (hl : xs.length ≤ 1000000) :
    Cl Tryz.prog 89 [v, .agg #[I t.tape, I t.day]] w fun u w' => u = I (tdIdx xs t) ∧ St H w' (en :: σ) := by
  obtain ⟨a, c, rfl⟩ := hO.shapeX (tdc_2 xs) (by omega)
  rw [tdc_length] at hO ⊢
  refine Cl.of Tryz.func89 rfl Tryz.ntmps89 (by simp) (args_cons (k := 0) rfl (args_cons (k := 1) rfl (args0))) ?_
  refine .regSeq ?_
  refine .o (.box hs rfl rfl ?_); intro b3 w hs
  refine .z zg (.nil (.seq (.regSeq (.z zm (.z (zlen Tryz.runUnderlying51) (.z zm (.nil ?_)))))))
  refine .for (N := xs.length) (J := fun k fr w => fr = [(0, .slice a xs.length c), (3, .pointer (some ⟨b3, 0, none⟩))] ∧ (∀ j < k, ∀ y, xs[j]? = some y → ¬ y = t) ∧ St H w (.blk b3 [I t.tape, I t.day] :: en :: σ)) (by omega) ?_ ?_ ?_
  · exact .mk ⟨rfl, fun j hj => by omega, hs⟩
  · rintro k fr w hk ⟨rfl, hno, hs⟩
    obtain ⟨x, hx⟩ := nth hk
    obtain ⟨b, c', sp, hv, rfl, _⟩ := hO.blkX (tdc_2 xs) (by omega) (by rw [tdc_length]; omega)
    rw [tdc_length] at hv
    cases hv
    refine .block (.regSeq (.z zm (.z zg (.nil ?_))))
    refine .seq (.draw mix rfl hs ?_); intro w hs
    refine .ys 0 rfl hs [_, _] Tryz.isAgg49 Tryz.sizeOf49 ?_; refine .z 1 rfl zm ?_; refine .z 2 rfl zm ?_; refine .z 3 rfl (zixm Tryz.runUnderlying51 Tryz.sizeOf49) ?_
    refine .loads (i := 4) (vs := x.c) hs rfl (by kernel_rfl) .none rfl Tryz.isAgg49 Tryz.sizeOf49 ?_ (hv := own_at (tdc_2 xs) (tdc_get hx) sp)
    refine .p (i := 5) rfl (by kernel_rfl) .none (q_eqS2 td_stood td_guard Tryz.runUnderlying49 (fun f hf => by
      simp only [List.mem_cons, List.not_mem_nil, or_false] at hf
      rcases hf with rfl | rfl <;> exact ⟨by decide, Tryz.runUnderlying3, Tryz.isAgg3⟩) rfl rfl) ?_
    refine .done (by kernel_rfl) hs ?_
    refine (.cond rfl (fun hc16 => ?_) (fun hc16 => ?_))
    · refine .regSeq (.z zm (.z zg (.nil ?_)))
      refine .ret (rB (rT (rB (rT (Fin.ret1 Tryz.results89 rfl ?_)))))
      have e : x = t := td_eq.1 (by have := of_decide_eq_true hc16; exact ⟨this.1.symm, this.2.symm⟩)
      subst e
      exact ⟨by rw [tdIdx_hit hx fun j hj h => hno j hj _ h rfl], hs.tail⟩
    · refine .skip ?_
      refine nB (nT ?_)
      exact .mk ⟨rfl, upto_succ hno hx (fun e => by subst e; simp at hc16), hs⟩
  · rintro fr w ⟨rfl, hno, hs⟩
    refine nT ?_
    refine .regSeq (.z zg (.nil ?_))
    refine .ret (Fin.ret1 Tryz.results89 rfl ?_)
    exact ⟨by rw [tdIdx_no hno], hs.tail⟩
end Go.Proofs.YtddaejgfjlneoaaGreat

namespace Go.Proofs.YtddaejgfjlneoaaGreat
open Go.MW
theorem maker_put_spec {H : Heap} {w : World} {σ : List Ent} {x0 x1 x2 x3 x4 x5 x6 x7 x8 vl : Value} {en : Ent} {bm : Nat} {ls : List Lim} {a b hi lo by_ : Int} (hs : St H w (.blk bm [x0, x1, x2, x3, x4, x5, x6, x7, x8, vl] :: en :: σ)) (hO : OwnS 4 vl (Lims ls) en) (hl : ls.length ≤ 100000) :
    Cl Tryz.prog 115 [.pointer (some ⟨bm, 0, none⟩), I a, I b, I hi, I lo, I by_] w fun _ w' => ∃ vl' en', OwnS 4 vl' (Lims (ls ++ two a b hi lo by_)) en' ∧ St H w' (.blk bm [x0, x1, x2, x3, x4, x5, x6, x7, x8, vl'] :: en' :: σ) := by
  obtain ⟨al, ll, cl, rfl, h⟩ := hO.shape
  refine Cl.of Tryz.func115 rfl Tryz.ntmps115 (by simp) (args_cons (k := 0) rfl (args_cons (k := 1) rfl (args_cons (k := 2) rfl (args_cons (k := 3) rfl (args_cons (k := 4) rfl (args_cons (k := 5) rfl (args0))))))) ?_
  refine .region (.z zm (.z zm (.z znc (.z (zfa fa_offsets_maker_2) (.y hs (zld Tryz.isAgg68) (.z zm (.z zm (.z zm (.z zm ?_)))))))))
  refine .z (zbd [_, _, _, _] bld_api_Limit) (.z zm (.z zm (.z zm (.z zm (.z (zbd [_, _, _, _] bld_api_Limit) ?_)))))
  refine .o (.buildSlice (cells := Lims (two a b hi lo by_)) hs bls_sl_api_Limit_2 rfl (by kernel_rfl) ?_); intro b27 w hs
  refine .o (.append (ys := Lims (two a b hi lo by_)) hs app_sl_api_Limit_api_Limit rfl rfl hO (.own .here rfl rfl) (Lims_cell _) (fun l h => by rw [Lims_length] at h; omega) ?_); intro v28 en28 w hO2 hs
  rw [← Lims_append] at hO2
  obtain ⟨a28, l28, c28, rfl, h28⟩ := hO2.shape
  refine .z znc (.z (zfa fa_offsets_maker_2) ?_)
  refine .o (.store hs rfl rfl Tryz.sizeOf68 ?_); intro w hs
  refine .nil ?_
  exact Fin.end0 Tryz.results115 ⟨_, _, hO2, hs.sub (by repeat (first | exact Sub.refl _ | constructor | apply Sub.weaken))⟩
theorem maker_tape_spec {H : Heap} {w : World} {σ : List Ent} {s : Spc} {vst vwa x6 x7 x8 vl : Value} {bm : Nat} {j : Int} (hs : St H w σ) (hm : Mem σ (.blk bm [I s.id, I s.src, vst, vwa, I s.al, I s.up, x6, x7, x8, vl])) (h1 : RI H vst s.st) (h2 : RI H vwa s.wa) (hb : s.st.length ≤ 1000 ∧ s.wa.length ≤ 1000) (hj : -1 ≤ j ∧ j ≤ 1000) :
    Cl Tryz.prog 116 [.pointer (some ⟨bm, 0, none⟩), I j] w fun u w' => u = I ((s.many : Int) + 1 + j) ∧ St H w' σ := by
  have hmm : s.many ≤ 1000000 := Nat.mul_le_mul hb.1 hb.2
  refine Cl.of Tryz.func116 rfl Tryz.ntmps116 (by simp) (args_cons (k := 0) rfl (args_cons (k := 1) rfl (args0))) ?_
  refine .regSeq (.z zg (.nil (.regSeq (.z zm (.z znc (.z (zfa fa_offsets_maker_0) (.z (zfa fa_api_Survey_0) ?_)))))))
  refine .q hs (q_loads (vs := [I s.id, I s.src, vst, vwa, I s.al, I s.up]) rfl Tryz.isAgg34 Tryz.sizeOf34 hm) ?_
  refine .o (.call Tryz.call91 rfl (offsets_many_spec (s := s) hs h1 h2 hb) ?_); rintro _ w ⟨rfl, hs⟩
  refine .z zadd (.z zm (.z zadd (.z zg (.nil ?_))))
  refine .ret (Fin.ret1 Tryz.results116 rfl ?_)
  exact ⟨rfl, hs⟩
theorem spc_small {s : Spc} (h : SpcOk s) : s.st.length ≤ 1000 ∧ s.wa.length ≤ 1000 ∧ 0 < s.wa.length ∧ s.many ≤ 63 := by
  have h1 := h.st.many; have h2 := h.wa.many; have h3 := h.wa.two
  have : s.many ≤ 9 * 7 := Nat.mul_le_mul h1 h2
  omega
theorem maker_breadths_spec {H : Heap} {w : World} {σ : List Ent} {s : Srv} {ts : List TD} {vst vwa vr vc vt vl : Value} {en : Ent} {bm : Nat} {ls : List Lim} (hs : St H w (.blk bm [I s.sp.id, I s.sp.src, vst, vwa, I s.sp.al, I s.sp.up, vr, vc, vt, vl] :: en :: σ)) (hk : MkK H s ts vst vwa vr vc vt) (hO : OwnS 4 vl (Lims ls) en) (hl : ls.length ≤ 10000) (hok : SpcOk s.sp) :
    Cl Tryz.prog 174 [.pointer (some ⟨bm, 0, none⟩)] w fun _ w' => ∃ H1 vl' en', HLe H H1 ∧ OwnS 4 vl' (Lims (ls ++ offsL (brdL s.sp) s.sp.wa.length s.sp.st.length)) en' ∧ St H1 w' (.blk bm [I s.sp.id, I s.sp.src, vst, vwa, I s.sp.al, I s.sp.up, vr, vc, vt, vl'] :: en' :: σ) := by
  have hsm := spc_small hok
  refine Cl.of Tryz.func174 rfl Tryz.ntmps174 (by simp) (args_cons (k := 0) rfl (args0)) ?_
  refine .regSeq ?_
  refine .o (.box hs rfl rfl ?_); intro b1 w hs
  refine .nil (.regSeq (.y hs (zld Tryz.isAgg170) (.z znc (.z (zfa fa_offsets_maker_0) (.z (zfa fa_api_Survey_0) (.y hs (zls [_, _, _, _, _, _] Tryz.isAgg34 Tryz.sizeOf34) ?_))))))
  refine .o (.call Tryz.call103 rfl (offsets_all_spec (s := s.sp) hs hk.st hk.wa ⟨by omega, by omega⟩) ?_); rintro _ w ⟨H1, ba, hle1, rfl, hit, hs⟩
  refine .nil (.block ?_)
  refine .rangeFunc (gf := 190) (cap := [.pointer (some ⟨ba, 0, none⟩)]) (xs := allV s.sp) (σb := [.blk bm [I s.sp.id, I s.sp.src, vst, vwa, I s.sp.al, I s.sp.up, vr, vc, vt, vl], en, .blk b1 [.pointer (some ⟨bm, 0, none⟩)]]) (σf := σ) (hs.sub (by repeat (first | exact Sub.refl _ | constructor | apply Sub.weaken))) trivial rfl hit Tryz.call190 (fun x hx => by
      simp only [allV, List.mem_map] at hx
      obtain ⟨j, _, rfl⟩ := hx; rfl) rfl
    (I := fun p H' σb => ∃ vl en, σb = [.blk bm [I s.sp.id, I s.sp.src, vst, vwa, I s.sp.al, I s.sp.up, vr, vc, vt, vl], en, .blk b1 [.pointer (some ⟨bm, 0, none⟩)]] ∧ OwnS 4 vl (Lims (ls ++ offsP (brdL s.sp) s.sp.wa.length p)) en) (Ix := fun _ _ _ => False)
    (fun j _ _ σ g1 g2 => g2) (fun _ _ _ _ _ h => h) ⟨vl, en, rfl, by rw [offsP_zero, List.append_nil]; exact hO⟩ ?_ ?_ (fun D c H' σb w _ h _ => h.elim)
  · rintro ly p hp H2 σb2 σf2 w hle2 ⟨vl, en, rfl, hO⟩ hs ⟨rr, hrr⟩
    have hpm : p < s.sp.many := by rw [allV_length] at hp; exact hp
    have hsucc := offsP_succ (brdL s.sp) (p := p) hsm.2.2.1
    have hpl := offsP_length (brdL_two s.sp) hsm.2.2.1 p
    have hin : p / s.sp.wa.length < s.sp.st.length := Nat.div_lt_of_lt_mul (by rw [Nat.mul_comm]; exact hpm)
    have hkm := Nat.mod_lt p hsm.2.2.1
    have hdm := Nat.div_add_mod p s.sp.wa.length
    rw [Nat.mul_comm] at hdm
    have hu : (s.sp.u (p / s.sp.wa.length) (p % s.sp.wa.length) : Int) = (p : Int) + 1 := by unfold Spc.u; omega
    rw [allV_get hp]
    obtain ⟨al, ll, cl, rfl, hll⟩ := hO.shape
    generalize p / s.sp.wa.length = i at *
    generalize p % s.sp.wa.length = k at *
    have hk2 := hk.mono (hle1.trans hle2)
    refine .region ?_
    refine .o (.alloc hs Tryz.zeroValue158 rfl ?_); intro b2 w hs
    refine .o (.stores (vs := [_, _, _]) hs rfl rfl Tryz.sizeOf158 ?_); intro w hs
    refine .nil ?_
    refine nT ?_
    refine ⟨H2, [.blk b2 [I (i : Int), I (k : Int), I ((p + 1 : Nat) : Int)], .blk bm [I s.sp.id, I s.sp.src, vst, vwa, I s.sp.al, I s.sp.up, vr, vc, vt, .slice al ll cl], en, .blk b1 [.pointer (some ⟨bm, 0, none⟩)]], HLe.refl _, hs, ?_⟩; rintro w σf4 - hs
    refine .block ?_
    refine .draw mix rfl hs ?_; intro w hs
    refine .y 0 rfl hs Tryz.isAgg170 ?_; refine .z 1 rfl (zfa fa_offsets_offset_2) ?_; refine .y 2 rfl hs Tryz.isAgg3 ?_; refine .y 3 rfl hs Tryz.isAgg170 ?_; refine .z 4 rfl znc ?_; refine .z 5 rfl (zfa fa_offsets_maker_0) ?_; refine .z 6 rfl (zfa fa_api_Survey_0) ?_; refine .z 7 rfl (zfa fa_api_Space_1) ?_; refine .y 8 rfl hs Tryz.isAgg3 ?_
    refine .e1 (i := 9) (by kernel_rfl) rfl rfl .none hs ?_
    refine .call Tryz.call115 rfl (maker_put_spec (ls := ls ++ offsP (brdL s.sp) s.sp.wa.length p) (hs.sub (by repeat (first | exact Sub.refl _ | constructor | apply Sub.weaken)) : St H2 w (.blk bm _ :: en :: .blk b1 _ :: σf4)) hO (by rw [List.length_append]; omega)) ?_; rintro _ w ⟨vl3, en3, hO3, hs⟩
    rw [show two 0 ((p + 1 : Nat) : Int) 20000 0 s.sp.src = brdL s.sp i k by unfold brdL; rw [hu]; rfl, List.append_assoc, ← hsucc] at hO3
    refine .go ?_
    refine .done (by kernel_rfl) hs ?_
    refine nB ?_
    exact ⟨H2, _, HLe.refl _, hs, _, _, rfl, hO3⟩
  · rintro D H2 σb2 w hle2 ⟨vl, en, rfl, hO⟩ hs
    rw [allV_length, show s.sp.many = s.sp.st.length * s.sp.wa.length from rfl, offsP_end _ hsm.2.2.1] at hO
    refine nB ?_
    exact Fin.endD [D] [] hs fun w hs => ⟨_, results0 Tryz.results174, H2, vl, en, hle1.trans hle2, hO, (hs.sub (by repeat (first | exact Sub.refl _ | constructor | apply Sub.weaken)) : St H2 w (.blk bm _ :: en :: σ))⟩
theorem maker_along_spec {H : Heap} {w : World} {σ : List Ent} {s : Srv} {ts : List TD} {vst vwa vr vc vt vl : Value} {en : Ent} {bm : Nat} {ls : List Lim} (hs : St H w (.blk bm [I s.sp.id, I s.sp.src, vst, vwa, I s.sp.al, I s.sp.up, vr, vc, vt, vl] :: en :: σ)) (hk : MkK H s ts vst vwa vr vc vt) (hO : OwnS 4 vl (Lims ls) en) (hl : ls.length ≤ 10000) (hok : SpcOk s.sp) :
    Cl Tryz.prog 175 [.pointer (some ⟨bm, 0, none⟩)] w fun _ w' => ∃ H1 vl' en', HLe H H1 ∧ OwnS 4 vl' (Lims (ls ++ offsL (alL s.sp) s.sp.wa.length s.sp.st.length)) en' ∧ St H1 w' (.blk bm [I s.sp.id, I s.sp.src, vst, vwa, I s.sp.al, I s.sp.up, vr, vc, vt, vl'] :: en' :: σ) := by
  have hsm := spc_small hok
  obtain ⟨ast, cst, rfl⟩ := RI.shape hk.st
  obtain ⟨awa, cwa, rfl⟩ := RI.shape hk.wa
  refine Cl.of Tryz.func175 rfl Tryz.ntmps175 (by simp) (args_cons (k := 0) rfl (args0)) ?_
  refine .regSeq ?_
  refine .o (.box hs rfl rfl ?_); intro b1 w hs
  refine .nil (.regSeq (.y hs (zld Tryz.isAgg170) (.z znc (.z (zfa fa_offsets_maker_0) (.z (zfa fa_api_Survey_0) (.y hs (zls [_, _, _, _, _, _] Tryz.isAgg34 Tryz.sizeOf34) ?_))))))
  refine .o (.alloc hs Tryz.zeroValue34 rfl ?_); intro b2 w hs
  refine .o (.stores (vs := [_, _, _, _, _, _]) hs rfl rfl Tryz.sizeOf34 ?_); intro w hs
  refine .nil (.regSeq (.y hs (zls [_, _, _, _, _, _] Tryz.isAgg34 Tryz.sizeOf34) ?_))
  refine .o (.call Tryz.call103 rfl (offsets_all_spec (s := s.sp) hs hk.st hk.wa ⟨by omega, by omega⟩) ?_); rintro _ w ⟨H1, ba, hle1, rfl, hit, hs⟩
  refine .nil (.block ?_)
  refine .rangeFunc (gf := 190) (cap := [.pointer (some ⟨ba, 0, none⟩)]) (xs := allV s.sp) (σb := [.blk bm [I s.sp.id, I s.sp.src, .slice ast s.sp.st.length cst, .slice awa s.sp.wa.length cwa, I s.sp.al, I s.sp.up, vr, vc, vt, vl], en, .blk b1 [.pointer (some ⟨bm, 0, none⟩)], .blk b2 [I s.sp.id, I s.sp.src, .slice ast s.sp.st.length cst, .slice awa s.sp.wa.length cwa, I s.sp.al, I s.sp.up]]) (σf := σ) (hs.sub (by repeat (first | exact Sub.refl _ | constructor | apply Sub.weaken))) trivial rfl hit Tryz.call190 (fun x hx => by
      simp only [allV, List.mem_map] at hx
      obtain ⟨j, _, rfl⟩ := hx; rfl) rfl
    (I := fun p H' σb => ∃ vl en, σb = [.blk bm [I s.sp.id, I s.sp.src, .slice ast s.sp.st.length cst, .slice awa s.sp.wa.length cwa, I s.sp.al, I s.sp.up, vr, vc, vt, vl], en, .blk b1 [.pointer (some ⟨bm, 0, none⟩)], .blk b2 [I s.sp.id, I s.sp.src, .slice ast s.sp.st.length cst, .slice awa s.sp.wa.length cwa, I s.sp.al, I s.sp.up]] ∧ OwnS 4 vl (Lims (ls ++ offsP (alL s.sp) s.sp.wa.length p)) en) (Ix := fun _ _ _ => False)
    (fun j _ _ σ g1 g2 => g2) (fun _ _ _ _ _ h => h) ⟨vl, en, rfl, by rw [offsP_zero, List.append_nil]; exact hO⟩ ?_ ?_ (fun D c H' σb w _ h _ => h.elim)
  · rintro ly p hp H2 σb2 σf2 w hle2 ⟨vl, en, rfl, hO⟩ hs ⟨rr, hrr⟩
    have hpm : p < s.sp.many := by rw [allV_length] at hp; exact hp
    have hsucc := offsP_succ (alL s.sp) (p := p) hsm.2.2.1
    have hpl := offsP_length (alL_two s.sp) hsm.2.2.1 p
    have hin : p / s.sp.wa.length < s.sp.st.length := Nat.div_lt_of_lt_mul (by rw [Nat.mul_comm]; exact hpm)
    have hkm := Nat.mod_lt p hsm.2.2.1
    have hdm := Nat.div_add_mod p s.sp.wa.length
    rw [Nat.mul_comm] at hdm
    have hu : (s.sp.u (p / s.sp.wa.length) (p % s.sp.wa.length) : Int) = (p : Int) + 1 := by unfold Spc.u; omega
    rw [allV_get hp]
    obtain ⟨al, ll, cl, rfl, hll⟩ := hO.shape
    generalize p / s.sp.wa.length = i at *
    generalize p % s.sp.wa.length = k at *
    have hk2 := hk.mono (hle1.trans hle2)
    refine .region ?_
    refine .o (.alloc hs Tryz.zeroValue158 rfl ?_); intro b3 w hs
    refine .o (.stores (vs := [_, _, _]) hs rfl rfl Tryz.sizeOf158 ?_); intro w hs
    refine .nil ?_
    refine nT ?_
    refine ⟨H2, [.blk b3 [I (i : Int), I (k : Int), I ((p + 1 : Nat) : Int)], .blk bm [I s.sp.id, I s.sp.src, .slice ast s.sp.st.length cst, .slice awa s.sp.wa.length cwa, I s.sp.al, I s.sp.up, vr, vc, vt, .slice al ll cl], en, .blk b1 [.pointer (some ⟨bm, 0, none⟩)], .blk b2 [I s.sp.id, I s.sp.src, .slice ast s.sp.st.length cst, .slice awa s.sp.wa.length cwa, I s.sp.al, I s.sp.up]], HLe.refl _, hs, ?_⟩; rintro w σf4 - hs
    refine .block (.regSeq (.z (zfa fa_offsets_offset_0) (.y hs (zld Tryz.isAgg3) (.z zadd (.z (zfa fa_api_Space_2) (.y hs (zld Tryz.isAgg22) (.z (zlen Tryz.runUnderlying22) (.z zlss (.nil ?_)))))))))
    refine (.condD rfl (fun hc19 => ?_) (fun hc19 => ?_))
    · refine .seq (.draw mix rfl hs ?_); intro w hs
      refine .z 0 rfl (zfa fa_api_Space_4) ?_; refine .z 1 rfl (zfa fa_api_Fair_0) ?_; refine .y 2 rfl hs Tryz.isAgg3 ?_; refine .z 3 rfl (zfa fa_api_Space_2) ?_; refine .y 4 rfl hs Tryz.isAgg22 ?_; refine .z 5 rfl (zfa fa_offsets_offset_0) ?_; refine .y 6 rfl hs Tryz.isAgg3 ?_; refine .z 7 rfl zadd ?_
      have hris := hok.st.rise i (by omega)
      have hq0 := hok.st.bd (i := i) (by omega)
      have hq1 := hok.st.bd (i := i + 1) (by omega)
      have hal := hok.al
      refine .ixX (enc := fun x => [I x]) (i := 8) hs rfl (by kernel_rfl) .none hk2.st rfl rfl Tryz.runUnderlying22 Tryz.sizeOf3 (gi_get (l := s.sp.st) (i := (i+1)) (by omega)) (by first | rfl | assumption | omega) ?_; intro b28 o28 hc28; replace hc28 := CellsAt.one hc28
      refine .r (i := 9) hs rfl (by kernel_rfl) .none (q_loadR rfl Tryz.isAgg3 hc28) ?_
      refine .z 10 rfl (zfa fa_api_Space_2) ?_; refine .y 11 rfl hs Tryz.isAgg22 ?_; refine .z 12 rfl (zfa fa_offsets_offset_0) ?_; refine .y 13 rfl hs Tryz.isAgg3 ?_
      refine .ixX (enc := fun x => [I x]) (i := 14) hs rfl (by kernel_rfl) .none hk2.st rfl rfl Tryz.runUnderlying22 Tryz.sizeOf3 (gi_get (l := s.sp.st) (i := i) (by omega)) (by first | rfl | assumption | omega) ?_; intro b34 o34 hc34; replace hc34 := CellsAt.one hc34
      refine .r (i := 15) hs rfl (by kernel_rfl) .none (q_loadR rfl Tryz.isAgg3 hc34) ?_
      refine .z 16 rfl zsub ?_
      refine .e1 (i := 17) (by kernel_rfl) rfl rfl .none hs ?_
      refine .call Tryz.call230 rfl (offsets_fair_spec hs (by omega) (by omega)) ?_; rintro _ w ⟨rfl, hs⟩
      refine .go ?_
      refine .z 18 rfl zg ?_; refine .done (by kernel_rfl) hs ?_
      refine .region (.y hs (zld Tryz.isAgg170) (.z (zfa fa_offsets_offset_2) (.y hs (zld Tryz.isAgg3) (.z (zfa fa_offsets_offset_2) (.y hs (zld Tryz.isAgg3) (.z (zfa fa_api_Space_3) (.y hs (zld Tryz.isAgg22) (.z (zlen Tryz.runUnderlying22) (.z zadd ?_)))))))))
      refine .z zm (.z zm (.z (zfa fa_api_Space_1) (.y hs (zld Tryz.isAgg3) ?_)))
      refine .o (.call Tryz.call115 rfl (maker_put_spec (ls := ls ++ offsP (alL s.sp) s.sp.wa.length p) (hs.sub (by repeat (first | exact Sub.refl _ | constructor | apply Sub.weaken)) : St H2 w (.blk bm _ :: en :: .blk b1 _ :: .blk b2 _ :: σf4)) hO (by rw [List.length_append]; omega)) ?_); rintro _ w ⟨vl3, en3, hO3, hs⟩
      have hu2 : (s.sp.u (i + 1) k : Int) = ((p + 1 : Nat) : Int) + (s.sp.wa.length : Int) := by unfold Spc.u at hu ⊢; rw [Nat.add_mul]; omega
      rw [show two ((p + 1 : Nat) : Int) (((p + 1 : Nat) : Int) + (s.sp.wa.length : Int)) (fairI s.sp.al (gi s.sp.st (i + 1) - gi s.sp.st i)) (fairI s.sp.al (gi s.sp.st (i + 1) - gi s.sp.st i)) s.sp.src = alL s.sp i k by unfold alL; rw [if_pos (by omega), hu, hu2]; rfl, List.append_assoc, ← hsucc] at hO3
      refine .nil ?_
      refine nB ?_
      exact ⟨H2, _, HLe.refl _, hs, _, _, rfl, hO3⟩
    · refine .skip ?_
      refine nB ?_
      rw [show alL s.sp i k = [] by unfold alL; rw [if_neg (by omega)], List.append_nil] at hsucc
      exact ⟨H2, _, HLe.refl _, (hs.sub (by repeat (first | exact Sub.refl _ | constructor | apply Sub.weaken)) : St H2 w (.blk bm _ :: en :: .blk b1 _ :: .blk b2 _ :: σf4)), _, _, rfl, by rw [hsucc]; exact hO⟩
  · rintro D H2 σb2 w hle2 ⟨vl, en, rfl, hO⟩ hs
    rw [allV_length, show s.sp.many = s.sp.st.length * s.sp.wa.length from rfl, offsP_end _ hsm.2.2.1] at hO
    refine nB ?_
    exact Fin.endD [D] [] hs fun w hs => ⟨_, results0 Tryz.results175, H2, vl, en, hle1.trans hle2, hO, (hs.sub (by repeat (first | exact Sub.refl _ | constructor | apply Sub.weaken)) : St H2 w (.blk bm _ :: en :: σ))⟩
theorem maker_up_spec {H : Heap} {w : World} {σ : List Ent} {s : Srv} {ts : List TD} {vst vwa vr vc vt vl : Value} {en : Ent} {bm : Nat} {ls : List Lim} (hs : St H w (.blk bm [I s.sp.id, I s.sp.src, vst, vwa, I s.sp.al, I s.sp.up, vr, vc, vt, vl] :: en :: σ)) (hk : MkK H s ts vst vwa vr vc vt) (hO : OwnS 4 vl (Lims ls) en) (hl : ls.length ≤ 10000) (hok : SpcOk s.sp) :
    Cl Tryz.prog 176 [.pointer (some ⟨bm, 0, none⟩)] w fun _ w' => ∃ H1 vl' en', HLe H H1 ∧ OwnS 4 vl' (Lims (ls ++ offsL (upL s.sp) s.sp.wa.length s.sp.st.length)) en' ∧ St H1 w' (.blk bm [I s.sp.id, I s.sp.src, vst, vwa, I s.sp.al, I s.sp.up, vr, vc, vt, vl'] :: en' :: σ) := by
  have hsm := spc_small hok
  obtain ⟨ast, cst, rfl⟩ := RI.shape hk.st
  obtain ⟨awa, cwa, rfl⟩ := RI.shape hk.wa
  refine Cl.of Tryz.func176 rfl Tryz.ntmps176 (by simp) (args_cons (k := 0) rfl (args0)) ?_
  refine .regSeq ?_
  refine .o (.box hs rfl rfl ?_); intro b1 w hs
  refine .nil (.regSeq (.y hs (zld Tryz.isAgg170) (.z znc (.z (zfa fa_offsets_maker_0) (.z (zfa fa_api_Survey_0) (.y hs (zls [_, _, _, _, _, _] Tryz.isAgg34 Tryz.sizeOf34) ?_))))))
  refine .o (.alloc hs Tryz.zeroValue34 rfl ?_); intro b2 w hs
  refine .o (.stores (vs := [_, _, _, _, _, _]) hs rfl rfl Tryz.sizeOf34 ?_); intro w hs
  refine .nil (.regSeq (.y hs (zls [_, _, _, _, _, _] Tryz.isAgg34 Tryz.sizeOf34) ?_))
  refine .o (.call Tryz.call103 rfl (offsets_all_spec (s := s.sp) hs hk.st hk.wa ⟨by omega, by omega⟩) ?_); rintro _ w ⟨H1, ba, hle1, rfl, hit, hs⟩
  refine .nil (.block ?_)
  refine .rangeFunc (gf := 190) (cap := [.pointer (some ⟨ba, 0, none⟩)]) (xs := allV s.sp) (σb := [.blk bm [I s.sp.id, I s.sp.src, .slice ast s.sp.st.length cst, .slice awa s.sp.wa.length cwa, I s.sp.al, I s.sp.up, vr, vc, vt, vl], en, .blk b1 [.pointer (some ⟨bm, 0, none⟩)], .blk b2 [I s.sp.id, I s.sp.src, .slice ast s.sp.st.length cst, .slice awa s.sp.wa.length cwa, I s.sp.al, I s.sp.up]]) (σf := σ) (hs.sub (by repeat (first | exact Sub.refl _ | constructor | apply Sub.weaken))) trivial rfl hit Tryz.call190 (fun x hx => by
      simp only [allV, List.mem_map] at hx
      obtain ⟨j, _, rfl⟩ := hx; rfl) rfl
    (I := fun p H' σb => ∃ vl en, σb = [.blk bm [I s.sp.id, I s.sp.src, .slice ast s.sp.st.length cst, .slice awa s.sp.wa.length cwa, I s.sp.al, I s.sp.up, vr, vc, vt, vl], en, .blk b1 [.pointer (some ⟨bm, 0, none⟩)], .blk b2 [I s.sp.id, I s.sp.src, .slice ast s.sp.st.length cst, .slice awa s.sp.wa.length cwa, I s.sp.al, I s.sp.up]] ∧ OwnS 4 vl (Lims (ls ++ offsP (upL s.sp) s.sp.wa.length p)) en) (Ix := fun _ _ _ => False)
    (fun j _ _ σ g1 g2 => g2) (fun _ _ _ _ _ h => h) ⟨vl, en, rfl, by rw [offsP_zero, List.append_nil]; exact hO⟩ ?_ ?_ (fun D c H' σb w _ h _ => h.elim)
  · rintro ly p hp H2 σb2 σf2 w hle2 ⟨vl, en, rfl, hO⟩ hs ⟨rr, hrr⟩
    have hpm : p < s.sp.many := by rw [allV_length] at hp; exact hp
    have hsucc := offsP_succ (upL s.sp) (p := p) hsm.2.2.1
    have hpl := offsP_length (upL_two s.sp) hsm.2.2.1 p
    have hin : p / s.sp.wa.length < s.sp.st.length := Nat.div_lt_of_lt_mul (by rw [Nat.mul_comm]; exact hpm)
    have hkm := Nat.mod_lt p hsm.2.2.1
    have hdm := Nat.div_add_mod p s.sp.wa.length
    rw [Nat.mul_comm] at hdm
    have hu : (s.sp.u (p / s.sp.wa.length) (p % s.sp.wa.length) : Int) = (p : Int) + 1 := by unfold Spc.u; omega
    rw [allV_get hp]
    obtain ⟨al, ll, cl, rfl, hll⟩ := hO.shape
    generalize p / s.sp.wa.length = i at *
    generalize p % s.sp.wa.length = k at *
    have hk2 := hk.mono (hle1.trans hle2)
    refine .region ?_
    refine .o (.alloc hs Tryz.zeroValue158 rfl ?_); intro b3 w hs
    refine .o (.stores (vs := [_, _, _]) hs rfl rfl Tryz.sizeOf158 ?_); intro w hs
    refine .nil ?_
    refine nT ?_
    refine ⟨H2, [.blk b3 [I (i : Int), I (k : Int), I ((p + 1 : Nat) : Int)], .blk bm [I s.sp.id, I s.sp.src, .slice ast s.sp.st.length cst, .slice awa s.sp.wa.length cwa, I s.sp.al, I s.sp.up, vr, vc, vt, .slice al ll cl], en, .blk b1 [.pointer (some ⟨bm, 0, none⟩)], .blk b2 [I s.sp.id, I s.sp.src, .slice ast s.sp.st.length cst, .slice awa s.sp.wa.length cwa, I s.sp.al, I s.sp.up]], HLe.refl _, hs, ?_⟩; rintro w σf4 - hs
    refine .block (.regSeq (.z (zfa fa_offsets_offset_1) (.y hs (zld Tryz.isAgg3) (.z zadd (.z (zfa fa_api_Space_3) (.y hs (zld Tryz.isAgg22) (.z (zlen Tryz.runUnderlying22) (.z zlss (.nil ?_)))))))))
    refine (.condD rfl (fun hc19 => ?_) (fun hc19 => ?_))
    · refine .seq (.draw mix rfl hs ?_); intro w hs
      refine .z 0 rfl (zfa fa_api_Space_4) ?_; refine .z 1 rfl (zfa fa_api_Fair_1) ?_; refine .y 2 rfl hs Tryz.isAgg3 ?_; refine .z 3 rfl (zfa fa_api_Space_3) ?_; refine .y 4 rfl hs Tryz.isAgg22 ?_; refine .z 5 rfl (zfa fa_offsets_offset_1) ?_; refine .y 6 rfl hs Tryz.isAgg3 ?_; refine .z 7 rfl zadd ?_
      have hris := hok.wa.rise k (by omega)
      have hq0 := hok.wa.bd (i := k) (by omega)
      have hq1 := hok.wa.bd (i := k + 1) (by omega)
      have hal := hok.up
      refine .ixX (enc := fun x => [I x]) (i := 8) hs rfl (by kernel_rfl) .none hk2.wa rfl rfl Tryz.runUnderlying22 Tryz.sizeOf3 (gi_get (l := s.sp.wa) (i := (k+1)) (by omega)) (by first | rfl | assumption | omega) ?_; intro b28 o28 hc28; replace hc28 := CellsAt.one hc28
      refine .r (i := 9) hs rfl (by kernel_rfl) .none (q_loadR rfl Tryz.isAgg3 hc28) ?_
      refine .z 10 rfl (zfa fa_api_Space_3) ?_; refine .y 11 rfl hs Tryz.isAgg22 ?_; refine .z 12 rfl (zfa fa_offsets_offset_1) ?_; refine .y 13 rfl hs Tryz.isAgg3 ?_
      refine .ixX (enc := fun x => [I x]) (i := 14) hs rfl (by kernel_rfl) .none hk2.wa rfl rfl Tryz.runUnderlying22 Tryz.sizeOf3 (gi_get (l := s.sp.wa) (i := k) (by omega)) (by first | rfl | assumption | omega) ?_; intro b34 o34 hc34; replace hc34 := CellsAt.one hc34
      refine .r (i := 15) hs rfl (by kernel_rfl) .none (q_loadR rfl Tryz.isAgg3 hc34) ?_
      refine .z 16 rfl zsub ?_
      refine .e1 (i := 17) (by kernel_rfl) rfl rfl .none hs ?_
      refine .call Tryz.call230 rfl (offsets_fair_spec hs (by omega) (by omega)) ?_; rintro _ w ⟨rfl, hs⟩
      refine .go ?_
      refine .z 18 rfl zg ?_; refine .done (by kernel_rfl) hs ?_
      refine .region (.y hs (zld Tryz.isAgg170) (.z (zfa fa_offsets_offset_2) (.y hs (zld Tryz.isAgg3) (.z (zfa fa_offsets_offset_2) (.y hs (zld Tryz.isAgg3) (.z zadd (.z zm (.z zm (.z (zfa fa_api_Space_1) ?_)))))))))
      refine .y hs (zld Tryz.isAgg3) ?_
      refine .o (.call Tryz.call115 rfl (maker_put_spec (ls := ls ++ offsP (upL s.sp) s.sp.wa.length p) (hs.sub (by repeat (first | exact Sub.refl _ | constructor | apply Sub.weaken)) : St H2 w (.blk bm _ :: en :: .blk b1 _ :: .blk b2 _ :: σf4)) hO (by rw [List.length_append]; omega)) ?_); rintro _ w ⟨vl3, en3, hO3, hs⟩
      have hu2 : (s.sp.u i (k + 1) : Int) = ((p + 1 : Nat) : Int) + 1 := by unfold Spc.u at hu ⊢; omega
      rw [show two ((p + 1 : Nat) : Int) (((p + 1 : Nat) : Int) + 1) (fairI s.sp.up (gi s.sp.wa (k + 1) - gi s.sp.wa k)) (fairI s.sp.up (gi s.sp.wa (k + 1) - gi s.sp.wa k)) s.sp.src = upL s.sp i k by unfold upL; rw [if_pos (by omega), hu, hu2]; rfl, List.append_assoc, ← hsucc] at hO3
      refine .nil ?_
      refine nB ?_
      exact ⟨H2, _, HLe.refl _, hs, _, _, rfl, hO3⟩
    · refine .skip ?_
      refine nB ?_
      rw [show upL s.sp i k = [] by unfold upL; rw [if_neg (by omega)], List.append_nil] at hsucc
      exact ⟨H2, _, HLe.refl _, (hs.sub (by repeat (first | exact Sub.refl _ | constructor | apply Sub.weaken)) : St H2 w (.blk bm _ :: en :: .blk b1 _ :: .blk b2 _ :: σf4)), _, _, rfl, by rw [hsucc]; exact hO⟩
  · rintro D H2 σb2 w hle2 ⟨vl, en, rfl, hO⟩ hs
    rw [allV_length, show s.sp.many = s.sp.st.length * s.sp.wa.length from rfl, offsP_end _ hsm.2.2.1] at hO
    refine nB ?_
    exact Fin.endD [D] [] hs fun w hs => ⟨_, results0 Tryz.results176, H2, vl, en, hle1.trans hle2, hO, (hs.sub (by repeat (first | exact Sub.refl _ | constructor | apply Sub.weaken)) : St H2 w (.blk bm _ :: en :: σ))⟩
theorem maker_errors_spec {H : Heap} {w : World} {σ : List Ent} {s : Srv} {ts : List TD} {vst vwa vr vc vt vl : Value} {en : Ent} {bm : Nat} {ls : List Lim} (hs : St H w (.blk bm [I s.sp.id, I s.sp.src, vst, vwa, I s.sp.al, I s.sp.up, vr, vc, vt, vl] :: en :: σ)) (hk : MkK H s ts vst vwa vr vc vt) (hO : OwnS 4 vl (Lims ls) en) (hl : ls.length ≤ 10000) (hok : SpcOk s.sp) (htl : ts.length ≤ 100) :
    Cl Tryz.prog 177 [.pointer (some ⟨bm, 0, none⟩)] w fun _ w' => ∃ H1 vl' en', HLe H H1 ∧ OwnS 4 vl' (Lims (ls ++ errL s.sp ts.length)) en' ∧ St H1 w' (.blk bm [I s.sp.id, I s.sp.src, vst, vwa, I s.sp.al, I s.sp.up, vr, vc, vt, vl'] :: en' :: σ) := by
  have hsm := spc_small hok
  obtain ⟨at_, ct, rfl⟩ := RTd.shape hk.ts
  refine Cl.of Tryz.func177 rfl Tryz.ntmps177 (by simp) (args_cons (k := 0) rfl (args0)) ?_
  refine .regSeq (.z zm (.z znc (.z (zfa fa_offsets_maker_1) (.y hs (zld Tryz.isAgg51) (.z (zlen Tryz.runUnderlying51) (.z zm (.nil ?_)))))))
  refine .for (N := ts.length) (J := fun j fr w => fr = [(0, .pointer (some ⟨bm, 0, none⟩))] ∧ ∃ vl en, OwnS 4 vl (Lims (ls ++ errL s.sp j)) en ∧ St H w (.blk bm [I s.sp.id, I s.sp.src, vst, vwa, I s.sp.al, I s.sp.up, vr, vc, .slice at_ ts.length ct, vl] :: en :: σ)) (by omega) ?_ ?_ ?_
  · exact .mk ⟨rfl, vl, en, by show OwnS 4 vl (Lims (ls ++ [])) en; rw [List.append_nil]; exact hO, hs⟩
  · rintro j fr w hj ⟨rfl, vl, en, hO, hs⟩
    have hel := errL_length s.sp j
    obtain ⟨al, ll, cl, rfl, hll⟩ := hO.shape
    refine .block (.regSeq (.z zm (.z zg (.nil ?_))))
    refine .draw mix rfl hs ?_; intro w hs
    refine .z 0 rfl zm ?_; refine .z 1 rfl zm ?_; refine .z 2 rfl zm ?_; refine .z 4 rfl zm ?_; refine .z 5 rfl znc ?_; refine .z 6 rfl (zfa fa_offsets_maker_0) ?_; refine .z 7 rfl (zfa fa_api_Survey_0) ?_; refine .z 8 rfl (zfa fa_api_Space_1) ?_; refine .y 9 rfl hs Tryz.isAgg3 ?_
    refine .e1 (i := 3) (by kernel_rfl) rfl rfl .none hs ?_
    refine .call Tryz.call116 rfl (maker_tape_spec (s := s.sp) hs .here hk.st hk.wa ⟨by omega, by omega⟩ ⟨by omega, by omega⟩) ?_; rintro _ w ⟨rfl, hs⟩
    refine .go ?_
    refine .e1 (i := 10) (by kernel_rfl) rfl rfl .none hs ?_
    refine .call Tryz.call115 rfl (maker_put_spec (ls := ls ++ errL s.sp j) hs hO (by rw [List.length_append]; omega)) ?_; rintro _ w ⟨vl3, en3, hO3, hs⟩
    rw [show (s.sp.many : Int) + 1 + (j : Int) = ((s.sp.many + 1 + j : Nat) : Int) by omega, List.append_assoc] at hO3
    refine .go ?_
    refine .done (by kernel_rfl) hs ?_
    refine nB (nT ?_)
    exact .mk ⟨rfl, vl3, en3, hO3, hs⟩
  · rintro fr w ⟨rfl, vl, en, hO, hs⟩
    exact Fin.end0 Tryz.results177 ⟨H, vl, en, HLe.refl _, hO, hs⟩
set_option maxHeartbeats 1000000 in
theorem maker_compares_spec {H : Heap} {w : World} {σ : List Ent} {s : Srv} {ts : List TD} {vst vwa vr vc vt vl : Value} {en : Ent} {bm : Nat} {ls : List Lim} (hs : St H w (.blk bm [I s.sp.id, I s.sp.src, vst, vwa, I s.sp.al, I s.sp.up, vr, vc, vt, vl] :: en :: σ)) (hk : MkK H s ts vst vwa vr vc vt) (hO : OwnS 4 vl (Lims ls) en) (hl : ls.length ≤ 10000) (hok : SpcOk s.sp) (htl : ts.length ≤ 100) (hcl : s.cs.length ≤ 20) (hc : ∀ c ∈ s.cs, CmpOk c) {j0 : Nat} (hj0 : j0 ≤ ts.length) :
    Cl Tryz.prog 117 [.pointer (some ⟨bm, 0, none⟩), I (j0 : Int)] w fun _ w' => ∃ H1 vl' en', HLe H H1 ∧ OwnS 4 vl' (Lims (ls ++ cmpL s.sp ts s.cs j0 s.cs.length)) en' ∧ St H1 w' (.blk bm [I s.sp.id, I s.sp.src, vst, vwa, I s.sp.al, I s.sp.up, vr, vc, vt, vl'] :: en' :: σ) := by
  have hsm := spc_small hok
  obtain ⟨at_, ct, rfl⟩ := RTd.shape hk.ts
  obtain ⟨ac, cc, rfl⟩ := RCm.shape hk.cs
  refine Cl.of Tryz.func117 rfl Tryz.ntmps117 (by simp) (args_cons (k := 0) rfl (args_cons (k := 1) rfl (args0))) ?_
  refine .regSeq (.z zm (.z znc (.z (zfa fa_offsets_maker_0) (.z (zfa fa_api_Survey_2) (.y hs (zld Tryz.isAgg36) (.z (zlen Tryz.runUnderlying36) (.z zm (.nil ?_))))))))
  refine .for (N := s.cs.length) (J := fun i fr w => fr = [(12, .slice ac s.cs.length cc), (0, .pointer (some ⟨bm, 0, none⟩)), (1, I (j0 : Int))] ∧ ∃ vl en, OwnS 4 vl (Lims (ls ++ cmpL s.sp ts s.cs j0 i)) en ∧ St H w (.blk bm [I s.sp.id, I s.sp.src, vst, vwa, I s.sp.al, I s.sp.up, vr, .slice ac s.cs.length cc, .slice at_ ts.length ct, vl] :: en :: σ)) (by omega) ?_ ?_ ?_
  · exact .mk ⟨rfl, vl, en, by show OwnS 4 vl (Lims (ls ++ [])) en; rw [List.append_nil]; exact hO, hs⟩
  · rintro i fr w hi ⟨rfl, vl, en, hO, hs⟩
    obtain ⟨c, hx⟩ := nth hi
    obtain ⟨g1, g2, g3, g4, g5, g6⟩ := hc c (List.mem_of_getElem? hx)
    have hcl1 := cmpL_length s.sp ts s.cs j0 i
    have hcl2 : i * (2 * (ts.length - j0)) ≤ 20 * (2 * 100) := Nat.mul_le_mul (by omega) (by omega)
    refine .block (.regSeq ?_)
    refine .ixX (enc := Cmp.c) hs hk.cs rfl rfl Tryz.runUnderlying36 Tryz.sizeOf108 hx (by first | rfl | assumption | omega) ?_; intro b16 o16 hc16
    refine .q hs (q_loadsR (vs := (Cmp.c c)) rfl Tryz.isAgg108 Tryz.sizeOf108 hc16) ?_
    refine .o (.alloc hs Tryz.zeroValue108 rfl ?_); intro b5 w hs
    refine .o (.stores (vs := c.c) hs rfl rfl Tryz.sizeOf108 ?_); intro w hs
    replace hs : St H w (.blk bm [I s.sp.id, I s.sp.src, vst, vwa, I s.sp.al, I s.sp.up, vr, .slice ac s.cs.length cc, .slice at_ ts.length ct, vl] :: en :: .blk b5 [I c.src, I c.tape, I c.fr, I c.to, I c.lo, I c.hi] :: σ) := hs.sub (by repeat (first | exact Sub.refl _ | constructor | apply Sub.weaken))
    refine .nil (.regSeq (.z zm (.z zg (.nil (.block ?_)))))
    refine .loop (fun j : Nat => ⟨62, [], [(6, I ((j0 + j : Nat) : Int)), (5, .pointer (some ⟨b5, 0, none⟩)), (14, I (i : Int)), (13, I (s.cs.length : Int)), (12, .slice ac s.cs.length cc), (0, .pointer (some ⟨bm, 0, none⟩)), (1, I (j0 : Int))]⟩)
      (fun j w => j0 + j ≤ ts.length ∧ ∃ vl en, OwnS 4 vl (Lims (ls ++ cmpL s.sp ts s.cs j0 i ++ cmpL1 s.sp ts c j0 j)) en ∧ St H w (.blk bm [I s.sp.id, I s.sp.src, vst, vwa, I s.sp.al, I s.sp.up, vr, .slice ac s.cs.length cc, .slice at_ ts.length ct, vl] :: en :: .blk b5 [I c.src, I c.tape, I c.fr, I c.to, I c.lo, I c.hi] :: σ)) (fun j => ts.length - (j0 + j)) 0 (by repeat (first | exact .nil rfl rfl | refine .cons rfl ?_))
      ⟨by omega, vl, en, by show OwnS 4 vl (Lims (_ ++ [])) en; rw [List.append_nil]; exact hO, hs⟩ ?_
    clear hO hs
    rintro j w ⟨hj, vl, en, hO, hs⟩
    have hl1 := cmpL1_length s.sp ts c j0 j
    obtain ⟨al, ll, cl, rfl, hll⟩ := hO.shape
    refine .seq (.regSeq (.z zm (.z zm (.z znc (.z (zfa fa_offsets_maker_1) (.y hs (zld Tryz.isAgg51) (.z (zlen Tryz.runUnderlying51) (.z zlss (.nil ?_)))))))))
    refine (.condD rfl (fun hc25 => ?_) (fun hc25 => ?_))
    · refine .skip ?_
      refine nT ?_
      refine .seq (.block (.regSeq (.z zm (.z znc (.z (zfa fa_offsets_maker_1) (.y hs (zld Tryz.isAgg51) (.z zm ?_)))))))
      obtain ⟨t, ht⟩ := nth (l := ts) (k := j0 + j) (by omega)
      have ht0 := td0_of ht
      refine .ixX (enc := TD.c) hs hk.ts rfl rfl Tryz.runUnderlying51 Tryz.sizeOf49 ht (by first | rfl | assumption | omega) ?_; intro b33 o33 hc33
      refine .q hs (q_loadsR (vs := (TD.c t)) rfl Tryz.isAgg49 Tryz.sizeOf49 hc33) ?_
      refine .o (.alloc hs Tryz.zeroValue49 rfl ?_); intro b7 w hs
      refine .o (.stores (vs := t.c) hs rfl rfl Tryz.sizeOf49 ?_); intro w hs
      change St _ _ (.blk b7 [I t.tape, I t.day] :: _) at hs
      refine .nil (.regSeq (.z (zfa fa_api_TapeDay_0) (.y hs (zld Tryz.isAgg3) (.z (zfa fa_api_Compare_1) (.y hs (zld Tryz.isAgg3) (.z zeql (.z zm ?_)))))))
      refine .bifD (t' := 40) rfl (fun hb40 => ?_) (fun hb40 => ?_)
      · refine .gT rfl rfl ?_
        refine .z (zfa fa_api_TapeDay_1) ?_
        refine .gT rfl rfl ?_
        refine .y hs (zld Tryz.isAgg3) ?_
        refine .gT rfl rfl ?_
        refine .z (zfa fa_api_Compare_2) ?_
        refine .gT rfl rfl ?_
        refine .y hs (zld Tryz.isAgg3) ?_
        refine .gT rfl rfl ?_
        refine .z (zfa fa_api_Compare_3) ?_
        refine .gT rfl rfl ?_
        refine .y hs (zld Tryz.isAgg3) ?_
        refine .gT rfl rfl ?_
        refine .o (.call Tryz.call105 rfl (offsets_within_spec hs) ?_); rintro _ w ⟨rfl, hs⟩
        refine .z zpT (.nil ?_)
        refine (.cond rfl (fun hc48 => ?_) (fun hc48 => ?_))
        · refine .draw mix rfl hs ?_; intro w hs
          refine .z 0 rfl zm ?_; refine .z 1 rfl zm ?_; refine .z 2 rfl zm ?_; refine .z 4 rfl (zfa fa_api_Compare_4) ?_; refine .y 5 rfl hs Tryz.isAgg3 ?_; refine .z 6 rfl zneg ?_; refine .z 7 rfl (zfa fa_api_Compare_5) ?_; refine .y 8 rfl hs Tryz.isAgg3 ?_; refine .z 9 rfl (zfa fa_api_Compare_0) ?_; refine .y 10 rfl hs Tryz.isAgg3 ?_
          refine .e1 (i := 3) (by kernel_rfl) rfl rfl .none hs ?_
          refine .call Tryz.call116 rfl (maker_tape_spec (s := s.sp) hs (.there .here) hk.st hk.wa ⟨by omega, by omega⟩ ⟨by omega, by omega⟩) ?_; rintro _ w ⟨rfl, hs⟩
          refine .go ?_
          refine .e1 (i := 11) (by kernel_rfl) rfl rfl .none hs ?_
          refine .call Tryz.call115 rfl (maker_put_spec (ls := ls ++ cmpL s.sp ts s.cs j0 i ++ cmpL1 s.sp ts c j0 j) (hs.tail : St H w (.blk bm _ :: en :: .blk b5 _ :: σ)) hO (by rw [List.length_append, List.length_append]; omega)) ?_; rintro _ w ⟨vl3, en3, hO3, hs⟩
          refine .go ?_
          refine .done (by kernel_rfl) hs ?_
          refine nB (nT ?_)
          refine .region (.z zm (.z zadd (.z zg (.nil ?_))))
          refine nT ?_
          have e : cmpL1 s.sp ts c j0 (j + 1) = cmpL1 s.sp ts c j0 j ++ two 0 ((s.sp.many : Int) + 1 + ((j0 + j : Nat) : Int)) (-c.lo) c.hi c.src := by
            show _ ++ toldL c (td0 ts (j0 + j)) _ = _
            rw [ht0]; unfold toldL; rw [if_pos (by simp at hc48; omega)]
            rw [show ((s.sp.many + 1 + (j0 + j) : Nat) : Int) = (s.sp.many : Int) + 1 + ((j0 + j : Nat) : Int) by omega]
          rw [List.append_assoc _ (cmpL1 _ _ _ _ _), ← e] at hO3
          exact ⟨j + 1, .consI rfl (by simp; omega) (by repeat (first | exact .nil rfl rfl | refine .cons rfl ?_)), ⟨by omega, vl3, en3, hO3, hs⟩, by omega⟩
        · refine .skip ?_
          refine nB (nT ?_)
          refine .region (.z zm (.z zadd (.z zg (.nil ?_))))
          refine nT ?_
          have e : cmpL1 s.sp ts c j0 (j + 1) = cmpL1 s.sp ts c j0 j := by
            show _ ++ toldL c (td0 ts (j0 + j)) _ = _
            rw [ht0]; unfold toldL; rw [if_neg (by simp at hc48; omega), List.append_nil]
          exact ⟨j + 1, .consI rfl (by simp; omega) (by repeat (first | exact .nil rfl rfl | refine .cons rfl ?_)), ⟨by omega, _, en, by rw [e]; exact hO, hs.tail⟩, by omega⟩
      · refine .gFs 7 5 true rfl rfl rfl ?_
        refine .z zpF (.nil ?_)
        refine (.condF rfl rfl ?_)
        refine .skip ?_
        refine nB (nT ?_)
        refine .region (.z zm (.z zadd (.z zg (.nil ?_))))
        refine nT ?_
        have e : cmpL1 s.sp ts c j0 (j + 1) = cmpL1 s.sp ts c j0 j := by
          show _ ++ toldL c (td0 ts (j0 + j)) _ = _
          rw [ht0]; unfold toldL; rw [if_neg (by omega), List.append_nil]
        exact ⟨j + 1, .consI rfl (by simp; omega) (by repeat (first | exact .nil rfl rfl | refine .cons rfl ?_)), ⟨by omega, _, en, by rw [e]; exact hO, hs.tail⟩, by omega⟩
    · refine .exit ?_
      refine xT (xT (xB (nB (nT ?_))))
      obtain rfl : j = ts.length - j0 := by omega
      rw [List.append_assoc, show cmpL s.sp ts s.cs j0 i ++ cmpL1 s.sp ts c j0 (ts.length - j0) = cmpL s.sp ts s.cs j0 (i + 1) by rw [← cmp0_of hx]; rfl] at hO
      exact .mk ⟨rfl, _, en, hO, hs.sub (by repeat (first | exact Sub.refl _ | constructor | apply Sub.weaken))⟩
  · rintro fr w ⟨rfl, vl, en, hO, hs⟩
    exact Fin.end0 Tryz.results117 ⟨H, vl, en, HLe.refl _, hO, hs⟩
end Go.Proofs.YtddaejgfjlneoaaGreat

namespace Go.Proofs.YtddaejgfjlneoaaGreat
open Go.MW
theorem maker_comparisons_spec {H : Heap} {w : World} {σ : List Ent} {s : Srv} {ts : List TD} {vst vwa vr vc vt vl : Value} {en : Ent} {bm : Nat} {ls : List Lim} (hs : St H w (.blk bm [I s.sp.id, I s.sp.src, vst, vwa, I s.sp.al, I s.sp.up, vr, vc, vt, vl] :: en :: σ)) (hk : MkK H s ts vst vwa vr vc vt) (hO : OwnS 4 vl (Lims ls) en) (hl : ls.length ≤ 10000) (hok : SpcOk s.sp) (htl : ts.length ≤ 100) (hcl : s.cs.length ≤ 20) (hc : ∀ c ∈ s.cs, CmpOk c) :
    Cl Tryz.prog 178 [.pointer (some ⟨bm, 0, none⟩)] w fun _ w' => ∃ H1 vl' en', HLe H H1 ∧ OwnS 4 vl' (Lims (ls ++ cmpL s.sp ts s.cs 0 s.cs.length)) en' ∧ St H1 w' (.blk bm [I s.sp.id, I s.sp.src, vst, vwa, I s.sp.al, I s.sp.up, vr, vc, vt, vl'] :: en' :: σ) := by
  refine Cl.of Tryz.func178 rfl Tryz.ntmps178 (by simp) (args_cons (k := 0) rfl (args0)) ?_
  refine .region (.z zm ?_)
  refine .o (.call Tryz.call117 rfl (maker_compares_spec (s := s) (ts := ts) (j0 := 0) hs hk hO hl hok htl hcl hc (by omega)) ?_); rintro _ w hs
  refine .nil ?_
  exact Fin.end0 Tryz.results178 hs
set_option maxHeartbeats 1000000 in
theorem maker_readings_spec {H : Heap} {w : World} {σ : List Ent} {s : Srv} {ts : List TD} {vst vwa vr vc vt vl : Value} {en : Ent} {bm : Nat} {ls : List Lim} (hs : St H w (.blk bm [I s.sp.id, I s.sp.src, vst, vwa, I s.sp.al, I s.sp.up, vr, vc, vt, vl] :: en :: σ)) (hk : MkK H s ts vst vwa vr vc vt) (hO : OwnS 4 vl (Lims ls) en) (hl : ls.length ≤ 10000) (hok : SpcOk s.sp) (htl : ts.length ≤ 100) (hrl : s.rs.length ≤ 60) (hr : ∀ r ∈ s.rs, RdgOk s.sp r) (hmem : ∀ r ∈ s.rs, r.td ∈ ts) :
    Cl Tryz.prog 179 [.pointer (some ⟨bm, 0, none⟩)] w fun _ w' => ∃ H1 vl' en', HLe H H1 ∧ OwnS 4 vl' (Lims (ls ++ rdgL s.sp ts s.rs s.rs.length)) en' ∧ St H1 w' (.blk bm [I s.sp.id, I s.sp.src, vst, vwa, I s.sp.al, I s.sp.up, vr, vc, vt, vl'] :: en' :: σ) := by
  have hsm := spc_small hok
  obtain ⟨at_, ct, rfl⟩ := RTd.shape hk.ts
  obtain ⟨ar, cr, rfl⟩ := RRd.shape hk.rs
  refine Cl.of Tryz.func179 rfl Tryz.ntmps179 (by simp) (args_cons (k := 0) rfl (args0)) ?_
  refine .regSeq (.z zm (.z znc (.z (zfa fa_offsets_maker_0) (.z (zfa fa_api_Survey_1) (.y hs (zld Tryz.isAgg35) (.z (zlen Tryz.runUnderlying35) (.z zm (.nil ?_))))))))
  refine .for (N := s.rs.length) (J := fun i fr w => fr = [(9, .slice ar s.rs.length cr), (0, .pointer (some ⟨bm, 0, none⟩))] ∧ ∃ vl en, OwnS 4 vl (Lims (ls ++ rdgL s.sp ts s.rs i)) en ∧ St H w (.blk bm [I s.sp.id, I s.sp.src, vst, vwa, I s.sp.al, I s.sp.up, .slice ar s.rs.length cr, vc, .slice at_ ts.length ct, vl] :: en :: σ)) (by omega) ?_ ?_ ?_
  · exact .mk ⟨rfl, vl, en, by show OwnS 4 vl (Lims (ls ++ [])) en; rw [List.append_nil]; exact hO, hs⟩
  · rintro i fr w hi ⟨rfl, vl, en, hO, hs⟩
    obtain ⟨r, hx⟩ := nth hi
    obtain ⟨g1, g2, g3, g4, g5, g6, g7⟩ := hr r (List.mem_of_getElem? hx)
    obtain ⟨k, k1, k2, k3⟩ := tdIdx_mem (hmem r (List.mem_of_getElem? hx))
    have hrl1 := rdgL_length s.sp ts s.rs i
    obtain ⟨al, ll, cl, rfl, hll⟩ := hO.shape
    refine .block (.regSeq ?_)
    refine .ixX (enc := Rdg.c) hs hk.rs rfl rfl Tryz.runUnderlying35 Tryz.sizeOf80 hx (by first | rfl | assumption | omega) ?_; intro b13 o13 hc13
    refine .q hs (q_loadsR (vs := (Rdg.c r)) rfl Tryz.isAgg80 Tryz.sizeOf80 hc13) ?_
    refine .o (.alloc hs Tryz.zeroValue80 rfl ?_); intro b3 w hs
    refine .o (.stores (vs := r.c) hs rfl rfl Tryz.sizeOf80 ?_); intro w hs
    change St _ _ (.blk b3 [I r.src, I r.st, I r.wa, I r.val, I r.tol, I r.tape, I r.day] :: _) at hs
    refine .nil ?_
    refine .seq (.draw mix rfl hs ?_); intro w hs
    refine .z 0 rfl zm ?_; refine .z 1 rfl znc ?_; refine .z 2 rfl (zfa fa_offsets_maker_1) ?_; refine .y 3 rfl hs Tryz.isAgg51 ?_; refine .ys 4 rfl hs [_, _, _, _, _, _, _] Tryz.isAgg80 Tryz.sizeOf80 ?_
    refine .e1 (i := 5) (by kernel_rfl) rfl rfl .none hs ?_
    refine .call Tryz.call114 rfl (offsets_tapeOf_spec hs) ?_; rintro _ w ⟨rfl, hs⟩
    refine .go ?_
    refine .e1 (i := 6) (by kernel_rfl) rfl rfl .none hs ?_
    refine .call Tryz.call89 rfl (slices_Index_td (t := r.td) hs hk.ts (by omega)) ?_; rintro _ w ⟨rfl, hs⟩
    refine .go ?_
    refine .z 7 rfl zg ?_; refine .done (by kernel_rfl) hs ?_
    refine .draw mix rfl hs ?_; intro w hs
    refine .z 0 rfl zm ?_; refine .z 1 rfl zm ?_; refine .z 2 rfl zm ?_; refine .z 4 rfl zm ?_; refine .z 5 rfl znc ?_; refine .z 6 rfl (zfa fa_offsets_maker_0) ?_; refine .z 7 rfl (zfa fa_api_Survey_0) ?_; refine .ys 8 rfl hs [_, _, _, _, _, _] Tryz.isAgg34 Tryz.sizeOf34 ?_; refine .z 9 rfl (zfa fa_api_Reading_1) ?_; refine .y 10 rfl hs Tryz.isAgg3 ?_
    refine .z 11 rfl (zfa fa_api_Reading_2) ?_; refine .y 12 rfl hs Tryz.isAgg3 ?_; refine .z 14 rfl (zfa fa_api_Reading_3) ?_; refine .y 15 rfl hs Tryz.isAgg3 ?_; refine .z 16 rfl (zfa fa_api_Reading_4) ?_; refine .y 17 rfl hs Tryz.isAgg3 ?_; refine .z 18 rfl zadd ?_; refine .z 19 rfl (zfa fa_api_Reading_4) ?_; refine .y 20 rfl hs Tryz.isAgg3 ?_; refine .z 21 rfl (zfa fa_api_Reading_3) ?_
    refine .y 22 rfl hs Tryz.isAgg3 ?_; refine .z 23 rfl zsub ?_; refine .z 24 rfl (zfa fa_api_Reading_0) ?_; refine .y 25 rfl hs Tryz.isAgg3 ?_
    refine .e1 (i := 3) (by kernel_rfl) rfl rfl .none hs ?_
    refine .call Tryz.call116 rfl (maker_tape_spec (s := s.sp) hs (.there .here) hk.st hk.wa ⟨by omega, by omega⟩ ⟨by omega, by omega⟩) ?_; rintro _ w ⟨rfl, hs⟩
    refine .go ?_
    refine .e1 (i := 13) (by kernel_rfl) rfl rfl .none hs ?_
    refine .call Tryz.call118 rfl (offsets_unknown_spec (s := s.sp) hs hk.wa (by omega) ⟨by omega, by omega⟩ ⟨by omega, by omega⟩) ?_; rintro _ w ⟨rfl, hs⟩
    refine .go ?_
    refine .e1 (i := 26) (by kernel_rfl) rfl rfl .none hs ?_
    refine .call Tryz.call115 rfl (maker_put_spec (ls := ls ++ rdgL s.sp ts s.rs i) (hs.sub (by repeat (first | exact Sub.refl _ | constructor | apply Sub.weaken)) : St H w (.blk bm _ :: en :: .blk b3 _ :: σ)) hO (by rw [List.length_append]; omega)) ?_; rintro _ w ⟨vl3, en3, hO3, hs⟩
    refine .go ?_
    refine .done (by kernel_rfl) hs ?_
    refine nB (nT ?_)
    rw [List.append_assoc, show rdgL s.sp ts s.rs i ++ two ((s.sp.many : Int) + 1 + tdIdx ts r.td) (1 + r.st * s.sp.wa.length + r.wa) (r.val + r.tol) (r.tol - r.val) r.src = rdgL s.sp ts s.rs (i + 1) by rw [← rdg0_of hx]; rfl] at hO3
    exact .mk ⟨rfl, vl3, en3, hO3, hs.sub (by repeat (first | exact Sub.refl _ | constructor | apply Sub.weaken))⟩
  · rintro fr w ⟨rfl, vl, en, hO, hs⟩
    exact Fin.end0 Tryz.results179 ⟨H, vl, en, HLe.refl _, hO, hs⟩
def fnK : Nat → Nat
  | 0 => 174
  | 1 => 175
  | 2 => 176
  | 3 => 177
  | 4 => 178
  | _ => 179
theorem fnK_call {k : Nat} (hk : k < 6) : ∀ args w, (callFunc (fnK k) args).run Tryz.prog w = .ok (.enter (fnK k) args) w := by
  have h : k = 0 ∨ k = 1 ∨ k = 2 ∨ k = 3 ∨ k = 4 ∨ k = 5 := by omega
  rcases h with rfl | rfl | rfl | rfl | rfl | rfl
  · exact Tryz.call174
  · exact Tryz.call175
  · exact Tryz.call176
  · exact Tryz.call177
  · exact Tryz.call178
  · exact Tryz.call179
theorem part_spec {H : Heap} {w : World} {σ : List Ent} {s : Srv} {vst vwa vr vc vt vl : Value} {en : Ent} {bm k : Nat} (hs : St H w (.blk bm [I s.sp.id, I s.sp.src, vst, vwa, I s.sp.al, I s.sp.up, vr, vc, vt, vl] :: en :: σ)) (hk : MkK H s s.tapes vst vwa vr vc vt) (hO : OwnS 4 vl (Lims (s.parts k)) en) (he : s.early) (hk6 : k < 6) :
    Cl Tryz.prog (fnK k) [.pointer (some ⟨bm, 0, none⟩)] w fun _ w' => ∃ H1 vl' en', HLe H H1 ∧ OwnS 4 vl' (Lims (s.parts (k + 1))) en' ∧ St H1 w' (.blk bm [I s.sp.id, I s.sp.src, vst, vwa, I s.sp.al, I s.sp.up, vr, vc, vt, vl'] :: en' :: σ) := by
  have hl := parts_length he k (by omega)
  obtain ⟨hok, h1, h2, h3, h4⟩ := he
  have htl : s.tapes.length ≤ 100 := by have := tapesOf_length s.rs; unfold Srv.tapes; omega
  have h : k = 0 ∨ k = 1 ∨ k = 2 ∨ k = 3 ∨ k = 4 ∨ k = 5 := by omega
  rcases h with rfl | rfl | rfl | rfl | rfl | rfl
  · exact maker_breadths_spec hs hk hO (Nat.le_trans hl (by decide)) hok
  · exact maker_along_spec hs hk hO (Nat.le_trans hl (by decide)) hok
  · exact maker_up_spec hs hk hO (Nat.le_trans hl (by decide)) hok
  · exact maker_errors_spec hs hk hO (Nat.le_trans hl (by decide)) hok htl
  · exact maker_comparisons_spec hs hk hO (Nat.le_trans hl (by decide)) hok htl h2 h4
  · exact maker_readings_spec hs hk hO (Nat.le_trans hl (by decide)) hok htl h1 h3 fun r hr => mem_tapesOf.2 ⟨r, hr, rfl⟩
def fnV (b : Nat) (k : Nat) : Value := .func (.func (fnK k)) #[.pointer (some ⟨b, 0, none⟩)] #[]
theorem fnV_get (b : Nat) {k : Nat} (hk : k < 6) : [fnV b 0, fnV b 1, fnV b 2, fnV b 3, fnV b 4, fnV b 5][k]? = some (fnV b k) := by
  have h : k = 0 ∨ k = 1 ∨ k = 2 ∨ k = 3 ∨ k = 4 ∨ k = 5 := by omega
  rcases h with rfl | rfl | rfl | rfl | rfl | rfl <;> rfl
set_option maxHeartbeats 1000000 in
theorem offsets_system_own {H : Heap} {w : World} {σ : List Ent} {s : Srv} {vst vwa vr vc : Value} (hs : St H w σ) (h1 : RI H vst s.sp.st) (h2 : RI H vwa s.sp.wa) (h3 : RRd H vr s.rs) (h4 : RCm H vc s.cs) (he : s.early) :
    Cl Tryz.prog 92 [.agg #[I s.sp.id, I s.sp.src, vst, vwa, I s.sp.al, I s.sp.up, vr, vc]] w fun u w' => ∃ H1 vl en, HLe H H1 ∧ u = .agg #[I s.sys.many, vl] ∧ OwnS 4 vl (Lims s.lims) en ∧ St H1 w' (en :: σ) := by
  have hsm := spc_small he.1
  have htl : s.tapes.length ≤ 60 := by have := tapesOf_length s.rs; have := he.2.1; unfold Srv.tapes; omega
  refine Cl.of Tryz.func92 rfl Tryz.ntmps92 (by simp) (args_cons (k := 0) rfl (args0)) ?_
  refine .regSeq ?_
  refine .o (.box hs rfl rfl ?_); intro b1 w hs
  refine .o (.alloc hs Tryz.zeroValue70 rfl ?_); intro b2 w hs
  refine .nil ?_
  refine .seq (.draw mix rfl hs ?_); intro w hs
  refine .ys 0 rfl hs [_, _, _, _, _, _, _, _] Tryz.isAgg38 Tryz.sizeOf38 ?_; refine .ys 1 rfl hs [_, _, _, _, _, _, _, _] Tryz.isAgg38 Tryz.sizeOf38 ?_
  refine .e1 (i := 2) (by kernel_rfl) rfl rfl .none hs ?_
  refine .call Tryz.call90 rfl (offsets_tapes_spec hs h3 (by have := he.2.1; omega)) ?_; rintro v8 w ⟨H1, hle1, hT, hs⟩
  obtain ⟨at_, ct, rfl⟩ := RTd.shape hT
  have hk0 : MkK H1 s s.tapes vst vwa vr vc (.slice at_ s.tapes.length ct) := ⟨h1.mono hle1, h2.mono hle1, h3.mono hle1, h4.mono hle1, hT⟩
  refine .go ?_
  refine .z 3 rfl (zbd (vs := [(0, .agg #[I s.sp.id, I s.sp.src, vst, vwa, I s.sp.al, I s.sp.up, vr, vc]), (1, .slice at_ s.tapes.length ct)]) [I s.sp.id, I s.sp.src, vst, vwa, I s.sp.al, I s.sp.up, vr, vc, .slice at_ s.tapes.length ct, .slice none 0 0] bld_offsets_maker rfl (by kernel_rfl)) ?_
  refine .e1 (i := 4) (by kernel_rfl) rfl rfl .none hs ?_
  refine .box hs rfl rfl ?_; intro b10 w hs
  refine .go ?_
  refine .z 5 rfl zg ?_; refine .done (by kernel_rfl) hs ?_
  refine .seq (.regSeq (.z zm ?_))
  refine .q hs (q_makeFunc (f := [_]) (c := []) rfl rfl) ?_
  refine .z zm ?_
  refine .q hs (q_makeFunc (f := [_]) (c := []) rfl rfl) ?_
  refine .z zm ?_
  refine .q hs (q_makeFunc (f := [_]) (c := []) rfl rfl) ?_
  refine .z zm ?_
  refine .q hs (q_makeFunc (f := [_]) (c := []) rfl rfl) ?_
  refine .z zm ?_
  refine .q hs (q_makeFunc (f := [_]) (c := []) rfl rfl) ?_
  refine .z zm ?_
  refine .q hs (q_makeFunc (f := [_]) (c := []) rfl rfl) ?_
  refine .o (.buildSlice (cells := [fnV b10 0, fnV b10 1, fnV b10 2, fnV b10 3, fnV b10 4, fnV b10 5]) hs bls_sl_func_6 rfl (by kernel_rfl) ?_); intro b23 w hs
  refine .z (zlen Tryz.runUnderlying223) ?_
  refine .z zm (.nil ?_)
  refine .for (N := 6) (J := fun k fr w => fr = [(23, .slice (some ⟨b23, 0, none⟩) 6 6), (3, .pointer (some ⟨b10, 0, none⟩)), (2, .pointer (some ⟨b2, 0, none⟩)), (1, .pointer (some ⟨b1, 0, none⟩))] ∧ ∃ H2 vl en, HLe H1 H2 ∧ OwnS 4 vl (Lims (s.parts k)) en ∧ St H2 w (.blk b10 [I s.sp.id, I s.sp.src, vst, vwa, I s.sp.al, I s.sp.up, vr, vc, .slice at_ s.tapes.length ct, vl] :: en :: .blk b23 [fnV b10 0, fnV b10 1, fnV b10 2, fnV b10 3, fnV b10 4, fnV b10 5] :: .blk b2 [I 0, .slice none 0 0] :: .blk b1 [I s.sp.id, I s.sp.src, vst, vwa, I s.sp.al, I s.sp.up, vr, vc] :: σ)) (by omega) ?_ ?_ ?_
  · exact .mk ⟨rfl, H1, .slice none 0 0, .nul, HLe.refl _, .nil 4 none, hs.nul.sub (by repeat (first | exact Sub.refl _ | constructor | apply Sub.weaken))⟩
  · rintro k fr w hk ⟨rfl, H2, vl, en, hle2, hO, hs⟩
    refine .block (.regSeq ?_)
    refine .z (zix Tryz.runUnderlying223 Tryz.sizeOf1) ?_
    refine .q hs (q_load rfl Tryz.isAgg1 (hv := fnV_get b10 hk)) ?_
    refine .z zg (.nil (.region (.z zm ?_)))
    refine .o (.callG (first := [.pointer (some ⟨b10, 0, none⟩)]) (cap := []) rfl rfl (fnK_call hk) (part_spec hs (hk0.mono hle2) hO he hk) ?_); rintro _ w ⟨H3, vl3, en3, hle3, hO3, hs⟩
    refine .nil ?_
    refine nB (nT ?_)
    exact .mk ⟨rfl, H3, vl3, en3, hle2.trans hle3, hO3, hs⟩
  · rintro fr w ⟨rfl, H2, vl, en, hle2, hO, hs⟩
    rw [s.parts_6] at hO
    obtain ⟨al, ll, cl, rfl, hll⟩ := hO.shape
    refine nT ?_
    refine .seq (.draw mix rfl hs ?_); intro w hs
    refine .z 0 rfl (zfa fa_api_Survey_0) ?_; refine .ys 1 rfl hs [_, _, _, _, _, _] Tryz.isAgg34 Tryz.sizeOf34 ?_; refine .z 3 rfl zm ?_; refine .z 4 rfl znc ?_; refine .z 5 rfl (zfa fa_offsets_maker_1) ?_; refine .y 6 rfl hs Tryz.isAgg51 ?_; refine .z 7 rfl (zlen Tryz.runUnderlying51) ?_; refine .z 9 rfl zm ?_; refine .z 10 rfl znc ?_; refine .z 11 rfl (zfa fa_offsets_maker_2) ?_
    refine .y 12 rfl hs Tryz.isAgg68 ?_
    refine .e1 (i := 2) (by kernel_rfl) rfl rfl .none hs ?_
    refine .call Tryz.call91 rfl (offsets_many_spec (s := s.sp) hs (h1.mono (hle1.trans hle2)) (h2.mono (hle1.trans hle2)) ⟨by omega, by omega⟩) ?_; rintro _ w ⟨rfl, hs⟩
    refine .go ?_
    refine .z 8 rfl zadd ?_; refine .z 13 rfl (zbd [_, _] bld_api_System) ?_
    refine .e1 (i := 14) (by kernel_rfl) rfl rfl .none hs ?_
    refine .stores (vs := [_, _]) hs rfl rfl Tryz.sizeOf70 ?_; intro w hs
    refine .go ?_
    refine .done (by kernel_rfl) hs ?_
    refine .ret ?_
    replace hs : St H2 w (.blk b2 [I ((s.sp.many : Int) + (s.tapes.length : Int)), .slice al ll cl] :: en :: σ) := hs.sub (by repeat (first | exact Sub.refl _ | constructor | apply Sub.weaken))
    exact Fin.retD [] [] hs fun w hs => ⟨_, results1 Tryz.results92 (rcells (vs := [_, _]) hs rfl Tryz.isAgg70 Tryz.sizeOf70), H2, _, en, hle1.trans hle2, by show _ = Value.agg #[I ((s.sp.many + s.tapes.length : Nat) : Int), _]; rw [Int.natCast_add], hO, hs.tail⟩
theorem offsets_system_spec {H : Heap} {w : World} {σ : List Ent} {s : Srv} {vst vwa vr vc : Value} (hs : St H w σ) (h1 : RI H vst s.sp.st) (h2 : RI H vwa s.sp.wa) (h3 : RRd H vr s.rs) (h4 : RCm H vc s.cs) (he : s.early) :
    Cl Tryz.prog 92 [.agg #[I s.sp.id, I s.sp.src, vst, vwa, I s.sp.al, I s.sp.up, vr, vc]] w fun u w' => ∃ H1, HLe H H1 ∧ RSy H1 u s.sys ∧ St H1 w' σ := by
  refine (offsets_system_own hs h1 h2 h3 h4 he).mono ?_
  rintro u w' ⟨H1, vl, en, hle, rfl, hO, hs⟩
  have hl := parts_length he 6 (by omega)
  rw [s.parts_6] at hl
  obtain ⟨H2, hle2, hR, hs⟩ := OwnS.publish (m := 4) (cs := s.lims.map Lim.c) hO (fun c hc => by simp only [List.mem_map] at hc; obtain ⟨x, _, rfl⟩ := hc; rfl) (by omega) (by rw [List.length_map]; omega) hs .here
  exact ⟨H2, hle.trans hle2, ⟨vl, rfl, hR⟩, hs⟩
set_option maxHeartbeats 1000000 in
theorem offsets_Check_spec {H : Heap} {w : World} {σ : List Ent} {s : Srv} {vst vwa vr vc : Value} (hs : St H w σ) (h1 : RI H vst s.sp.st) (h2 : RI H vwa s.sp.wa) (h3 : RRd H vr s.rs) (h4 : RCm H vc s.cs) :
    Cl Tryz.prog 42 [.agg #[I s.sp.id, I s.sp.src, vst, vwa, I s.sp.al, I s.sp.up, vr, vc]] w fun u w' => ∃ H1 e, HLe H H1 ∧ u = I e ∧ SrvR s e ∧ St H1 w' σ := by
  obtain ⟨ast, cst, rfl⟩ := RI.shape h1
  obtain ⟨awa, cwa, rfl⟩ := RI.shape h2
  obtain ⟨ar, cr, rfl⟩ := RRd.shape h3
  obtain ⟨ac, cc, rfl⟩ := RCm.shape h4
  refine Cl.of Tryz.func42 rfl Tryz.ntmps42 (by simp) (args_cons (k := 0) rfl (args0)) ?_
  refine .regSeq ?_
  refine .o (.box hs rfl rfl ?_); intro b1 w hs
  refine .z zg (.nil (.seq (.regSeq (.z (zfa fa_api_Survey_0) (.y hs (zls [_, _, _, _, _, _] Tryz.isAgg34 Tryz.sizeOf34) ?_)))))
  refine .o (.call Tryz.call41 rfl (offsets_CheckSpace_spec (s := s.sp) hs h1 h2) ?_); rintro _ w ⟨H1, e, hle1, rfl, he, hs⟩
  refine .z zg (.nil (.regSeq (.z zm (.z zneq (.nil ?_)))))
  refine (.condN rfl (fun hc13 => ?_) (fun hc13 => ?_))
  · refine .regSeq (.z zm (.z zg (.nil ?_)))
    refine .ret (rT (Fin.ret1 Tryz.results42 rfl ?_))
    have hq : ¬ SpcOk s.sp ∧ e = 30 := he.resolve_left fun h => hc13 h.2
    exact ⟨H1, _, hle1, rfl, by rw [hq.2]; exact .space hq.1, hs.out⟩
  · refine .skip ?_
    refine nT ?_
    refine .seq (.regSeq (.z (zfa fa_api_Survey_1) ?_))
    have hok : SpcOk s.sp := (he.resolve_right fun h => by omega).1
    refine .y hs (zld Tryz.isAgg35) (.z (zlen Tryz.runUnderlying35) (.z zgtr (.z zm ?_)))
    refine .bifD (t' := 19) rfl (fun hb19 => ?_) (fun hb19 => ?_)
    · refine .gFs 4 4 false rfl rfl rfl ?_
      refine .z zpT (.nil ?_)
      refine (.condT rfl rfl ?_)
      refine .regSeq (.z zg (.nil ?_))
      refine .ret (rT (Fin.ret1 Tryz.results42 rfl ?_))
      exact ⟨H1, _, hle1, rfl, .long hok (by omega), hs.out⟩
    · refine .gT rfl rfl ?_
      refine .z (zfa fa_api_Survey_2) ?_
      refine .gT rfl rfl ?_
      refine .y hs (zld Tryz.isAgg36) ?_
      refine .gT rfl rfl ?_
      refine .z (zlen Tryz.runUnderlying36) ?_
      refine .gT rfl rfl ?_
      refine .z zgtr (.z zpF (.nil ?_))
      refine (.condD rfl (fun hc24 => ?_) (fun hc24 => ?_))
      · refine .regSeq (.z zg (.nil ?_))
        refine .ret (rT (Fin.ret1 Tryz.results42 rfl ?_))
        exact ⟨H1, _, hle1, rfl, .long hok (by omega), hs.out⟩
      · refine .skip ?_
        refine nT ?_
        refine .seq (.regSeq (.z (zfa fa_api_Survey_1) (.y hs (zld Tryz.isAgg35) (.z (zlen Tryz.runUnderlying35) (.z zm (.nil ?_))))))
        refine .for (N := s.rs.length) (J := fun k fr w => fr = [(26, .slice ar s.rs.length cr), (1, .pointer (some ⟨b1, 0, none⟩))] ∧ (∀ j < k, ∀ y, s.rs[j]? = some y → RdgOk s.sp y) ∧ St H1 w (.blk b1 [I s.sp.id, I s.sp.src, .slice ast s.sp.st.length cst, .slice awa s.sp.wa.length cwa, I s.sp.al, I s.sp.up, .slice ar s.rs.length cr, .slice ac s.cs.length cc] :: σ)) (by omega) ?_ ?_ ?_
        · exact .mk ⟨rfl, fun j hj => by omega, hs⟩
        · rintro k fr w hk ⟨rfl, hno, hs⟩
          obtain ⟨r, hx⟩ := nth hk
          refine .block (.regSeq ?_)
          refine .ixX (enc := Rdg.c) hs (h3.mono hle1) rfl rfl Tryz.runUnderlying35 Tryz.sizeOf80 hx (by first | rfl | assumption | omega) ?_; intro b30 o30 hc30
          refine .q hs (q_loadsR (vs := (Rdg.c r)) rfl Tryz.isAgg80 Tryz.sizeOf80 hc30) ?_
          refine .o (.alloc hs Tryz.zeroValue80 rfl ?_); intro b5 w hs
          refine .o (.stores (vs := r.c) hs rfl rfl Tryz.sizeOf80 ?_); intro w hs
          change St _ _ (.blk b5 [I r.src, I r.st, I r.wa, I r.val, I r.tol, I r.tape, I r.day] :: _) at hs
          refine .nil (.regSeq (.z (zfa fa_api_Survey_0) (.y hs (zls [_, _, _, _, _, _] Tryz.isAgg34 Tryz.sizeOf34) (.y hs (zls [_, _, _, _, _, _, _] Tryz.isAgg80 Tryz.sizeOf80) ?_))))
          refine .o (.call Tryz.call107 rfl (offsets_isReading_spec (s := s.sp) (r := r) hs (h1.mono hle1) (h2.mono hle1)) ?_); rintro _ w ⟨b35, rfl, hb35, hs⟩
          refine .z znot (.nil ?_)
          refine (.cond rfl (fun hc36 => ?_) (fun hc36 => ?_))
          · refine .regSeq (.z zg (.nil ?_))
            refine .ret (rB (rT (rB (rT (Fin.ret1 Tryz.results42 rfl ?_)))))
            exact ⟨H1, _, hle1, rfl, .rdg hok (by omega) (fun h => by rw [hb35.2 (h r (List.mem_of_getElem? hx))] at hc36; cases hc36), hs.out⟩
          · refine .skip ?_
            refine nB (nT ?_)
            exact .mk ⟨rfl, upto_succ hno hx (hb35.1 (by simpa using hc36)), hs.tail⟩
        · rintro fr w ⟨rfl, hno, hs⟩
          have hrs : ∀ r ∈ s.rs, RdgOk s.sp r := fun r hr => by
            obtain ⟨j, hj⟩ := List.getElem?_of_mem hr
            exact hno j (List.getElem?_eq_some_iff.1 hj).1 r hj
          clear hno
          refine nT ?_
          refine .seq (.regSeq (.z (zfa fa_api_Survey_2) (.y hs (zld Tryz.isAgg36) (.z (zlen Tryz.runUnderlying36) (.z zm (.nil ?_))))))
          refine .for (N := s.cs.length) (J := fun k fr w => fr = [(39, .slice ac s.cs.length cc), (1, .pointer (some ⟨b1, 0, none⟩))] ∧ (∀ j < k, ∀ y, s.cs[j]? = some y → CmpOk y) ∧ St H1 w (.blk b1 [I s.sp.id, I s.sp.src, .slice ast s.sp.st.length cst, .slice awa s.sp.wa.length cwa, I s.sp.al, I s.sp.up, .slice ar s.rs.length cr, .slice ac s.cs.length cc] :: σ)) (by omega) ?_ ?_ ?_
          · exact .mk ⟨rfl, fun j hj => by omega, hs⟩
          · rintro k fr w hk ⟨rfl, hno, hs⟩
            obtain ⟨c, hx⟩ := nth hk
            refine .block (.regSeq ?_)
            refine .ixX (enc := Cmp.c) hs (h4.mono hle1) rfl rfl Tryz.runUnderlying36 Tryz.sizeOf108 hx (by first | rfl | assumption | omega) ?_; intro b43 o43 hc43
            refine .q hs (q_loadsR (vs := (Cmp.c c)) rfl Tryz.isAgg108 Tryz.sizeOf108 hc43) ?_
            refine .o (.alloc hs Tryz.zeroValue108 rfl ?_); intro b7 w hs
            refine .o (.stores (vs := c.c) hs rfl rfl Tryz.sizeOf108 ?_); intro w hs
            change St _ _ (.blk b7 [I c.src, I c.tape, I c.fr, I c.to, I c.lo, I c.hi] :: _) at hs
            refine .nil (.regSeq (.y hs (zls [_, _, _, _, _, _] Tryz.isAgg108 Tryz.sizeOf108) ?_))
            refine .o (.call Tryz.call108 rfl (offsets_isCompare_spec (c := c) hs) ?_); rintro _ w ⟨b46, rfl, hb46, hs⟩
            refine .z znot (.nil ?_)
            refine (.cond rfl (fun hc47 => ?_) (fun hc47 => ?_))
            · refine .regSeq (.z zg (.nil ?_))
              refine .ret (rB (rT (rB (rT (Fin.ret1 Tryz.results42 rfl ?_)))))
              exact ⟨H1, _, hle1, rfl, .cmp hok (by omega) hrs (fun h => by rw [hb46.2 (h c (List.mem_of_getElem? hx))] at hc47; cases hc47), hs.out⟩
            · refine .skip ?_
              refine nB (nT ?_)
              exact .mk ⟨rfl, upto_succ hno hx (hb46.1 (by simpa using hc47)), hs.tail⟩
          · rintro fr w ⟨rfl, hno, hs⟩
            have hcs : ∀ c ∈ s.cs, CmpOk c := fun c hc => by
              obtain ⟨j, hj⟩ := List.getElem?_of_mem hc
              exact hno j (List.getElem?_eq_some_iff.1 hj).1 c hj
            have hea : s.early := ⟨hok, by omega, by omega, hrs, hcs⟩
            have hsm := spc_small hok
            have htl : s.tapes.length ≤ 60 := by have := tapesOf_length s.rs; have := hea.2.1; unfold Srv.tapes; omega
            have hll := parts_length hea 6 (by omega)
            rw [s.parts_6] at hll
            have hsm2 : s.sys.many = ((s.sp.many + s.tapes.length : Nat) : Int) := rfl
            refine nT ?_
            refine .seq (.regSeq (.y hs (zls [_, _, _, _, _, _, _, _] Tryz.isAgg38 Tryz.sizeOf38) ?_))
            refine .o (.call Tryz.call92 rfl (offsets_system_spec (s := s) hs (h1.mono hle1) (h2.mono hle1) (h3.mono hle1) (h4.mono hle1) hea) ?_); rintro _ w ⟨H2, hle2, ⟨ul, rfl, hL⟩, hs⟩
            obtain ⟨al, cl, rfl⟩ := RL.shape hL
            have hsl : s.sys.lims.length = s.lims.length := rfl
            refine .o (.alloc hs Tryz.zeroValue70 rfl ?_); intro b8 w hs
            refine .o (.stores (vs := [_, _]) hs rfl rfl Tryz.sizeOf70 ?_); intro w hs
            refine .nil (.regSeq (.z (zfa fa_api_System_0) (.y hs (zld Tryz.isAgg3) (.z zgtr (.z zm ?_)))))
            refine .bifD (t' := 54) rfl (fun hb54 => ?_) (fun hb54 => ?_)
            · refine .gFs 4 3 false rfl rfl rfl ?_
              refine .z zpT (.nil ?_)
              refine (.condT rfl rfl ?_)
              refine .regSeq (.z zg (.nil ?_))
              refine .ret (rT (Fin.ret1 Tryz.results42 rfl ?_))
              exact ⟨H2, _, hle1.trans hle2, rfl, .big hea (by omega), hs.out⟩
            · refine .gT rfl rfl ?_
              refine .z (zfa fa_api_System_1) ?_
              refine .gT rfl rfl ?_
              refine .y hs (zld Tryz.isAgg68) ?_
              refine .gT rfl rfl ?_
              refine .z (zlen Tryz.runUnderlying68) ?_
              refine .gT rfl rfl ?_
              refine .z zgtr (.z zpF (.nil ?_))
              refine (.condD rfl (fun hc59 => ?_) (fun hc59 => ?_))
              · refine .regSeq (.z zg (.nil ?_))
                refine .ret (rT (Fin.ret1 Tryz.results42 rfl ?_))
                exact ⟨H2, _, hle1.trans hle2, rfl, .big hea (by omega), hs.out⟩
              · refine .skip ?_
                refine nT ?_
                refine .regSeq (.z zg (.nil ?_))
                refine .ret (Fin.ret1 Tryz.results42 rfl ?_)
                exact ⟨H2, _, hle1.trans hle2, rfl, .ok hea ⟨by omega, by omega⟩, hs.out⟩
end Go.Proofs.YtddaejgfjlneoaaGreat

namespace Go.Proofs.YtddaejgfjlneoaaGreat
open Go.MW
theorem ref03_In_spec {H : Heap} {w : World} {σ : List Ent} {a0 a1 a2 : Int} (hs : St H w σ) : Cl Tryz.prog 83 [I a0, I a1, I a2] w fun v w' => v = .bool (decide (a1 ≤ a0 ∧ a0 ≤ a2)) ∧ St H w' σ := by
  refine Cl.of Tryz.func83 rfl Tryz.ntmps83 (by simp) (args_cons (k := 0) rfl (args_cons (k := 1) rfl (args_cons (k := 2) rfl (args0)))) ?_
  refine .regSeq (.z zg (.nil (.regSeq (.z zm (.z zm (.z zgeq (.z zm ?_)))))))
  refine .bifD (t' := 10) rfl (fun hb10 => ?_) (fun hb10 => ?_)
  · refine .gT rfl rfl ?_
    refine .z zm ?_
    refine .gT rfl rfl ?_
    refine .z zm ?_
    refine .gT rfl rfl ?_
    refine .z zleq (.z zpT (.z zg (.nil ?_)))
    refine .ret (Fin.ret1 Tryz.results83 rfl ?_)
    exact ⟨by simp [*], hs.out⟩
  · refine .gFs 3 3 true rfl rfl rfl ?_
    refine .z zpF (.z zg (.nil ?_))
    refine .ret (Fin.ret1 Tryz.results83 rfl ?_)
    exact ⟨by simp [*], hs.out⟩
theorem spc_of {s : Spc} (h1 : PlcOk 9 100000 s.st) (h2 : PlcOk 9 100000 s.wa) (h3 : s.wa.length ≤ 7) (h4 : gi s.wa (s.wa.length - 1) ≤ 15000) (h5 : 1 ≤ s.id ∧ s.id ≤ 99999) (h6 : 1 ≤ s.src ∧ s.src ≤ 99999) (h7 : 0 ≤ s.al ∧ s.al ≤ 100000) (h8 : 0 ≤ s.up ∧ s.up ≤ 100000) : SpcOk s :=
  ⟨h1, ⟨h2.two, h3, h2.low, h4, h2.rise⟩, h5, h6, h7, h8⟩
theorem spc_wa9 {s : Spc} (h : SpcOk s) : PlcOk 9 100000 s.wa := ⟨h.wa.two, by have := h.wa.many; omega, h.wa.low, by have := h.wa.high; omega, h.wa.rise⟩
theorem ref03_CheckSpace_spec {H : Heap} {w : World} {σ : List Ent} {s : Spc} {vst vwa : Value} (hs : St H w σ) (h1 : RI H vst s.st) (h2 : RI H vwa s.wa) :
    Cl Tryz.prog 24 [.agg #[I s.id, I s.src, vst, vwa, I s.al, I s.up]] w fun v w' => ∃ e, v = I e ∧ ((SpcOk s ∧ e = 0) ∨ (¬ SpcOk s ∧ e = 30)) ∧ St H w' σ := by
  obtain ⟨ast, cst, rfl⟩ := RI.shape h1
  obtain ⟨awa, cwa, rfl⟩ := RI.shape h2
  have l2 := (RI.len h2).2.2
  refine Cl.of Tryz.func24 rfl Tryz.ntmps24 (by simp) (args_cons (k := 0) rfl (args0)) ?_
  refine .regSeq ?_
  refine .o (.box hs rfl rfl ?_); intro b1 w hs
  refine .z zg (.nil (.seq (.regSeq (.z (zfa fa_api_Space_0) (.y hs (zld Tryz.isAgg3) ?_)))))
  refine .o (.call Tryz.call83 rfl (ref03_In_spec hs) ?_); rintro _ w ⟨rfl, hs⟩
  refine .z znot (.z zm ?_)
  refine .bif (t' := 7) rfl (fun hb7 => ?_) (fun hb7 => ?_)
  · refine .gFs 4 4 false rfl rfl rfl ?_
    refine .z zpT (.z zm ?_)
    refine .gFs 5 10 false rfl rfl rfl ?_
    refine .z zpT (.z zm ?_)
    refine .gFs 5 17 false rfl rfl rfl ?_
    refine .z zpT (.nil ?_)
    refine (.condT rfl rfl ?_)
    refine .regSeq (.z zg (.nil ?_))
    refine .ret (rT (Fin.ret1 Tryz.results24 rfl ?_))
    exact ⟨_, rfl, .inr ⟨fun h => by have := h.id; simp_all, rfl⟩, hs.out⟩
  · refine .gT rfl rfl ?_
    refine .z (zfa fa_api_Space_1) ?_
    refine .gT rfl rfl ?_
    refine .y hs (zld Tryz.isAgg3) ?_
    refine .gT rfl rfl ?_
    refine .o (.call Tryz.call83 rfl (ref03_In_spec hs) ?_); rintro _ w ⟨rfl, hs⟩
    refine .gT rfl rfl ?_
    refine .z znot (.z zpF (.z zm ?_))
    refine .bif (t' := 13) rfl (fun hb13 => ?_) (fun hb13 => ?_)
    · refine .gFs 5 10 false rfl rfl rfl ?_
      refine .z zpT (.z zm ?_)
      refine .gFs 5 17 false rfl rfl rfl ?_
      refine .z zpT (.nil ?_)
      refine (.condT rfl rfl ?_)
      refine .regSeq (.z zg (.nil ?_))
      refine .ret (rT (Fin.ret1 Tryz.results24 rfl ?_))
      exact ⟨_, rfl, .inr ⟨fun h => by have := h.src; simp_all, rfl⟩, hs.out⟩
    · refine .gT rfl rfl ?_
      refine .z (zfa fa_api_Space_4) ?_
      refine .gT rfl rfl ?_
      refine .z (zfa fa_api_Fair_0) ?_
      refine .gT rfl rfl ?_
      refine .y hs (zld Tryz.isAgg3) ?_
      refine .gT rfl rfl ?_
      refine .o (.call Tryz.call83 rfl (ref03_In_spec hs) ?_); rintro _ w ⟨rfl, hs⟩
      refine .gT rfl rfl ?_
      refine .z znot (.z zpF (.z zm ?_))
      refine .bif (t' := 20) rfl (fun hb20 => ?_) (fun hb20 => ?_)
      · refine .gFs 5 17 false rfl rfl rfl ?_
        refine .z zpT (.nil ?_)
        refine (.condT rfl rfl ?_)
        refine .regSeq (.z zg (.nil ?_))
        refine .ret (rT (Fin.ret1 Tryz.results24 rfl ?_))
        exact ⟨_, rfl, .inr ⟨fun h => by have := h.al; simp_all, rfl⟩, hs.out⟩
      · refine .gT rfl rfl ?_
        refine .z (zfa fa_api_Space_4) ?_
        refine .gT rfl rfl ?_
        refine .z (zfa fa_api_Fair_1) ?_
        refine .gT rfl rfl ?_
        refine .y hs (zld Tryz.isAgg3) ?_
        refine .gT rfl rfl ?_
        refine .o (.call Tryz.call83 rfl (ref03_In_spec hs) ?_); rintro _ w ⟨rfl, hs⟩
        refine .gT rfl rfl ?_
        refine .z znot (.z zpF (.nil ?_))
        refine (.cond rfl (fun hc26 => ?_) (fun hc26 => ?_))
        · refine .regSeq (.z zg (.nil ?_))
          refine .ret (rT (Fin.ret1 Tryz.results24 rfl ?_))
          exact ⟨_, rfl, .inr ⟨fun h => by have := h.up; simp_all, rfl⟩, hs.out⟩
        · refine .skip ?_
          refine nT ?_
          refine .seq (.regSeq (.z (zfa fa_api_Space_2) (.y hs (zld Tryz.isAgg22) ?_)))
          refine .o (.call Tryz.call84 rfl (ref01_CheckPlaces_spec hs h1) ?_); rintro _ w ⟨e1, rfl, he1, hs⟩
          refine .z zneq (.z zm ?_)
          refine .bifN (t' := 31) rfl (fun hb31 => ?_) (fun hb31 => ?_)
          · refine .gFs 4 4 false rfl rfl rfl ?_
            refine .z zpT (.z zm ?_)
            refine .gFs 4 10 false rfl rfl rfl ?_
            refine .z zpT (.z zm ?_)
            refine .gFs 9 16 false rfl rfl rfl ?_
            refine .z zpT (.nil ?_)
            refine (.condT rfl rfl ?_)
            refine .regSeq (.z zg (.nil ?_))
            refine .ret (rT (Fin.ret1 Tryz.results24 rfl ?_))
            exact ⟨_, rfl, .inr ⟨fun h => hb31 (he1.elim (fun g => g.2) fun g => (g.1 h.st).elim), rfl⟩, hs.out⟩
          · refine .gT rfl rfl ?_
            refine .z (zfa fa_api_Space_3) ?_
            refine .gT rfl rfl ?_
            refine .y hs (zld Tryz.isAgg22) ?_
            refine .gT rfl rfl ?_
            refine .o (.call Tryz.call84 rfl (ref01_CheckPlaces_spec hs h2) ?_); rintro _ w ⟨e2, rfl, he2, hs⟩
            refine .gT rfl rfl ?_
            refine .z zneq (.z zpF (.z zm ?_))
            refine .bifN (t' := 37) rfl (fun hb37 => ?_) (fun hb37 => ?_)
            · refine .gFs 4 10 false rfl rfl rfl ?_
              refine .z zpT (.z zm ?_)
              refine .gFs 9 16 false rfl rfl rfl ?_
              refine .z zpT (.nil ?_)
              refine (.condT rfl rfl ?_)
              refine .regSeq (.z zg (.nil ?_))
              refine .ret (rT (Fin.ret1 Tryz.results24 rfl ?_))
              exact ⟨_, rfl, .inr ⟨fun h => hb37 (he2.elim (fun g => g.2) fun g => (g.1 (spc_wa9 h)).elim), rfl⟩, hs.out⟩
            · refine .gT rfl rfl ?_
              refine .z (zfa fa_api_Space_3) ?_
              refine .gT rfl rfl ?_
              have hw : PlcOk 9 100000 s.wa := he2.elim (fun g => g.1) fun g => (g.2 (by omega)).elim
              have hw2 := hw.two
              refine .y hs (zld Tryz.isAgg22) ?_
              refine .gT rfl rfl ?_
              refine .z (zlen Tryz.runUnderlying22) ?_
              refine .gT rfl rfl ?_
              refine .z zgtr (.z zpF (.z zm ?_))
              refine .bifD (t' := 43) rfl (fun hb43 => ?_) (fun hb43 => ?_)
              · refine .gFs 9 16 false rfl rfl rfl ?_
                refine .z zpT (.nil ?_)
                refine (.condT rfl rfl ?_)
                refine .regSeq (.z zg (.nil ?_))
                refine .ret (rT (Fin.ret1 Tryz.results24 rfl ?_))
                exact ⟨_, rfl, .inr ⟨fun h => by have := h.wa.many; omega, rfl⟩, hs.out⟩
              · refine .gT rfl rfl ?_
                refine .z (zfa fa_api_Space_3) ?_
                refine .gT rfl rfl ?_
                refine .y hs (zld Tryz.isAgg22) ?_
                refine .gT rfl rfl ?_
                refine .z (zfa fa_api_Space_3) ?_
                refine .gT rfl rfl ?_
                refine .y hs (zld Tryz.isAgg22) ?_
                refine .gT rfl rfl ?_
                refine .z (zlen Tryz.runUnderlying22) ?_
                refine .gT rfl rfl ?_
                refine .z zsub ?_
                refine .gT rfl rfl ?_
                refine .ixY hs h2 rfl rfl Tryz.runUnderlying22 Tryz.sizeOf3 (gi_get (l := s.wa) (i := (s.wa.length-1)) (by omega)) (by first | rfl | assumption | omega) ?_; intro b50 o50 hc50
                refine .gT rfl rfl ?_
                refine .q hs (q_loadR rfl Tryz.isAgg3 hc50) ?_
                refine .gT rfl rfl ?_
                refine .z zgtr (.z zpF (.nil ?_))
                refine (.condD rfl (fun hc53 => ?_) (fun hc53 => ?_))
                · refine .regSeq (.z zg (.nil ?_))
                  refine .ret (rT (Fin.ret1 Tryz.results24 rfl ?_))
                  exact ⟨_, rfl, .inr ⟨fun h => by have := h.wa.high; omega, rfl⟩, hs.out⟩
                · refine .skip ?_
                  refine nT ?_
                  refine .regSeq (.z zg (.nil ?_))
                  refine .ret (Fin.ret1 Tryz.results24 rfl ?_)
                  exact ⟨_, rfl, .inl ⟨spc_of (he1.elim (fun g => g.1) fun g => (g.2 (by omega)).elim) hw (by omega) (by omega) (by simp_all) (by simp_all) (by simp_all) (by simp_all), rfl⟩, hs.out⟩
theorem ref03_ValidReading_spec {H : Heap} {w : World} {σ : List Ent} {s : Spc} {r : Rdg} {vst vwa : Value} (hs : St H w σ) (h1 : RI H vst s.st) (h2 : RI H vwa s.wa) :
    Cl Tryz.prog 109 [.agg #[I s.id, I s.src, vst, vwa, I s.al, I s.up], .agg #[I r.src, I r.st, I r.wa, I r.val, I r.tol, I r.tape, I r.day]] w fun v w' => ∃ b : Bool, v = .bool b ∧ (b = true ↔ RdgOk s r) ∧ St H w' σ := by
  obtain ⟨ast, cst, rfl⟩ := RI.shape h1
  obtain ⟨awa, cwa, rfl⟩ := RI.shape h2
  have l1 := (RI.len h1).2.2
  have l2 := (RI.len h2).2.2
  refine Cl.of Tryz.func109 rfl Tryz.ntmps109 (by simp) (args_cons (k := 0) rfl (args_cons (k := 1) rfl (args0))) ?_
  refine .regSeq ?_
  refine .o (.box hs rfl rfl ?_); intro b2 w hs
  refine .o (.box hs rfl rfl ?_); intro b3 w hs
  refine .z zg (.nil (.regSeq (.z (zfa fa_api_Reading_0) (.y hs (zld Tryz.isAgg3) ?_))))
  refine .o (.call Tryz.call83 rfl (ref03_In_spec hs) ?_); rintro _ w ⟨rfl, hs⟩
  refine .z zm ?_
  refine .bif (t' := 8) rfl (fun hb8 => ?_) (fun hb8 => ?_)
  · refine .gT rfl rfl ?_
    refine .z (zfa fa_api_Reading_1) ?_
    refine .gT rfl rfl ?_
    refine .y hs (zld Tryz.isAgg3) ?_
    refine .gT rfl rfl ?_
    refine .z (zfa fa_api_Space_2) ?_
    refine .gT rfl rfl ?_
    refine .y hs (zld Tryz.isAgg22) ?_
    refine .gT rfl rfl ?_
    refine .z (zlen Tryz.runUnderlying22) ?_
    refine .gT rfl rfl ?_
    refine .z zsub ?_
    refine .gT rfl rfl ?_
    refine .o (.call Tryz.call83 rfl (ref03_In_spec hs) ?_); rintro _ w ⟨rfl, hs⟩
    refine .z zpT (.z zm ?_)
    refine .bif (t' := 17) rfl (fun hb17 => ?_) (fun hb17 => ?_)
    · refine .gT rfl rfl ?_
      refine .z (zfa fa_api_Reading_2) ?_
      refine .gT rfl rfl ?_
      refine .y hs (zld Tryz.isAgg3) ?_
      refine .gT rfl rfl ?_
      refine .z (zfa fa_api_Space_3) ?_
      refine .gT rfl rfl ?_
      refine .y hs (zld Tryz.isAgg22) ?_
      refine .gT rfl rfl ?_
      refine .z (zlen Tryz.runUnderlying22) ?_
      refine .gT rfl rfl ?_
      refine .z zsub ?_
      refine .gT rfl rfl ?_
      refine .o (.call Tryz.call83 rfl (ref03_In_spec hs) ?_); rintro _ w ⟨rfl, hs⟩
      refine .z zpT (.z zm ?_)
      refine .bif (t' := 26) rfl (fun hb26 => ?_) (fun hb26 => ?_)
      · refine .gT rfl rfl ?_
        refine .z (zfa fa_api_Reading_4) ?_
        refine .gT rfl rfl ?_
        refine .y hs (zld Tryz.isAgg3) ?_
        refine .gT rfl rfl ?_
        refine .o (.call Tryz.call83 rfl (ref03_In_spec hs) ?_); rintro _ w ⟨rfl, hs⟩
        refine .z zpT (.z zm ?_)
        refine .bif (t' := 31) rfl (fun hb31 => ?_) (fun hb31 => ?_)
        · refine .gT rfl rfl ?_
          refine .z (zfa fa_api_Reading_3) ?_
          refine .gT rfl rfl ?_
          refine .y hs (zld Tryz.isAgg3) ?_
          refine .gT rfl rfl ?_
          refine .z (zfa fa_api_Reading_4) ?_
          refine .gT rfl rfl ?_
          refine .y hs (zld Tryz.isAgg3) ?_
          refine .gT rfl rfl ?_
          have ht : 0 ≤ r.tol ∧ r.tol ≤ 1000 := by simp_all
          refine .z zsub ?_
          refine .gT rfl rfl ?_
          refine .o (.call Tryz.call83 rfl (ref03_In_spec hs) ?_); rintro _ w ⟨rfl, hs⟩
          refine .z zpT (.z zm ?_)
          refine .bif (t' := 39) rfl (fun hb39 => ?_) (fun hb39 => ?_)
          · refine .gT rfl rfl ?_
            refine .z (zfa fa_api_Reading_5) ?_
            refine .gT rfl rfl ?_
            refine .y hs (zld Tryz.isAgg3) ?_
            refine .gT rfl rfl ?_
            refine .o (.call Tryz.call83 rfl (ref03_In_spec hs) ?_); rintro _ w ⟨rfl, hs⟩
            refine .z zpT (.z zm ?_)
            refine .bif (t' := 44) rfl (fun hb44 => ?_) (fun hb44 => ?_)
            · refine .gT rfl rfl ?_
              refine .z (zfa fa_api_Reading_6) ?_
              refine .gT rfl rfl ?_
              refine .y hs (zld Tryz.isAgg3) ?_
              refine .gT rfl rfl ?_
              refine .o (.call Tryz.call83 rfl (ref03_In_spec hs) ?_); rintro _ w ⟨rfl, hs⟩
              refine .z zpT (.z zg (.nil ?_))
              refine .ret (Fin.ret1 Tryz.results109 rfl ?_)
              first
              | exact ⟨false, rfl, ⟨fun h => (by cases h), fun h => (by obtain ⟨g1, g2, g3, g4, g5, g6, g7⟩ := h; simp_all; done)⟩, hs.out⟩
              | exact ⟨_, rfl, ⟨fun h => ⟨by simp_all, by simp_all, by simp_all, by simp_all, by simp_all, by simp_all, by simpa using h⟩, fun h => by simpa using h.day⟩, hs.out⟩
            · refine .gFs 3 39 true rfl rfl rfl ?_
              refine .z zpF (.z zg (.nil ?_))
              refine .ret (Fin.ret1 Tryz.results109 rfl ?_)
              first
              | exact ⟨false, rfl, ⟨fun h => (by cases h), fun h => (by obtain ⟨g1, g2, g3, g4, g5, g6, g7⟩ := h; simp_all; done)⟩, hs.out⟩
              | exact ⟨_, rfl, ⟨fun h => ⟨by simp_all, by simp_all, by simp_all, by simp_all, by simp_all, by simp_all, by simpa using h⟩, fun h => by simpa using h.day⟩, hs.out⟩
          · refine .gFs 3 34 true rfl rfl rfl ?_
            refine .z zpF (.z zm ?_)
            refine .gFs 3 39 true rfl rfl rfl ?_
            refine .z zpF (.z zg (.nil ?_))
            refine .ret (Fin.ret1 Tryz.results109 rfl ?_)
            first
            | exact ⟨false, rfl, ⟨fun h => (by cases h), fun h => (by obtain ⟨g1, g2, g3, g4, g5, g6, g7⟩ := h; simp_all; done)⟩, hs.out⟩
            | exact ⟨_, rfl, ⟨fun h => ⟨by simp_all, by simp_all, by simp_all, by simp_all, by simp_all, by simp_all, by simpa using h⟩, fun h => by simpa using h.day⟩, hs.out⟩
        · refine .gFs 6 26 true rfl rfl rfl ?_
          refine .z zpF (.z zm ?_)
          refine .gFs 3 34 true rfl rfl rfl ?_
          refine .z zpF (.z zm ?_)
          refine .gFs 3 39 true rfl rfl rfl ?_
          refine .z zpF (.z zg (.nil ?_))
          refine .ret (Fin.ret1 Tryz.results109 rfl ?_)
          first
          | exact ⟨false, rfl, ⟨fun h => (by cases h), fun h => (by obtain ⟨g1, g2, g3, g4, g5, g6, g7⟩ := h; simp_all; done)⟩, hs.out⟩
          | exact ⟨_, rfl, ⟨fun h => ⟨by simp_all, by simp_all, by simp_all, by simp_all, by simp_all, by simp_all, by simpa using h⟩, fun h => by simpa using h.day⟩, hs.out⟩
      · refine .gFs 3 21 true rfl rfl rfl ?_
        refine .z zpF (.z zm ?_)
        refine .gFs 6 26 true rfl rfl rfl ?_
        refine .z zpF (.z zm ?_)
        refine .gFs 3 34 true rfl rfl rfl ?_
        refine .z zpF (.z zm ?_)
        refine .gFs 3 39 true rfl rfl rfl ?_
        refine .z zpF (.z zg (.nil ?_))
        refine .ret (Fin.ret1 Tryz.results109 rfl ?_)
        first
        | exact ⟨false, rfl, ⟨fun h => (by cases h), fun h => (by obtain ⟨g1, g2, g3, g4, g5, g6, g7⟩ := h; simp_all; done)⟩, hs.out⟩
        | exact ⟨_, rfl, ⟨fun h => ⟨by simp_all, by simp_all, by simp_all, by simp_all, by simp_all, by simp_all, by simpa using h⟩, fun h => by simpa using h.day⟩, hs.out⟩
    · refine .gFs 7 12 true rfl rfl rfl ?_
      refine .z zpF (.z zm ?_)
      refine .gFs 3 21 true rfl rfl rfl ?_
      refine .z zpF (.z zm ?_)
      refine .gFs 6 26 true rfl rfl rfl ?_
      refine .z zpF (.z zm ?_)
      refine .gFs 3 34 true rfl rfl rfl ?_
      refine .z zpF (.z zm ?_)
      refine .gFs 3 39 true rfl rfl rfl ?_
      refine .z zpF (.z zg (.nil ?_))
      refine .ret (Fin.ret1 Tryz.results109 rfl ?_)
      first
      | exact ⟨false, rfl, ⟨fun h => (by cases h), fun h => (by obtain ⟨g1, g2, g3, g4, g5, g6, g7⟩ := h; simp_all; done)⟩, hs.out⟩
      | exact ⟨_, rfl, ⟨fun h => ⟨by simp_all, by simp_all, by simp_all, by simp_all, by simp_all, by simp_all, by simpa using h⟩, fun h => by simpa using h.day⟩, hs.out⟩
  · refine .gFs 7 3 true rfl rfl rfl ?_
    refine .z zpF (.z zm ?_)
    refine .gFs 7 12 true rfl rfl rfl ?_
    refine .z zpF (.z zm ?_)
    refine .gFs 3 21 true rfl rfl rfl ?_
    refine .z zpF (.z zm ?_)
    refine .gFs 6 26 true rfl rfl rfl ?_
    refine .z zpF (.z zm ?_)
    refine .gFs 3 34 true rfl rfl rfl ?_
    refine .z zpF (.z zm ?_)
    refine .gFs 3 39 true rfl rfl rfl ?_
    refine .z zpF (.z zg (.nil ?_))
    refine .ret (Fin.ret1 Tryz.results109 rfl ?_)
    first
    | exact ⟨false, rfl, ⟨fun h => (by cases h), fun h => (by obtain ⟨g1, g2, g3, g4, g5, g6, g7⟩ := h; simp_all; done)⟩, hs.out⟩
    | exact ⟨_, rfl, ⟨fun h => ⟨by simp_all, by simp_all, by simp_all, by simp_all, by simp_all, by simp_all, by simpa using h⟩, fun h => by simpa using h.day⟩, hs.out⟩
theorem ref03_ValidCompare_spec {H : Heap} {w : World} {σ : List Ent} {c : Cmp} (hs : St H w σ) :
    Cl Tryz.prog 110 [.agg #[I c.src, I c.tape, I c.fr, I c.to, I c.lo, I c.hi]] w fun v w' => ∃ b : Bool, v = .bool b ∧ (b = true ↔ CmpOk c) ∧ St H w' σ := by
  refine Cl.of Tryz.func110 rfl Tryz.ntmps110 (by simp) (args_cons (k := 0) rfl (args0)) ?_
  refine .regSeq ?_
  refine .o (.box hs rfl rfl ?_); intro b1 w hs
  refine .z zg (.nil (.regSeq (.z (zfa fa_api_Compare_0) (.y hs (zld Tryz.isAgg3) ?_))))
  refine .o (.call Tryz.call83 rfl (ref03_In_spec hs) ?_); rintro _ w ⟨rfl, hs⟩
  refine .z zm ?_
  refine .bif (t' := 6) rfl (fun hb6 => ?_) (fun hb6 => ?_)
  · refine .gT rfl rfl ?_
    refine .z (zfa fa_api_Compare_1) ?_
    refine .gT rfl rfl ?_
    refine .y hs (zld Tryz.isAgg3) ?_
    refine .gT rfl rfl ?_
    refine .o (.call Tryz.call83 rfl (ref03_In_spec hs) ?_); rintro _ w ⟨rfl, hs⟩
    refine .z zpT (.z zm ?_)
    refine .bif (t' := 11) rfl (fun hb11 => ?_) (fun hb11 => ?_)
    · refine .gT rfl rfl ?_
      refine .z (zfa fa_api_Compare_2) ?_
      refine .gT rfl rfl ?_
      refine .y hs (zld Tryz.isAgg3) ?_
      refine .gT rfl rfl ?_
      refine .z zgeq (.z zpT (.z zm ?_))
      refine .bifD (t' := 16) rfl (fun hb16 => ?_) (fun hb16 => ?_)
      · refine .gT rfl rfl ?_
        refine .z (zfa fa_api_Compare_2) ?_
        refine .gT rfl rfl ?_
        refine .y hs (zld Tryz.isAgg3) ?_
        refine .gT rfl rfl ?_
        refine .z (zfa fa_api_Compare_3) ?_
        refine .gT rfl rfl ?_
        refine .y hs (zld Tryz.isAgg3) ?_
        refine .gT rfl rfl ?_
        refine .z zleq (.z zpT (.z zm ?_))
        refine .bifD (t' := 23) rfl (fun hb23 => ?_) (fun hb23 => ?_)
        · refine .gT rfl rfl ?_
          refine .z (zfa fa_api_Compare_3) ?_
          refine .gT rfl rfl ?_
          refine .y hs (zld Tryz.isAgg3) ?_
          refine .gT rfl rfl ?_
          refine .z zleq (.z zpT (.z zm ?_))
          refine .bifD (t' := 28) rfl (fun hb28 => ?_) (fun hb28 => ?_)
          · refine .gT rfl rfl ?_
            refine .z (zfa fa_api_Compare_4) ?_
            refine .gT rfl rfl ?_
            refine .y hs (zld Tryz.isAgg3) ?_
            refine .gT rfl rfl ?_
            refine .z zgeq (.z zpT (.z zm ?_))
            refine .bifD (t' := 33) rfl (fun hb33 => ?_) (fun hb33 => ?_)
            · refine .gT rfl rfl ?_
              refine .z (zfa fa_api_Compare_4) ?_
              refine .gT rfl rfl ?_
              refine .y hs (zld Tryz.isAgg3) ?_
              refine .gT rfl rfl ?_
              refine .z (zfa fa_api_Compare_5) ?_
              refine .gT rfl rfl ?_
              refine .y hs (zld Tryz.isAgg3) ?_
              refine .gT rfl rfl ?_
              refine .z zleq (.z zpT (.z zm ?_))
              refine .bifD (t' := 40) rfl (fun hb40 => ?_) (fun hb40 => ?_)
              · refine .gT rfl rfl ?_
                refine .z (zfa fa_api_Compare_5) ?_
                refine .gT rfl rfl ?_
                refine .y hs (zld Tryz.isAgg3) ?_
                refine .gT rfl rfl ?_
                refine .z zleq (.z zpT (.z zg (.nil ?_)))
                refine .ret (Fin.ret1 Tryz.results110 rfl ?_)
                first
                | exact ⟨false, rfl, ⟨fun h => (by cases h), fun h => (by obtain ⟨g1, g2, g3, g4, g5, g6⟩ := h; simp_all; omega)⟩, hs.out⟩
                | exact ⟨false, rfl, ⟨fun h => (by cases h), fun h => (by obtain ⟨g1, g2, g3, g4, g5, g6⟩ := h; simp_all; done)⟩, hs.out⟩
                | exact ⟨_, rfl, ⟨fun h => ⟨by simp_all, by simp_all, ⟨by omega, by omega⟩, by omega, ⟨by omega, by omega⟩, of_decide_eq_true h⟩, fun h => decide_eq_true h.hi⟩, hs.out⟩
              · refine .gFs 3 37 true rfl rfl rfl ?_
                refine .z zpF (.z zg (.nil ?_))
                refine .ret (Fin.ret1 Tryz.results110 rfl ?_)
                first
                | exact ⟨false, rfl, ⟨fun h => (by cases h), fun h => (by obtain ⟨g1, g2, g3, g4, g5, g6⟩ := h; simp_all; omega)⟩, hs.out⟩
                | exact ⟨false, rfl, ⟨fun h => (by cases h), fun h => (by obtain ⟨g1, g2, g3, g4, g5, g6⟩ := h; simp_all; done)⟩, hs.out⟩
                | exact ⟨_, rfl, ⟨fun h => ⟨by simp_all, by simp_all, ⟨by omega, by omega⟩, by omega, ⟨by omega, by omega⟩, of_decide_eq_true h⟩, fun h => decide_eq_true h.hi⟩, hs.out⟩
            · refine .gFs 5 30 true rfl rfl rfl ?_
              refine .z zpF (.z zm ?_)
              refine .gFs 3 37 true rfl rfl rfl ?_
              refine .z zpF (.z zg (.nil ?_))
              refine .ret (Fin.ret1 Tryz.results110 rfl ?_)
              first
              | exact ⟨false, rfl, ⟨fun h => (by cases h), fun h => (by obtain ⟨g1, g2, g3, g4, g5, g6⟩ := h; simp_all; omega)⟩, hs.out⟩
              | exact ⟨false, rfl, ⟨fun h => (by cases h), fun h => (by obtain ⟨g1, g2, g3, g4, g5, g6⟩ := h; simp_all; done)⟩, hs.out⟩
              | exact ⟨_, rfl, ⟨fun h => ⟨by simp_all, by simp_all, ⟨by omega, by omega⟩, by omega, ⟨by omega, by omega⟩, of_decide_eq_true h⟩, fun h => decide_eq_true h.hi⟩, hs.out⟩
          · refine .gFs 3 25 true rfl rfl rfl ?_
            refine .z zpF (.z zm ?_)
            refine .gFs 5 30 true rfl rfl rfl ?_
            refine .z zpF (.z zm ?_)
            refine .gFs 3 37 true rfl rfl rfl ?_
            refine .z zpF (.z zg (.nil ?_))
            refine .ret (Fin.ret1 Tryz.results110 rfl ?_)
            first
            | exact ⟨false, rfl, ⟨fun h => (by cases h), fun h => (by obtain ⟨g1, g2, g3, g4, g5, g6⟩ := h; simp_all; omega)⟩, hs.out⟩
            | exact ⟨false, rfl, ⟨fun h => (by cases h), fun h => (by obtain ⟨g1, g2, g3, g4, g5, g6⟩ := h; simp_all; done)⟩, hs.out⟩
            | exact ⟨_, rfl, ⟨fun h => ⟨by simp_all, by simp_all, ⟨by omega, by omega⟩, by omega, ⟨by omega, by omega⟩, of_decide_eq_true h⟩, fun h => decide_eq_true h.hi⟩, hs.out⟩
        · refine .gFs 3 20 true rfl rfl rfl ?_
          refine .z zpF (.z zm ?_)
          refine .gFs 3 25 true rfl rfl rfl ?_
          refine .z zpF (.z zm ?_)
          refine .gFs 5 30 true rfl rfl rfl ?_
          refine .z zpF (.z zm ?_)
          refine .gFs 3 37 true rfl rfl rfl ?_
          refine .z zpF (.z zg (.nil ?_))
          refine .ret (Fin.ret1 Tryz.results110 rfl ?_)
          first
          | exact ⟨false, rfl, ⟨fun h => (by cases h), fun h => (by obtain ⟨g1, g2, g3, g4, g5, g6⟩ := h; simp_all; omega)⟩, hs.out⟩
          | exact ⟨false, rfl, ⟨fun h => (by cases h), fun h => (by obtain ⟨g1, g2, g3, g4, g5, g6⟩ := h; simp_all; done)⟩, hs.out⟩
          | exact ⟨_, rfl, ⟨fun h => ⟨by simp_all, by simp_all, ⟨by omega, by omega⟩, by omega, ⟨by omega, by omega⟩, of_decide_eq_true h⟩, fun h => decide_eq_true h.hi⟩, hs.out⟩
      · refine .gFs 5 13 true rfl rfl rfl ?_
        refine .z zpF (.z zm ?_)
        refine .gFs 3 20 true rfl rfl rfl ?_
        refine .z zpF (.z zm ?_)
        refine .gFs 3 25 true rfl rfl rfl ?_
        refine .z zpF (.z zm ?_)
        refine .gFs 5 30 true rfl rfl rfl ?_
        refine .z zpF (.z zm ?_)
        refine .gFs 3 37 true rfl rfl rfl ?_
        refine .z zpF (.z zg (.nil ?_))
        refine .ret (Fin.ret1 Tryz.results110 rfl ?_)
        first
        | exact ⟨false, rfl, ⟨fun h => (by cases h), fun h => (by obtain ⟨g1, g2, g3, g4, g5, g6⟩ := h; simp_all; omega)⟩, hs.out⟩
        | exact ⟨false, rfl, ⟨fun h => (by cases h), fun h => (by obtain ⟨g1, g2, g3, g4, g5, g6⟩ := h; simp_all; done)⟩, hs.out⟩
        | exact ⟨_, rfl, ⟨fun h => ⟨by simp_all, by simp_all, ⟨by omega, by omega⟩, by omega, ⟨by omega, by omega⟩, of_decide_eq_true h⟩, fun h => decide_eq_true h.hi⟩, hs.out⟩
    · refine .gFs 3 8 true rfl rfl rfl ?_
      refine .z zpF (.z zm ?_)
      refine .gFs 5 13 true rfl rfl rfl ?_
      refine .z zpF (.z zm ?_)
      refine .gFs 3 20 true rfl rfl rfl ?_
      refine .z zpF (.z zm ?_)
      refine .gFs 3 25 true rfl rfl rfl ?_
      refine .z zpF (.z zm ?_)
      refine .gFs 5 30 true rfl rfl rfl ?_
      refine .z zpF (.z zm ?_)
      refine .gFs 3 37 true rfl rfl rfl ?_
      refine .z zpF (.z zg (.nil ?_))
      refine .ret (Fin.ret1 Tryz.results110 rfl ?_)
      first
      | exact ⟨false, rfl, ⟨fun h => (by cases h), fun h => (by obtain ⟨g1, g2, g3, g4, g5, g6⟩ := h; simp_all; omega)⟩, hs.out⟩
      | exact ⟨false, rfl, ⟨fun h => (by cases h), fun h => (by obtain ⟨g1, g2, g3, g4, g5, g6⟩ := h; simp_all; done)⟩, hs.out⟩
      | exact ⟨_, rfl, ⟨fun h => ⟨by simp_all, by simp_all, ⟨by omega, by omega⟩, by omega, ⟨by omega, by omega⟩, of_decide_eq_true h⟩, fun h => decide_eq_true h.hi⟩, hs.out⟩
  · refine .gFs 3 3 true rfl rfl rfl ?_
    refine .z zpF (.z zm ?_)
    refine .gFs 3 8 true rfl rfl rfl ?_
    refine .z zpF (.z zm ?_)
    refine .gFs 5 13 true rfl rfl rfl ?_
    refine .z zpF (.z zm ?_)
    refine .gFs 3 20 true rfl rfl rfl ?_
    refine .z zpF (.z zm ?_)
    refine .gFs 3 25 true rfl rfl rfl ?_
    refine .z zpF (.z zm ?_)
    refine .gFs 5 30 true rfl rfl rfl ?_
    refine .z zpF (.z zm ?_)
    refine .gFs 3 37 true rfl rfl rfl ?_
    refine .z zpF (.z zg (.nil ?_))
    refine .ret (Fin.ret1 Tryz.results110 rfl ?_)
    first
    | exact ⟨false, rfl, ⟨fun h => (by cases h), fun h => (by obtain ⟨g1, g2, g3, g4, g5, g6⟩ := h; simp_all; omega)⟩, hs.out⟩
    | exact ⟨false, rfl, ⟨fun h => (by cases h), fun h => (by obtain ⟨g1, g2, g3, g4, g5, g6⟩ := h; simp_all; done)⟩, hs.out⟩
    | exact ⟨_, rfl, ⟨fun h => ⟨by simp_all, by simp_all, ⟨by omega, by omega⟩, by omega, ⟨by omega, by omega⟩, of_decide_eq_true h⟩, fun h => decide_eq_true h.hi⟩, hs.out⟩
theorem ref03_offsets_spec {H : Heap} {w : World} {σ : List Ent} {s : Spc} {vst vwa : Value} (hs : St H w σ) (h1 : RI H vst s.st) (h2 : RI H vwa s.wa) (hb : s.st.length ≤ 1000 ∧ s.wa.length ≤ 1000) :
    Cl Tryz.prog 97 [.agg #[I s.id, I s.src, vst, vwa, I s.al, I s.up]] w fun v w' => v = I (s.many : Int) ∧ St H w' σ := by
  obtain ⟨ast, cst, rfl⟩ := RI.shape h1
  obtain ⟨awa, cwa, rfl⟩ := RI.shape h2
  have hm := mul_bd (a := (s.st.length : Int)) (b := (s.wa.length : Int)) (A := 1000) (B := 1000) (by omega) (by omega)
  refine Cl.of Tryz.func97 rfl Tryz.ntmps97 (by simp) (args_cons (k := 0) rfl (args0)) ?_
  refine .regSeq ?_
  refine .o (.box hs rfl rfl ?_); intro b1 w hs
  refine .z zg (.nil (.regSeq (.z (zfa fa_api_Space_2) (.y hs (zld Tryz.isAgg22) (.z (zlen Tryz.runUnderlying22) (.z (zfa fa_api_Space_3) (.y hs (zld Tryz.isAgg22) (.z (zlen Tryz.runUnderlying22) (.z zmul ?_)))))))))
  refine .z zg (.nil ?_)
  refine .ret (Fin.ret1 Tryz.results97 rfl ?_)
  exact ⟨by unfold Spc.many; rw [Int.natCast_mul], hs.out⟩
theorem ref03_number_spec {H : Heap} {w : World} {σ : List Ent} {s : Spc} {vst vwa : Value} {a b : Int} (hs : St H w σ) (h2 : RI H vwa s.wa) (hb : s.wa.length ≤ 1000) (ha : -1000 ≤ a ∧ a ≤ 1000) (hb' : -1000 ≤ b ∧ b ≤ 1000) :
    Cl Tryz.prog 121 [.agg #[I s.id, I s.src, vst, vwa, I s.al, I s.up], I a, I b] w fun v w' => v = I (1 + a * s.wa.length + b) ∧ St H w' σ := by
  obtain ⟨awa, cwa, rfl⟩ := RI.shape h2
  have hm := mul_bd (a := a) (b := (s.wa.length : Int)) (A := 1000) (B := 1000) (by omega) (by omega)
  refine Cl.of Tryz.func121 rfl Tryz.ntmps121 (by simp) (args_cons (k := 0) rfl (args_cons (k := 1) rfl (args_cons (k := 2) rfl (args0)))) ?_
  refine .regSeq ?_
  refine .o (.box hs rfl rfl ?_); intro b3 w hs
  refine .z zg (.nil (.regSeq (.z zm (.z (zfa fa_api_Space_3) (.y hs (zld Tryz.isAgg22) (.z (zlen Tryz.runUnderlying22) (.z zmul (.z zadd (.z zm ?_)))))))))
  refine .z zadd (.z zg (.nil ?_))
  refine .ret (Fin.ret1 Tryz.results121 rfl ?_)
  exact ⟨rfl, hs.out⟩
theorem ref03_change_spec {H : Heap} {w : World} {σ : List Ent} {a b : Int} (hs : St H w σ) (ha : 0 ≤ a ∧ a ≤ 100000) (hb : 0 ≤ b ∧ b ≤ 100000) :
    Cl Tryz.prog 193 [I a, I b] w fun v w' => v = I (fairI a b) ∧ St H w' σ := by
  have hm := mul_bd (a := a) (b := b) (A := 100000) (B := 100000) (by omega) (by omega)
  have h0 := Int.mul_nonneg ha.1 hb.1
  have hq0 : 0 ≤ (a * b + 999).tdiv 1000 := Int.tdiv_nonneg (by omega) (by omega)
  have hq1 : (a * b + 999).tdiv 1000 ≤ a * b + 999 := by rw [Int.tdiv_eq_ediv_of_nonneg (by omega)]; omega
  refine Cl.of Tryz.func193 rfl Tryz.ntmps193 (by simp) (args_cons (k := 0) rfl (args_cons (k := 1) rfl (args0))) ?_
  refine .regSeq (.z zg (.nil (.regSeq (.z zm (.z zm (.z zmul (.z zadd ?_)))))))
  refine .q hs (q_quoF rfl rfl (by omega) (by omega)) ?_
  refine .z zmin (.z zg (.nil ?_))
  refine .ret (Fin.ret1 Tryz.results193 rfl ?_)
  exact ⟨rfl, hs⟩
theorem ref03_pair_spec {H : Heap} {w : World} {σ : List Ent} {a b m s : Int} (hs : St H w σ) :
    Cl Tryz.prog 119 [I a, I b, I m, I s] w fun v w' => ∃ b0, v = .slice (some ⟨b0, 0, none⟩) 2 2 ∧ St H w' (.blk b0 (Lims (two a b m m s)) :: σ) := by
  refine Cl.of Tryz.func119 rfl Tryz.ntmps119 (by simp) (args_cons (k := 0) rfl (args_cons (k := 1) rfl (args_cons (k := 2) rfl (args_cons (k := 3) rfl (args0))))) ?_
  refine .regSeq (.z zg (.nil (.regSeq (.z zm (.z zm (.z zm (.z zm (.z (zbd [_, _, _, _] bld_api_Limit) (.z zm ?_)))))))))
  refine .z zm (.z zm (.z zm (.z (zbd [_, _, _, _] bld_api_Limit) ?_)))
  refine .o (.buildSlice (cells := Lims (two a b m m s)) hs bls_sl_api_Limit_2 rfl (by kernel_rfl) ?_); intro b19 w hs
  refine .z zg (.nil ?_)
  refine .ret (Fin.ret1 Tryz.results119 rfl ?_)
  exact ⟨b19, rfl, hs⟩
theorem ref03_told_spec {H : Heap} {w : World} {σ : List Ent} {c : Cmp} {t : TD} {f : Int} (hs : St H w σ) (hlo : -1000000 ≤ c.lo ∧ c.lo ≤ 1000000) :
    Cl Tryz.prog 194 [.agg #[I c.src, I c.tape, I c.fr, I c.to, I c.lo, I c.hi], .agg #[I t.tape, I t.day], I f] w fun v w' => ∃ en, OwnS 4 v (Lims (toldL c t f)) en ∧ St H w' (en :: σ) := by
  refine Cl.of Tryz.func194 rfl Tryz.ntmps194 (by simp) (args_cons (k := 0) rfl (args_cons (k := 1) rfl (args_cons (k := 2) rfl (args0)))) ?_
  refine .regSeq ?_
  refine .o (.box hs rfl rfl ?_); intro b3 w hs
  refine .o (.box hs rfl rfl ?_); intro b4 w hs
  refine .z zg (.nil (.seq (.regSeq (.z (zfa fa_api_Compare_1) (.y hs (zld Tryz.isAgg3) (.z (zfa fa_api_TapeDay_0) (.y hs (zld Tryz.isAgg3) (.z zneq (.z zm ?_)))))))))
  refine .bifN (t' := 12) rfl (fun hb12 => ?_) (fun hb12 => ?_)
  · refine .gFs 5 5 false rfl rfl rfl ?_
    refine .z zpT (.z zm ?_)
    refine .gFs 5 12 false rfl rfl rfl ?_
    refine .z zpT (.nil ?_)
    refine (.condT rfl rfl ?_)
    refine .regSeq (.z zg (.nil ?_))
    refine .ret (rT (Fin.ret1 Tryz.results194 rfl ?_))
    exact ⟨.nul, by unfold toldL; rw [if_neg (by omega)]; exact .nil 4 none, hs.tail.tail.nul⟩
  · refine .gT rfl rfl ?_
    refine .z (zfa fa_api_TapeDay_1) ?_
    refine .gT rfl rfl ?_
    refine .y hs (zld Tryz.isAgg3) ?_
    refine .gT rfl rfl ?_
    refine .z (zfa fa_api_Compare_2) ?_
    refine .gT rfl rfl ?_
    refine .y hs (zld Tryz.isAgg3) ?_
    refine .gT rfl rfl ?_
    refine .z zlss (.z zpF (.z zm ?_))
    refine .bifD (t' := 19) rfl (fun hb19 => ?_) (fun hb19 => ?_)
    · refine .gFs 5 12 false rfl rfl rfl ?_
      refine .z zpT (.nil ?_)
      refine (.condT rfl rfl ?_)
      refine .regSeq (.z zg (.nil ?_))
      refine .ret (rT (Fin.ret1 Tryz.results194 rfl ?_))
      exact ⟨.nul, by unfold toldL; rw [if_neg (by omega)]; exact .nil 4 none, hs.tail.tail.nul⟩
    · refine .gT rfl rfl ?_
      refine .z (zfa fa_api_TapeDay_1) ?_
      refine .gT rfl rfl ?_
      refine .y hs (zld Tryz.isAgg3) ?_
      refine .gT rfl rfl ?_
      refine .z (zfa fa_api_Compare_3) ?_
      refine .gT rfl rfl ?_
      refine .y hs (zld Tryz.isAgg3) ?_
      refine .gT rfl rfl ?_
      refine .z zgtr (.z zpF (.nil ?_))
      refine (.condD rfl (fun hc25 => ?_) (fun hc25 => ?_))
      · refine .regSeq (.z zg (.nil ?_))
        refine .ret (rT (Fin.ret1 Tryz.results194 rfl ?_))
        exact ⟨.nul, by unfold toldL; rw [if_neg (by omega)]; exact .nil 4 none, hs.tail.tail.nul⟩
      · refine .skip ?_
        refine nT ?_
        refine .regSeq (.z zm (.z (zfa fa_api_Compare_4) (.y hs (zld Tryz.isAgg3) (.z zneg (.z (zfa fa_api_Compare_0) (.y hs (zld Tryz.isAgg3) (.z (zbd [_, _, _, _] bld_api_Limit) (.z zm (.z (zfa fa_api_Compare_5) ?_)))))))))
        refine .y hs (zld Tryz.isAgg3) (.z (zfa fa_api_Compare_0) (.y hs (zld Tryz.isAgg3) (.z (zbd [_, _, _, _] bld_api_Limit) ?_)))
        refine .o (.buildSlice (cells := Lims (two 0 f (-c.lo) c.hi c.src)) hs bls_sl_api_Limit_2 rfl (by kernel_rfl) ?_); intro b39 w hs
        refine .z zg (.nil ?_)
        refine .ret (Fin.ret1 Tryz.results194 rfl ?_)
        exact ⟨_, by unfold toldL; rw [if_pos (by omega)]; exact .full (by simp [two, Lims_length]), hs.sub (by repeat (first | exact Sub.refl _ | constructor | apply Sub.weaken))⟩
theorem ref03_index_spec {H : Heap} {w : World} {σ : List Ent} {v : Value} {xs : List TD} {t : TD} (hs : St H w σ) (hr : RTd H v xs) (hl : xs.length ≤ 1000000) :
    Cl Tryz.prog 93 [v, .agg #[I t.tape, I t.day]] w fun u w' => u = I (tdIdx xs t) ∧ St H w' σ := by
  obtain ⟨a, c, rfl⟩ := RTd.shape hr
  refine Cl.of Tryz.func93 rfl Tryz.ntmps93 (by simp) (args_cons (k := 0) rfl (args_cons (k := 1) rfl (args0))) ?_
  refine .regSeq ?_
  refine .o (.box hs rfl rfl ?_); intro b3 w hs
  refine .z zg (.nil (.seq (.regSeq (.z zg (.nil (.block ?_))))))
  refine .loop (fun k : Nat => ⟨19, [], [(5, I (k : Int)), (3, .pointer (some ⟨b3, 0, none⟩)), (0, .slice a xs.length c)]⟩)
    (fun k w => k ≤ xs.length ∧ (∀ j < k, ∀ y, xs[j]? = some y → ¬ y = t) ∧ St H w (.blk b3 [I t.tape, I t.day] :: σ)) (fun k => xs.length - k) 0 (.consI rfl (by simp) (by repeat (first | exact .nil rfl rfl | refine .cons rfl ?_)))
    ⟨Nat.zero_le _, fun j hj => by omega, hs⟩ ?_
  rintro k w ⟨hk, hno, hs⟩
  refine .seq (.regSeq (.z zm (.z zm (.z (zlen Tryz.runUnderlying51) (.z zlss (.nil ?_))))))
  refine (.condD rfl (fun hc9 => ?_) (fun hc9 => ?_))
  · refine .skip ?_
    refine nT ?_
    refine .seq (.block ?_)
    refine .seq (.draw mix rfl hs ?_); intro w hs
    refine .z 0 rfl zm ?_; refine .z 1 rfl zm ?_
    obtain ⟨x, hx⟩ := nth (l := xs) (k := k) (by omega)
    refine .ixX (enc := TD.c) (i := 2) hs rfl (by kernel_rfl) .none hr rfl rfl Tryz.runUnderlying51 Tryz.sizeOf49 hx (by first | rfl | assumption | omega) ?_; intro b14 o14 hc14
    refine .r (i := 3) hs rfl (by kernel_rfl) .none (q_loadsR (vs := x.c) rfl Tryz.isAgg49 Tryz.sizeOf49 hc14) ?_
    refine .ys 4 rfl hs [_, _] Tryz.isAgg49 Tryz.sizeOf49 ?_
    refine .p (i := 5) rfl (by kernel_rfl) .none (q_eqS2 td_stood td_guard Tryz.runUnderlying49 (fun f hf => by
      simp only [List.mem_cons, List.not_mem_nil, or_false] at hf
      rcases hf with rfl | rfl <;> exact ⟨by decide, Tryz.runUnderlying3, Tryz.isAgg3⟩) rfl rfl) ?_
    refine .done (by kernel_rfl) hs ?_
    refine (.cond rfl (fun hc17 => ?_) (fun hc17 => ?_))
    · refine .regSeq (.z zm (.z zg (.nil ?_)))
      refine .ret (rB (rT (rT (rB (rT (Fin.ret1 Tryz.results93 rfl ?_))))))
      have e : x = t := td_eq.1 (of_decide_eq_true hc17)
      subst e
      exact ⟨by rw [tdIdx_hit hx fun j hj h => hno j hj _ h rfl], hs.tail⟩
    · refine .skip ?_
      refine nB (nT ?_)
      refine .region (.z zm (.z zadd (.z zg (.nil ?_))))
      refine nT ?_
      exact ⟨k + 1, .consI rfl (by simp) (by repeat (first | exact .nil rfl rfl | refine .cons rfl ?_)), ⟨by omega, upto_succ hno hx (fun e => by subst e; simp at hc17), hs⟩, by omega⟩
  · refine .exit ?_
    refine xT (xT (xB (nT ?_)))
    refine .regSeq (.z zg (.nil ?_))
    refine .ret (Fin.ret1 Tryz.results93 rfl ?_)
    obtain rfl : k = xs.length := by omega
    exact ⟨by rw [tdIdx_no hno], hs.tail⟩
theorem ref03_index_own {H : Heap} {w : World} {σ : List Ent} {v : Value} {en : Ent} {xs : List TD} {t : TD} (hs : St H w (en :: σ)) (hO : OwnS 2 v (tdc xs).flatten en) (hl : xs.length ≤ 1000000) :
    Cl Tryz.prog 93 [v, .agg #[I t.tape, I t.day]] w fun u w' => u = I (tdIdx xs t) ∧ St H w' (en :: σ) := by
  obtain ⟨a, c, rfl⟩ := hO.shapeX (tdc_2 xs) (by omega)
  rw [tdc_length] at hO ⊢
  refine Cl.of Tryz.func93 rfl Tryz.ntmps93 (by simp) (args_cons (k := 0) rfl (args_cons (k := 1) rfl (args0))) ?_
  refine .regSeq ?_
  refine .o (.box hs rfl rfl ?_); intro b3 w hs
  refine .z zg (.nil (.seq (.regSeq (.z zg (.nil (.block ?_))))))
  refine .loop (fun k : Nat => ⟨19, [], [(5, I (k : Int)), (3, .pointer (some ⟨b3, 0, none⟩)), (0, .slice a xs.length c)]⟩)
    (fun k w => k ≤ xs.length ∧ (∀ j < k, ∀ y, xs[j]? = some y → ¬ y = t) ∧ St H w (.blk b3 [I t.tape, I t.day] :: en :: σ)) (fun k => xs.length - k) 0 (.consI rfl (by simp) (by repeat (first | exact .nil rfl rfl | refine .cons rfl ?_)))
    ⟨Nat.zero_le _, fun j hj => by omega, hs⟩ ?_
  rintro k w ⟨hk, hno, hs⟩
  refine .seq (.regSeq (.z zm (.z zm (.z (zlen Tryz.runUnderlying51) (.z zlss (.nil ?_))))))
  refine (.condD rfl (fun hc9 => ?_) (fun hc9 => ?_))
  · refine .skip ?_
    refine nT ?_
    refine .seq (.block ?_)
    refine .seq (.draw mix rfl hs ?_); intro w hs
    refine .z 0 rfl zm ?_; refine .z 1 rfl zm ?_
    obtain ⟨x, hx⟩ := nth (l := xs) (k := k) (by omega)
    obtain ⟨b, c', sp, hv, rfl, _⟩ := hO.blkX (tdc_2 xs) (by omega) (by rw [tdc_length]; omega)
    rw [tdc_length] at hv
    cases hv
    refine .z 2 rfl (zixm Tryz.runUnderlying51 Tryz.sizeOf49) ?_
    refine .loads (i := 3) (vs := x.c) hs rfl (by kernel_rfl) .none rfl Tryz.isAgg49 Tryz.sizeOf49 ?_ (hv := own_at (tdc_2 xs) (tdc_get hx) sp)
    refine .ys 4 rfl hs [_, _] Tryz.isAgg49 Tryz.sizeOf49 ?_
    refine .p (i := 5) rfl (by kernel_rfl) .none (q_eqS2 td_stood td_guard Tryz.runUnderlying49 (fun f hf => by
      simp only [List.mem_cons, List.not_mem_nil, or_false] at hf
      rcases hf with rfl | rfl <;> exact ⟨by decide, Tryz.runUnderlying3, Tryz.isAgg3⟩) rfl rfl) ?_
    refine .done (by kernel_rfl) hs ?_
    refine (.cond rfl (fun hc17 => ?_) (fun hc17 => ?_))
    · refine .regSeq (.z zm (.z zg (.nil ?_)))
      refine .ret (rB (rT (rT (rB (rT (Fin.ret1 Tryz.results93 rfl ?_))))))
      have e : x = t := td_eq.1 (of_decide_eq_true hc17)
      subst e
      exact ⟨by rw [tdIdx_hit hx fun j hj h => hno j hj _ h rfl], hs.tail⟩
    · refine .skip ?_
      refine nB (nT ?_)
      refine .region (.z zm (.z zadd (.z zg (.nil ?_))))
      refine nT ?_
      exact ⟨k + 1, .consI rfl (by simp) (by repeat (first | exact .nil rfl rfl | refine .cons rfl ?_)), ⟨by omega, upto_succ hno hx (fun e => by subst e; simp at hc17), hs⟩, by omega⟩
  · refine .exit ?_
    refine xT (xT (xB (nT ?_)))
    refine .regSeq (.z zg (.nil ?_))
    refine .ret (Fin.ret1 Tryz.results93 rfl ?_)
    obtain rfl : k = xs.length := by omega
    exact ⟨by rw [tdIdx_no hno], hs.tail⟩
set_option maxHeartbeats 1000000 in
theorem ref03_tapes_spec {H : Heap} {w : World} {σ : List Ent} {vr : Value} {rs : List Rdg} (hs : St H w σ) (hr : RRd H vr rs) (hl : rs.length ≤ 1000000) :
    Cl Tryz.prog 94 [vr] w fun u w' => ∃ H1, HLe H H1 ∧ RTd H1 u (tapesOf rs) ∧ St H1 w' σ := by
  obtain ⟨ar, cr, rfl⟩ := RRd.shape hr
  refine Cl.of Tryz.func94 rfl Tryz.ntmps94 (by simp) (args_cons (k := 0) rfl (args0)) ?_
  refine .regSeq (.z zg (.nil (.regSeq (.z zg (.nil (.seq (.regSeq (.z zg (.nil ?_)))))))))
  refine .block ?_
  refine .loop (fun p : Nat × Value => ⟨32, [], [(4, I (p.1 : Int)), (3, p.2), (0, .slice ar rs.length cr)]⟩)
    (fun p w => p.1 ≤ rs.length ∧ ∃ en, OwnS 2 p.2 (tdc (tapesOf (rs.take p.1))).flatten en ∧ St H w (en :: σ)) (fun p => rs.length - p.1) (0, .slice none 0 0) (by repeat (first | exact .nil rfl rfl | refine .cons rfl ?_))
    ⟨Nat.zero_le _, _, .nil 2 none, hs.nul⟩ ?_
  rintro ⟨k, vo⟩ w ⟨hk, en, hO, hs⟩
  dsimp only at hk hO ⊢
  have htl := tapesOf_len rs k (by omega)
  obtain ⟨ao, co, rfl⟩ := hO.shapeX (tdc_2 _) (by omega)
  rw [tdc_length] at hO ⊢
  refine .seq (.regSeq (.z zm (.z zm (.z (zlen Tryz.runUnderlying35) (.z zlss (.nil ?_))))))
  refine (.condD rfl (fun hc9 => ?_) (fun hc9 => ?_))
  · refine .skip ?_
    refine nT ?_
    refine .seq (.block ?_)
    refine .seq (.draw mix rfl hs ?_); intro w hs
    refine .z 0 rfl zm ?_; refine .z 1 rfl zm ?_
    obtain ⟨r, hx⟩ := nth (l := rs) (k := k) (by omega)
    have htk := tapesOf_take hx
    refine .ixX (enc := Rdg.c) (i := 2) hs rfl (by kernel_rfl) .none hr rfl rfl Tryz.runUnderlying35 Tryz.sizeOf80 hx (by first | rfl | assumption | omega) ?_; intro b14 o14 hc14
    have d14 : cellAt H b14 (o14 + 5) = some (I r.tape) := hc14 5 _ rfl
    refine .z 3 rfl (zfa fa_api_Reading_5) ?_; refine .y 4 rfl hs Tryz.isAgg3 ?_; refine .z 5 rfl zm ?_; refine .z 6 rfl zm ?_
    refine .ixX (enc := Rdg.c) (i := 7) hs rfl (by kernel_rfl) .none hr rfl rfl Tryz.runUnderlying35 Tryz.sizeOf80 hx (by first | rfl | assumption | omega) ?_; intro b19 o19 hc19
    have d19 : cellAt H b19 (o19 + 6) = some (I r.day) := hc19 6 _ rfl
    refine .z 8 rfl (zfa fa_api_Reading_6) ?_; refine .y 9 rfl hs Tryz.isAgg3 ?_; refine .z 10 rfl (zbd [_, _] bld_api_TapeDay) ?_
    refine .e1 (i := 11) (by kernel_rfl) rfl rfl .none hs ?_
    refine .alloc hs Tryz.zeroValue49 rfl ?_; intro b5 w hs
    refine .go ?_
    refine .e1 (i := 12) (by kernel_rfl) rfl rfl .none hs ?_
    refine .stores (vs := [_, _]) hs rfl rfl Tryz.sizeOf49 ?_; intro w hs
    refine .go ?_
    refine .done (by kernel_rfl) hs ?_
    refine .regSeq (.z zm (.y hs (zls [_, _] Tryz.isAgg49 Tryz.sizeOf49) ?_))
    refine .o (.call Tryz.call93 rfl (ref03_index_own (t := r.td) (hs.sub (by repeat (first | exact Sub.refl _ | constructor | apply Sub.weaken)) : St H w (en :: .blk b5 [I r.tape, I r.day] :: σ)) hO (by omega)) ?_); rintro _ w ⟨rfl, hs⟩
    have hnn := tdIdx_nonneg (l := tapesOf (rs.take k)) (t := r.td)
    refine .z zlss (.nil ?_)
    refine (.condD rfl (fun hc26 => ?_) (fun hc26 => ?_))
    · refine .region (.z zm (.y hs (zls [_, _] Tryz.isAgg49 Tryz.sizeOf49) ?_))
      refine .o (.buildSlice (cells := [_, _]) hs bls_sl_api_TapeDay_1 rfl rfl ?_); intro b29 w hs
      refine .o (.append (ys := r.td.c) hs app_sl_api_TapeDay_api_TapeDay rfl rfl hO (.own .here rfl rfl) (by simp [TD.c, Value.oneCell']) (fun l h => by rw [flat_length _ (tdc_2 _), tdc_length] at h; omega) ?_); intro v30 en30 w hO2 hs
      refine .z zg (.nil ?_)
      refine nB (nT ?_)
      refine .region (.z zm (.z zadd (.z zg (.nil ?_))))
      refine nT ?_
      have hn : r.td ∉ tapesOf (rs.take k) := fun hm => by have := hnn.2 hm; omega
      rw [← tdc_snoc, show tapesOf (rs.take k) ++ [r.td] = tapesOf (rs.take (k + 1)) by rw [htk]; unfold addTD; rw [if_neg hn]] at hO2
      exact ⟨(k + 1, v30), .consI rfl (by simp) (by repeat (first | exact .nil rfl rfl | refine .cons rfl ?_)), ⟨by dsimp only; omega, _, hO2, hs.sub (by repeat (first | exact Sub.refl _ | constructor | apply Sub.weaken))⟩, by dsimp only; omega⟩
    · refine .skip ?_
      refine nB (nT ?_)
      refine .region (.z zm (.z zadd (.z zg (.nil ?_))))
      refine nT ?_
      have hm : r.td ∈ tapesOf (rs.take k) := hnn.1 (by omega)
      exact ⟨(k + 1, _), .consI rfl (by simp) (by repeat (first | exact .nil rfl rfl | refine .cons rfl ?_)), ⟨by dsimp only; omega, en, by dsimp only; rw [htk]; unfold addTD; rw [if_pos hm]; exact hO, hs.sub (by repeat (first | exact Sub.refl _ | constructor | apply Sub.weaken))⟩, by dsimp only; omega⟩
  · refine .exit ?_
    refine xT (xT (xB (nT ?_)))
    refine .regSeq (.z zm (.z zg (.nil ?_)))
    refine .ret (Fin.ret1 Tryz.results94 rfl ?_)
    obtain rfl : k = rs.length := by omega
    rw [List.take_length] at hO
    have htl := tapesOf_length rs
    obtain ⟨H2, hle2, hR, hs⟩ := OwnS.publish (m := 2) (cs := tdc (tapesOf rs)) hO (tdc_2 _) (by omega) (by rw [tdc_length]; omega) hs .here
    rw [List.take_length]
    exact ⟨H2, hle2, hR, hs⟩
end Go.Proofs.YtddaejgfjlneoaaGreat

namespace Go.Proofs.YtddaejgfjlneoaaGreat
open Go.MW
theorem u_int (s : Spc) (i k : Nat) : 1 + (i : Int) * (s.wa.length : Int) + (k : Int) = (s.u i k : Int) := by
  unfold Spc.u; rw [Int.natCast_add, Int.natCast_add, Int.natCast_mul]; rfl
theorem u_int1 (s : Spc) (i k : Nat) : 1 + ((i : Int) + 1) * (s.wa.length : Int) + (k : Int) = (s.u (i + 1) k : Int) := by
  rw [← u_int]; rfl
theorem u_int2 (s : Spc) (i k : Nat) : 1 + (i : Int) * (s.wa.length : Int) + ((k : Int) + 1) = (s.u i (k + 1) : Int) := by
  rw [← u_int]; rfl
theorem offs1_length {f : Nat → Nat → List Lim} (hf : ∀ i k, (f i k).length ≤ 2) (i : Nat) : ∀ k, (offs1 f i k).length ≤ 2 * k
  | 0 => by simp [offs1]
  | k + 1 => by have := offs1_length hf i k; have := hf i k; simp only [offs1, List.length_append]; omega
theorem offsL_len {f : Nat → Nat → List Lim} (hf : ∀ i k, (f i k).length ≤ 2) {m n : Nat} (hm : m ≤ 7) (hn : n ≤ 9) (h0 : 0 < m) : (offsL f m n).length ≤ 126 := by
  have h1 := offsL_length hf (n := n) h0
  have : n * m ≤ 9 * 7 := Nat.mul_le_mul hn hm
  omega
theorem al_last {s : Spc} (h0 : 0 < s.st.length) : offsL (alL s) s.wa.length s.st.length = offsL (alL s) s.wa.length (s.st.length - 1) := by
  obtain ⟨n, hn⟩ : ∃ n, s.st.length = n + 1 := ⟨s.st.length - 1, by omega⟩
  have key : ∀ k, offs1 (alL s) n k = [] := by
    intro k
    induction k with
    | zero => rfl
    | succ k ih => simp only [offs1]; rw [ih]; unfold alL; rw [if_neg (by omega)]; rfl
  rw [hn, Nat.add_sub_cancel]
  simp only [offsL]
  rw [key, List.append_nil]
theorem up_last {s : Spc} (i : Nat) (h0 : 0 < s.wa.length) : offs1 (upL s) i s.wa.length = offs1 (upL s) i (s.wa.length - 1) := by
  obtain ⟨n, hn⟩ : ∃ n, s.wa.length = n + 1 := ⟨s.wa.length - 1, by omega⟩
  have e : upL s i n = [] := by unfold upL; rw [if_neg (by omega)]
  rw [hn, Nat.add_sub_cancel]
  simp only [offs1]
  rw [e, List.append_nil]
set_option maxHeartbeats 4000000 in
theorem ref03_limits_own {H : Heap} {w : World} {σ : List Ent} {s : Srv} {vst vwa vr vc : Value} (hs : St H w σ) (h1 : RI H vst s.sp.st) (h2 : RI H vwa s.sp.wa) (h3 : RRd H vr s.rs) (h4 : RCm H vc s.cs) (he : s.early) :
    Cl Tryz.prog 111 [.agg #[I s.sp.id, I s.sp.src, vst, vwa, I s.sp.al, I s.sp.up, vr, vc]] w fun u w' => ∃ H1 en, HLe H H1 ∧ OwnS 4 u (Lims s.lims) en ∧ St H1 w' (en :: σ) := by
  obtain ⟨ast, cst, rfl⟩ := RI.shape h1
  obtain ⟨awa, cwa, rfl⟩ := RI.shape h2
  obtain ⟨ar, cr, rfl⟩ := RRd.shape h3
  obtain ⟨ac, cc, rfl⟩ := RCm.shape h4
  obtain ⟨hok, hrl, hcl, hrs, hcs⟩ := he
  have hsm := spc_small hok
  have hn1 := hok.st.many
  have hn2 := hok.wa.many
  have hn3 := hok.st.two
  have hn4 := hok.wa.two
  have ha := offsL_len (brdL_two s.sp) (m := s.sp.wa.length) (n := s.sp.st.length) (by omega) (by omega) (by omega)
  have hb := offsL_len (alL_two s.sp) (m := s.sp.wa.length) (n := s.sp.st.length) (by omega) (by omega) (by omega)
  have hc := offsL_len (upL_two s.sp) (m := s.sp.wa.length) (n := s.sp.st.length) (by omega) (by omega) (by omega)
  have hal := hok.al
  have hup := hok.up
  refine Cl.of Tryz.func111 rfl Tryz.ntmps111 (by simp) (args_cons (k := 0) rfl (args0)) ?_
  refine .regSeq ?_
  refine .o (.box hs rfl rfl ?_); intro b1 w hs
  refine .z zg (.nil (.regSeq (.z (zfa fa_api_Survey_0) (.y hs (zls [_, _, _, _, _, _] Tryz.isAgg34 Tryz.sizeOf34) ?_))))
  refine .o (.alloc hs Tryz.zeroValue34 rfl ?_); intro b3 w hs
  refine .o (.stores (vs := [_, _, _, _, _, _]) hs rfl rfl Tryz.sizeOf34 ?_); intro w hs
  refine .nil (.regSeq (.z zg (.nil (.seq (.regSeq (.z zg (.nil (.block ?_))))))))
  refine .loop (fun p : Nat × Value => ⟨243, [], [(5, I (p.1 : Int)), (4, p.2), (3, .pointer (some ⟨b3, 0, none⟩)), (1, .pointer (some ⟨b1, 0, none⟩))]⟩)
    (fun p w => p.1 ≤ s.sp.st.length ∧ ∃ en, OwnS 4 p.2 (Lims (offsL (brdL s.sp) s.sp.wa.length p.1)) en ∧ St H w (en :: .blk b3 [I s.sp.id, I s.sp.src, .slice ast s.sp.st.length cst, .slice awa s.sp.wa.length cwa, I s.sp.al, I s.sp.up] :: .blk b1 [I s.sp.id, I s.sp.src, .slice ast s.sp.st.length cst, .slice awa s.sp.wa.length cwa, I s.sp.al, I s.sp.up, .slice ar s.rs.length cr, .slice ac s.cs.length cc] :: σ)) (fun p => s.sp.st.length - p.1) (0, .slice none 0 0) (by repeat (first | exact .nil rfl rfl | refine .cons rfl ?_))
    ⟨by first | omega | exact Nat.zero_le _, _, .nil 4 none, hs.nul⟩ ?_
  rintro ⟨i, vo⟩ w ⟨hi, en, hO, hs⟩
  dsimp only at hi hO ⊢
  refine .seq (.regSeq (.z zm (.z (zfa fa_api_Space_2) (.y hs (zld Tryz.isAgg22) (.z (zlen Tryz.runUnderlying22) (.z zlss (.nil ?_)))))))
  refine (.condD rfl (fun hc27 => ?_) (fun hc27 => ?_))
  · refine .skip ?_
    refine nT ?_
    refine .seq (.block (.regSeq (.z zg (.nil (.block ?_)))))
    refine .loop (fun p : Nat × Value => ⟨243, [], [(6, I (p.1 : Int)), (4, p.2), (5, I (i : Int)), (3, .pointer (some ⟨b3, 0, none⟩)), (1, .pointer (some ⟨b1, 0, none⟩))]⟩)
      (fun p w => p.1 ≤ s.sp.wa.length ∧ ∃ en, OwnS 4 p.2 (Lims (offsL (brdL s.sp) s.sp.wa.length i ++ offs1 (brdL s.sp) i p.1)) en ∧ St H w (en :: .blk b3 [I s.sp.id, I s.sp.src, .slice ast s.sp.st.length cst, .slice awa s.sp.wa.length cwa, I s.sp.al, I s.sp.up] :: .blk b1 [I s.sp.id, I s.sp.src, .slice ast s.sp.st.length cst, .slice awa s.sp.wa.length cwa, I s.sp.al, I s.sp.up, .slice ar s.rs.length cr, .slice ac s.cs.length cc] :: σ)) (fun p => s.sp.wa.length - p.1) (0, vo) (by repeat (first | exact .nil rfl rfl | refine .cons rfl ?_))
      ⟨by first | omega | exact Nat.zero_le _, en, by show OwnS 4 vo (Lims (_ ++ [])) en; rw [List.append_nil]; exact hO, hs⟩ ?_
    clear hO hs
    rintro ⟨k, vo⟩ w ⟨hk, en, hO, hs⟩
    dsimp only at hk hO ⊢
    have hl1 := offsL_len (brdL_two s.sp) (m := s.sp.wa.length) (n := i) (by omega) (by omega) (by omega)
    have hl2 := offs1_length (brdL_two s.sp) i k
    refine .seq (.regSeq (.z zm (.z (zfa fa_api_Space_3) (.y hs (zld Tryz.isAgg22) (.z (zlen Tryz.runUnderlying22) (.z zlss (.nil ?_)))))))
    refine (.condD rfl (fun hc34 => ?_) (fun hc34 => ?_))
    · refine .skip ?_
      refine nT ?_
      refine .seq (.block (.regSeq (.y hs (zls [_, _, _, _, _, _] Tryz.isAgg34 Tryz.sizeOf34) (.z zm (.z zm ?_)))))
      refine .o (.call Tryz.call121 rfl (ref03_number_spec (s := s.sp) hs h2 (by omega) ⟨by omega, by omega⟩ ⟨by omega, by omega⟩) ?_); rintro _ w ⟨rfl, hs⟩
      rw [u_int]
      refine .z zg (.nil (.region (.z zm (.z zm (.z (zfa fa_api_Space_1) (.y hs (zld Tryz.isAgg3) (.z (zbd [_, _, _, _] bld_api_Limit) (.z zm (.z (zfa fa_api_Space_1) ?_)))))))))
      refine .y hs (zld Tryz.isAgg3) (.z (zbd [_, _, _, _] bld_api_Limit) ?_)
      refine .o (.buildSlice (cells := Lims (brdL s.sp i k)) hs bls_sl_api_Limit_2 rfl (by kernel_rfl) ?_); intro b50 w hs
      refine .o (.append (ys := Lims (brdL s.sp i k)) hs app_sl_api_Limit_api_Limit rfl rfl hO (.own .here rfl rfl) (Lims_cell _) (fun l h => by rw [Lims_length, List.length_append] at h; omega) ?_); intro v51 en51 w hO2 hs
      rw [← Lims_append, List.append_assoc] at hO2
      refine .z zg (.nil ?_)
      refine nB (nT ?_)
      refine .region (.z zm (.z zadd (.z zg (.nil ?_))))
      refine nT ?_
      exact ⟨(k + 1, v51), .consI rfl (by simp) (by repeat (first | exact .nil rfl rfl | refine .cons rfl ?_)), ⟨by dsimp only; omega, _, hO2, hs.sub (by repeat (first | exact Sub.refl _ | constructor | apply Sub.weaken))⟩, by dsimp only; omega⟩
    · refine .exit ?_
      refine xT (xT (xB (nB (nT ?_))))
      refine .region (.z zm (.z zadd (.z zg (.nil ?_))))
      refine nT ?_
      obtain rfl : k = s.sp.wa.length := by omega
      exact ⟨(i + 1, _), .consI rfl (by simp) (by repeat (first | exact .nil rfl rfl | refine .cons rfl ?_)), ⟨by dsimp only; omega, en, hO, hs⟩, by dsimp only; omega⟩
  · refine .exit ?_
    refine xT (xT (xB (nT ?_)))
    refine .seq (.regSeq (.z zg (.nil (.block ?_))))
    refine .loop (fun p : Nat × Value => ⟨243, [], [(8, I (p.1 : Int)), (4, p.2), (3, .pointer (some ⟨b3, 0, none⟩)), (1, .pointer (some ⟨b1, 0, none⟩))]⟩)
      (fun p w => p.1 + 1 ≤ s.sp.st.length ∧ ∃ en, OwnS 4 p.2 (Lims (offsL (brdL s.sp) s.sp.wa.length s.sp.st.length ++ offsL (alL s.sp) s.sp.wa.length p.1)) en ∧ St H w (en :: .blk b3 [I s.sp.id, I s.sp.src, .slice ast s.sp.st.length cst, .slice awa s.sp.wa.length cwa, I s.sp.al, I s.sp.up] :: .blk b1 [I s.sp.id, I s.sp.src, .slice ast s.sp.st.length cst, .slice awa s.sp.wa.length cwa, I s.sp.al, I s.sp.up, .slice ar s.rs.length cr, .slice ac s.cs.length cc] :: σ)) (fun p => s.sp.st.length - p.1) (0, vo) (by repeat (first | exact .nil rfl rfl | refine .cons rfl ?_))
      ⟨by first | omega | exact Nat.zero_le _, en, by show OwnS 4 vo (Lims (_ ++ [])) en; rw [List.append_nil, ← show i = s.sp.st.length by omega]; exact hO, hs⟩ ?_
    clear hO hs
    rintro ⟨i, vo⟩ w ⟨hi, en, hO, hs⟩
    dsimp only at hi hO ⊢
    refine .seq (.regSeq (.z zm (.z zadd (.z (zfa fa_api_Space_2) (.y hs (zld Tryz.isAgg22) (.z (zlen Tryz.runUnderlying22) (.z zlss (.nil ?_))))))))
    refine (.condD rfl (fun hc57 => ?_) (fun hc57 => ?_))
    · refine .skip ?_
      refine nT ?_
      refine .seq (.block (.regSeq (.z zg (.nil (.block ?_)))))
      refine .loop (fun p : Nat × Value => ⟨243, [], [(9, I (p.1 : Int)), (4, p.2), (8, I (i : Int)), (3, .pointer (some ⟨b3, 0, none⟩)), (1, .pointer (some ⟨b1, 0, none⟩))]⟩)
        (fun p w => p.1 ≤ s.sp.wa.length ∧ ∃ en, OwnS 4 p.2 (Lims (offsL (brdL s.sp) s.sp.wa.length s.sp.st.length ++ offsL (alL s.sp) s.sp.wa.length i ++ offs1 (alL s.sp) i p.1)) en ∧ St H w (en :: .blk b3 [I s.sp.id, I s.sp.src, .slice ast s.sp.st.length cst, .slice awa s.sp.wa.length cwa, I s.sp.al, I s.sp.up] :: .blk b1 [I s.sp.id, I s.sp.src, .slice ast s.sp.st.length cst, .slice awa s.sp.wa.length cwa, I s.sp.al, I s.sp.up, .slice ar s.rs.length cr, .slice ac s.cs.length cc] :: σ)) (fun p => s.sp.wa.length - p.1) (0, vo) (by repeat (first | exact .nil rfl rfl | refine .cons rfl ?_))
        ⟨by first | omega | exact Nat.zero_le _, en, by show OwnS 4 vo (Lims (_ ++ [])) en; rw [List.append_nil]; exact hO, hs⟩ ?_
      clear hO hs
      rintro ⟨k, vo⟩ w ⟨hk, en, hO, hs⟩
      dsimp only at hk hO ⊢
      have hl1 := offsL_len (alL_two s.sp) (m := s.sp.wa.length) (n := i) (by omega) (by omega) (by omega)
      have hl2 := offs1_length (alL_two s.sp) i k
      refine .seq (.regSeq (.z zm (.z (zfa fa_api_Space_3) (.y hs (zld Tryz.isAgg22) (.z (zlen Tryz.runUnderlying22) (.z zlss (.nil ?_)))))))
      refine (.condD rfl (fun hc64 => ?_) (fun hc64 => ?_))
      · refine .skip ?_
        refine nT ?_
        refine .seq (.block ?_)
        refine .draw mix rfl hs ?_; intro w hs
        refine .z 0 rfl zm ?_; refine .ys 1 rfl hs [_, _, _, _, _, _] Tryz.isAgg34 Tryz.sizeOf34 ?_; refine .z 2 rfl zm ?_; refine .z 3 rfl zm ?_; refine .ys 5 rfl hs [_, _, _, _, _, _] Tryz.isAgg34 Tryz.sizeOf34 ?_; refine .z 6 rfl zm ?_; refine .z 7 rfl zadd ?_; refine .z 8 rfl zm ?_; refine .z 10 rfl (zfa fa_api_Space_4) ?_; refine .z 11 rfl (zfa fa_api_Fair_0) ?_
        refine .y 12 rfl hs Tryz.isAgg3 ?_; refine .z 13 rfl (zfa fa_api_Space_2) ?_; refine .y 14 rfl hs Tryz.isAgg22 ?_; refine .z 15 rfl zm ?_; refine .z 16 rfl zadd ?_
        have hris := hok.st.rise i (by omega)
        have hq0 := hok.st.bd (i := i) (by omega)
        have hq1 := hok.st.bd (i := i + 1) (by omega)
        refine .ixX (enc := fun x => [I x]) (i := 17) hs rfl (by kernel_rfl) .none h1 rfl rfl Tryz.runUnderlying22 Tryz.sizeOf3 (gi_get (l := s.sp.st) (i := (i+1)) (by omega)) (by first | rfl | assumption | omega) ?_; intro b84 o84 hc84; replace hc84 := CellsAt.one hc84
        refine .r (i := 18) hs rfl (by kernel_rfl) .none (q_loadR rfl Tryz.isAgg3 hc84) ?_
        refine .z 19 rfl (zfa fa_api_Space_2) ?_; refine .y 20 rfl hs Tryz.isAgg22 ?_; refine .z 21 rfl zm ?_
        refine .ixX (enc := fun x => [I x]) (i := 22) hs rfl (by kernel_rfl) .none h1 rfl rfl Tryz.runUnderlying22 Tryz.sizeOf3 (gi_get (l := s.sp.st) (i := i) (by omega)) (by first | rfl | assumption | omega) ?_; intro b89 o89 hc89; replace hc89 := CellsAt.one hc89
        refine .r (i := 23) hs rfl (by kernel_rfl) .none (q_loadR rfl Tryz.isAgg3 hc89) ?_
        refine .z 24 rfl zsub ?_; refine .z 26 rfl (zfa fa_api_Space_1) ?_; refine .y 27 rfl hs Tryz.isAgg3 ?_
        refine .e1 (i := 4) (by kernel_rfl) rfl rfl .none hs ?_
        refine .call Tryz.call121 rfl (ref03_number_spec (s := s.sp) hs h2 (by omega) ⟨by omega, by omega⟩ ⟨by omega, by omega⟩) ?_; rintro _ w ⟨rfl, hs⟩
        rw [u_int]
        refine .go ?_
        refine .e1 (i := 9) (by kernel_rfl) rfl rfl .none hs ?_
        refine .call Tryz.call121 rfl (ref03_number_spec (s := s.sp) hs h2 (by omega) ⟨by omega, by omega⟩ ⟨by omega, by omega⟩) ?_; rintro _ w ⟨rfl, hs⟩
        rw [u_int1]
        refine .go ?_
        refine .e1 (i := 25) (by kernel_rfl) rfl rfl .none hs ?_
        refine .call Tryz.call193 rfl (ref03_change_spec hs (by omega) (by omega)) ?_; rintro _ w ⟨rfl, hs⟩
        refine .go ?_
        refine .e1 (i := 28) (by kernel_rfl) rfl rfl .none hs ?_
        refine .call Tryz.call119 rfl (ref03_pair_spec hs) ?_; rintro _ w ⟨b95, rfl, hs⟩
        rw [show two (s.sp.u i k : Int) _ _ _ _ = alL s.sp i k by unfold alL; rw [if_pos (by omega)]] at hs
        refine .go ?_
        refine .e1 (i := 29) (by kernel_rfl) rfl rfl .none hs ?_
        refine .append (ys := Lims (alL s.sp i k)) hs app_sl_api_Limit_api_Limit rfl rfl hO (.own .here (by simp) (by rw [Lims_length]; unfold alL; rw [if_pos (by omega)]; rfl)) (Lims_cell _) (fun l h => by rw [Lims_length] at h; simp only [List.length_append] at h; omega) ?_; intro v96 en96 w hO2 hs
        rw [← Lims_append, List.append_assoc _ (offs1 _ _ _)] at hO2
        refine .go ?_
        refine .z 30 rfl zg ?_; refine .done (by kernel_rfl) hs ?_
        refine nB (nT ?_)
        refine .region (.z zm (.z zadd (.z zg (.nil ?_))))
        refine nT ?_
        exact ⟨(k + 1, v96), .consI rfl (by simp) (by repeat (first | exact .nil rfl rfl | refine .cons rfl ?_)), ⟨by dsimp only; omega, _, hO2, hs.sub (by repeat (first | exact Sub.refl _ | constructor | apply Sub.weaken))⟩, by dsimp only; omega⟩
      · refine .exit ?_
        refine xT (xT (xB (nB (nT ?_))))
        refine .region (.z zm (.z zadd (.z zg (.nil ?_))))
        refine nT ?_
        obtain rfl : k = s.sp.wa.length := by omega
        rw [List.append_assoc] at hO
        exact ⟨(i + 1, _), .consI rfl (by simp) (by repeat (first | exact .nil rfl rfl | refine .cons rfl ?_)), ⟨by dsimp only; omega, en, hO, hs⟩, by dsimp only; omega⟩
    · refine .exit ?_
      refine xT (xT (xB (nT ?_)))
      refine .seq (.regSeq (.z zg (.nil (.block ?_))))
      refine .loop (fun p : Nat × Value => ⟨243, [], [(10, I (p.1 : Int)), (4, p.2), (3, .pointer (some ⟨b3, 0, none⟩)), (1, .pointer (some ⟨b1, 0, none⟩))]⟩)
        (fun p w => p.1 ≤ s.sp.st.length ∧ ∃ en, OwnS 4 p.2 (Lims (offsL (brdL s.sp) s.sp.wa.length s.sp.st.length ++ offsL (alL s.sp) s.sp.wa.length s.sp.st.length ++ offsL (upL s.sp) s.sp.wa.length p.1)) en ∧ St H w (en :: .blk b3 [I s.sp.id, I s.sp.src, .slice ast s.sp.st.length cst, .slice awa s.sp.wa.length cwa, I s.sp.al, I s.sp.up] :: .blk b1 [I s.sp.id, I s.sp.src, .slice ast s.sp.st.length cst, .slice awa s.sp.wa.length cwa, I s.sp.al, I s.sp.up, .slice ar s.rs.length cr, .slice ac s.cs.length cc] :: σ)) (fun p => s.sp.st.length - p.1) (0, vo) (by repeat (first | exact .nil rfl rfl | refine .cons rfl ?_))
        ⟨by first | omega | exact Nat.zero_le _, en, by show OwnS 4 vo (Lims (_ ++ [])) en; rw [List.append_nil, al_last (by omega), ← show i = s.sp.st.length - 1 by omega]; exact hO, hs⟩ ?_
      clear hO hs
      rintro ⟨i, vo⟩ w ⟨hi, en, hO, hs⟩
      dsimp only at hi hO ⊢
      refine .seq (.regSeq (.z zm (.z (zfa fa_api_Space_2) (.y hs (zld Tryz.isAgg22) (.z (zlen Tryz.runUnderlying22) (.z zlss (.nil ?_)))))))
      refine (.condD rfl (fun hc101 => ?_) (fun hc101 => ?_))
      · refine .skip ?_
        refine nT ?_
        refine .seq (.block (.regSeq (.z zg (.nil (.block ?_)))))
        refine .loop (fun p : Nat × Value => ⟨243, [], [(11, I (p.1 : Int)), (4, p.2), (10, I (i : Int)), (3, .pointer (some ⟨b3, 0, none⟩)), (1, .pointer (some ⟨b1, 0, none⟩))]⟩)
          (fun p w => p.1 + 1 ≤ s.sp.wa.length ∧ ∃ en, OwnS 4 p.2 (Lims (offsL (brdL s.sp) s.sp.wa.length s.sp.st.length ++ offsL (alL s.sp) s.sp.wa.length s.sp.st.length ++ offsL (upL s.sp) s.sp.wa.length i ++ offs1 (upL s.sp) i p.1)) en ∧ St H w (en :: .blk b3 [I s.sp.id, I s.sp.src, .slice ast s.sp.st.length cst, .slice awa s.sp.wa.length cwa, I s.sp.al, I s.sp.up] :: .blk b1 [I s.sp.id, I s.sp.src, .slice ast s.sp.st.length cst, .slice awa s.sp.wa.length cwa, I s.sp.al, I s.sp.up, .slice ar s.rs.length cr, .slice ac s.cs.length cc] :: σ)) (fun p => s.sp.wa.length - p.1) (0, vo) (by repeat (first | exact .nil rfl rfl | refine .cons rfl ?_))
          ⟨by first | omega | exact Nat.zero_le _, en, by show OwnS 4 vo (Lims (_ ++ [])) en; rw [List.append_nil]; exact hO, hs⟩ ?_
        clear hO hs
        rintro ⟨k, vo⟩ w ⟨hk, en, hO, hs⟩
        dsimp only at hk hO ⊢
        have hl1 := offsL_len (upL_two s.sp) (m := s.sp.wa.length) (n := i) (by omega) (by omega) (by omega)
        have hl2 := offs1_length (upL_two s.sp) i k
        refine .seq (.regSeq (.z zm (.z zadd (.z (zfa fa_api_Space_3) (.y hs (zld Tryz.isAgg22) (.z (zlen Tryz.runUnderlying22) (.z zlss (.nil ?_))))))))
        refine (.condD rfl (fun hc109 => ?_) (fun hc109 => ?_))
        · refine .skip ?_
          refine nT ?_
          refine .seq (.block ?_)
          refine .draw mix rfl hs ?_; intro w hs
          refine .z 0 rfl zm ?_; refine .ys 1 rfl hs [_, _, _, _, _, _] Tryz.isAgg34 Tryz.sizeOf34 ?_; refine .z 2 rfl zm ?_; refine .z 3 rfl zm ?_; refine .ys 5 rfl hs [_, _, _, _, _, _] Tryz.isAgg34 Tryz.sizeOf34 ?_; refine .z 6 rfl zm ?_; refine .z 7 rfl zm ?_; refine .z 8 rfl zadd ?_; refine .z 10 rfl (zfa fa_api_Space_4) ?_; refine .z 11 rfl (zfa fa_api_Fair_1) ?_
          refine .y 12 rfl hs Tryz.isAgg3 ?_; refine .z 13 rfl (zfa fa_api_Space_3) ?_; refine .y 14 rfl hs Tryz.isAgg22 ?_; refine .z 15 rfl zm ?_; refine .z 16 rfl zadd ?_
          have hris := hok.wa.rise k (by omega)
          have hq0 := hok.wa.bd (i := k) (by omega)
          have hq1 := hok.wa.bd (i := k + 1) (by omega)
          refine .ixX (enc := fun x => [I x]) (i := 17) hs rfl (by kernel_rfl) .none h2 rfl rfl Tryz.runUnderlying22 Tryz.sizeOf3 (gi_get (l := s.sp.wa) (i := (k+1)) (by omega)) (by first | rfl | assumption | omega) ?_; intro b129 o129 hc129; replace hc129 := CellsAt.one hc129
          refine .r (i := 18) hs rfl (by kernel_rfl) .none (q_loadR rfl Tryz.isAgg3 hc129) ?_
          refine .z 19 rfl (zfa fa_api_Space_3) ?_; refine .y 20 rfl hs Tryz.isAgg22 ?_; refine .z 21 rfl zm ?_
          refine .ixX (enc := fun x => [I x]) (i := 22) hs rfl (by kernel_rfl) .none h2 rfl rfl Tryz.runUnderlying22 Tryz.sizeOf3 (gi_get (l := s.sp.wa) (i := k) (by omega)) (by first | rfl | assumption | omega) ?_; intro b134 o134 hc134; replace hc134 := CellsAt.one hc134
          refine .r (i := 23) hs rfl (by kernel_rfl) .none (q_loadR rfl Tryz.isAgg3 hc134) ?_
          refine .z 24 rfl zsub ?_; refine .z 26 rfl (zfa fa_api_Space_1) ?_; refine .y 27 rfl hs Tryz.isAgg3 ?_
          refine .e1 (i := 4) (by kernel_rfl) rfl rfl .none hs ?_
          refine .call Tryz.call121 rfl (ref03_number_spec (s := s.sp) hs h2 (by omega) ⟨by omega, by omega⟩ ⟨by omega, by omega⟩) ?_; rintro _ w ⟨rfl, hs⟩
          rw [u_int]
          refine .go ?_
          refine .e1 (i := 9) (by kernel_rfl) rfl rfl .none hs ?_
          refine .call Tryz.call121 rfl (ref03_number_spec (s := s.sp) hs h2 (by omega) ⟨by omega, by omega⟩ ⟨by omega, by omega⟩) ?_; rintro _ w ⟨rfl, hs⟩
          rw [u_int2]
          refine .go ?_
          refine .e1 (i := 25) (by kernel_rfl) rfl rfl .none hs ?_
          refine .call Tryz.call193 rfl (ref03_change_spec hs (by omega) (by omega)) ?_; rintro _ w ⟨rfl, hs⟩
          refine .go ?_
          refine .e1 (i := 28) (by kernel_rfl) rfl rfl .none hs ?_
          refine .call Tryz.call119 rfl (ref03_pair_spec hs) ?_; rintro _ w ⟨b140, rfl, hs⟩
          rw [show two (s.sp.u i k : Int) _ _ _ _ = upL s.sp i k by unfold upL; rw [if_pos (by omega)]] at hs
          refine .go ?_
          refine .e1 (i := 29) (by kernel_rfl) rfl rfl .none hs ?_
          refine .append (ys := Lims (upL s.sp i k)) hs app_sl_api_Limit_api_Limit rfl rfl hO (.own .here (by simp) (by rw [Lims_length]; unfold upL; rw [if_pos (by omega)]; rfl)) (Lims_cell _) (fun l h => by rw [Lims_length] at h; simp only [List.length_append] at h; omega) ?_; intro v141 en141 w hO2 hs
          rw [← Lims_append, List.append_assoc _ (offs1 _ _ _)] at hO2
          refine .go ?_
          refine .z 30 rfl zg ?_; refine .done (by kernel_rfl) hs ?_
          refine nB (nT ?_)
          refine .region (.z zm (.z zadd (.z zg (.nil ?_))))
          refine nT ?_
          exact ⟨(k + 1, v141), .consI rfl (by simp) (by repeat (first | exact .nil rfl rfl | refine .cons rfl ?_)), ⟨by dsimp only; omega, _, hO2, hs.sub (by repeat (first | exact Sub.refl _ | constructor | apply Sub.weaken))⟩, by dsimp only; omega⟩
        · refine .exit ?_
          refine xT (xT (xB (nB (nT ?_))))
          refine .region (.z zm (.z zadd (.z zg (.nil ?_))))
          refine nT ?_
          obtain rfl : k = s.sp.wa.length - 1 := by omega
          rw [List.append_assoc, ← up_last i (by omega)] at hO
          exact ⟨(i + 1, _), .consI rfl (by simp) (by repeat (first | exact .nil rfl rfl | refine .cons rfl ?_)), ⟨by dsimp only; omega, en, hO, hs⟩, by dsimp only; omega⟩
      · refine .exit ?_
        refine xT (xT (xB (nT ?_)))
        refine .regSeq (.z (zfa fa_api_Survey_1) (.y hs (zld Tryz.isAgg35) ?_))
        obtain rfl : i = s.sp.st.length := by omega
        refine .o (.call Tryz.call94 rfl (ref03_tapes_spec hs h3 (by omega)) ?_); rintro v144 w ⟨H1, hle1, hT, hs⟩
        replace hT : RTd H1 v144 s.tapes := hT
        have htl : s.tapes.length ≤ 60 := by have := tapesOf_length s.rs; unfold Srv.tapes; omega
        have hmem : ∀ r ∈ s.rs, r.td ∈ s.tapes := fun r hr => mem_tapesOf.2 ⟨r, hr, rfl⟩
        have hlims : s.lims = offsL (brdL s.sp) s.sp.wa.length s.sp.st.length ++ offsL (alL s.sp) s.sp.wa.length s.sp.st.length ++ offsL (upL s.sp) s.sp.wa.length s.sp.st.length ++ errL s.sp s.tapes.length ++ cmpL s.sp s.tapes s.cs 0 s.cs.length ++ rdgL s.sp s.tapes s.rs s.rs.length := rfl
        generalize s.tapes = ts at *
        obtain ⟨at_, ct, rfl⟩ := RTd.shape hT
        refine .z zg (.nil (.regSeq (.y hs (zls [_, _, _, _, _, _] Tryz.isAgg34 Tryz.sizeOf34) ?_)))
        refine .o (.call Tryz.call97 rfl (ref03_offsets_spec (s := s.sp) hs (h1.mono hle1) (h2.mono hle1) ⟨by omega, by omega⟩) ?_); rintro _ w ⟨rfl, hs⟩
        refine .z zg (.nil (.seq (.regSeq (.z zg (.nil (.block ?_))))))
        refine .loop (fun p : Nat × Value => ⟨243, [], [(14, I (p.1 : Int)), (4, p.2), (12, .slice at_ ts.length ct), (13, I (s.sp.many : Int)), (3, .pointer (some ⟨b3, 0, none⟩)), (1, .pointer (some ⟨b1, 0, none⟩))]⟩)
          (fun p w => p.1 ≤ ts.length ∧ ∃ en, OwnS 4 p.2 (Lims (offsL (brdL s.sp) s.sp.wa.length s.sp.st.length ++ offsL (alL s.sp) s.sp.wa.length s.sp.st.length ++ offsL (upL s.sp) s.sp.wa.length s.sp.st.length ++ errL s.sp p.1)) en ∧ St H1 w (en :: .blk b3 [I s.sp.id, I s.sp.src, .slice ast s.sp.st.length cst, .slice awa s.sp.wa.length cwa, I s.sp.al, I s.sp.up] :: .blk b1 [I s.sp.id, I s.sp.src, .slice ast s.sp.st.length cst, .slice awa s.sp.wa.length cwa, I s.sp.al, I s.sp.up, .slice ar s.rs.length cr, .slice ac s.cs.length cc] :: σ)) (fun p => ts.length - p.1) (0, vo) (by repeat (first | exact .nil rfl rfl | refine .cons rfl ?_))
          ⟨by first | omega | exact Nat.zero_le _, en, by show OwnS 4 vo (Lims (_ ++ [])) en; rw [List.append_nil]; exact hO, hs⟩ ?_
        clear hO hs
        rintro ⟨j, vo⟩ w ⟨hj, en, hO, hs⟩
        dsimp only at hj hO ⊢
        have hel := errL_length s.sp j
        refine .seq (.regSeq (.z zm (.z zm (.z (zlen Tryz.runUnderlying51) (.z zlss (.nil ?_))))))
        refine (.condD rfl (fun hc150 => ?_) (fun hc150 => ?_))
        · refine .skip ?_
          refine nT ?_
          refine .seq (.block (.region (.z zm (.z zm (.z zadd (.z zm (.z zadd (.z (zfa fa_api_Space_1) (.y hs (zld Tryz.isAgg3) ?_)))))))))
          refine .o (.call Tryz.call119 rfl (ref03_pair_spec hs) ?_); rintro _ w ⟨b160, rfl, hs⟩
          refine .o (.append (ys := Lims (two 0 ((s.sp.many : Int) + 1 + (j : Int)) 1000 1000 s.sp.src)) hs app_sl_api_Limit_api_Limit rfl rfl hO (.own .here rfl rfl) (Lims_cell _) (fun l h => by rw [Lims_length] at h; simp only [List.length_append] at h; omega) ?_); intro v161 en161 w hO2 hs
          rw [← Lims_append, List.append_assoc _ (errL _ _), show (s.sp.many : Int) + 1 + (j : Int) = ((s.sp.many + 1 + j : Nat) : Int) by omega] at hO2
          refine .z zg (.nil ?_)
          refine nB (nT ?_)
          refine .region (.z zm (.z zadd (.z zg (.nil ?_))))
          refine nT ?_
          exact ⟨(j + 1, v161), .consI rfl (by simp) (by repeat (first | exact .nil rfl rfl | refine .cons rfl ?_)), ⟨by dsimp only; omega, _, hO2, hs.sub (by repeat (first | exact Sub.refl _ | constructor | apply Sub.weaken))⟩, by dsimp only; omega⟩
        · refine .exit ?_
          refine xT (xT (xB (nT ?_)))
          refine .seq (.regSeq (.z zg (.nil (.block ?_))))
          refine .loop (fun p : Nat × Value => ⟨243, [], [(15, I (p.1 : Int)), (4, p.2), (12, .slice at_ ts.length ct), (13, I (s.sp.many : Int)), (3, .pointer (some ⟨b3, 0, none⟩)), (1, .pointer (some ⟨b1, 0, none⟩))]⟩)
            (fun p w => p.1 ≤ s.cs.length ∧ ∃ en, OwnS 4 p.2 (Lims (offsL (brdL s.sp) s.sp.wa.length s.sp.st.length ++ offsL (alL s.sp) s.sp.wa.length s.sp.st.length ++ offsL (upL s.sp) s.sp.wa.length s.sp.st.length ++ errL s.sp ts.length ++ cmpL s.sp ts s.cs 0 p.1)) en ∧ St H1 w (en :: .blk b3 [I s.sp.id, I s.sp.src, .slice ast s.sp.st.length cst, .slice awa s.sp.wa.length cwa, I s.sp.al, I s.sp.up] :: .blk b1 [I s.sp.id, I s.sp.src, .slice ast s.sp.st.length cst, .slice awa s.sp.wa.length cwa, I s.sp.al, I s.sp.up, .slice ar s.rs.length cr, .slice ac s.cs.length cc] :: σ)) (fun p => s.cs.length - p.1) (0, vo) (by repeat (first | exact .nil rfl rfl | refine .cons rfl ?_))
            ⟨by first | omega | exact Nat.zero_le _, en, by show OwnS 4 vo (Lims (_ ++ [])) en; rw [List.append_nil, ← show j = ts.length by omega]; exact hO, hs⟩ ?_
          clear hO hs
          rintro ⟨i, vo⟩ w ⟨hi, en, hO, hs⟩
          dsimp only at hi hO ⊢
          have hel := errL_length s.sp ts.length
          have hcl1 := cmpL_length s.sp ts s.cs 0 i
          have hcl2 : i * (2 * (ts.length - 0)) ≤ 20 * (2 * 60) := Nat.mul_le_mul (by omega) (by omega)
          refine .seq (.regSeq (.z zm (.z (zfa fa_api_Survey_2) (.y hs (zld Tryz.isAgg36) (.z (zlen Tryz.runUnderlying36) (.z zlss (.nil ?_)))))))
          refine (.condD rfl (fun hc166 => ?_) (fun hc166 => ?_))
          · refine .skip ?_
            refine nT ?_
            refine .seq (.block (.regSeq (.z zg (.nil (.block ?_)))))
            refine .loop (fun p : Nat × Value => ⟨243, [], [(16, I (p.1 : Int)), (4, p.2), (15, I (i : Int)), (12, .slice at_ ts.length ct), (13, I (s.sp.many : Int)), (3, .pointer (some ⟨b3, 0, none⟩)), (1, .pointer (some ⟨b1, 0, none⟩))]⟩)
              (fun p w => p.1 ≤ ts.length ∧ ∃ en, OwnS 4 p.2 (Lims (offsL (brdL s.sp) s.sp.wa.length s.sp.st.length ++ offsL (alL s.sp) s.sp.wa.length s.sp.st.length ++ offsL (upL s.sp) s.sp.wa.length s.sp.st.length ++ errL s.sp ts.length ++ cmpL s.sp ts s.cs 0 i ++ cmpL1 s.sp ts (cmp0 s.cs i) 0 p.1)) en ∧ St H1 w (en :: .blk b3 [I s.sp.id, I s.sp.src, .slice ast s.sp.st.length cst, .slice awa s.sp.wa.length cwa, I s.sp.al, I s.sp.up] :: .blk b1 [I s.sp.id, I s.sp.src, .slice ast s.sp.st.length cst, .slice awa s.sp.wa.length cwa, I s.sp.al, I s.sp.up, .slice ar s.rs.length cr, .slice ac s.cs.length cc] :: σ)) (fun p => ts.length - p.1) (0, vo) (by repeat (first | exact .nil rfl rfl | refine .cons rfl ?_))
              ⟨by first | omega | exact Nat.zero_le _, en, by show OwnS 4 vo (Lims (_ ++ [])) en; rw [List.append_nil]; exact hO, hs⟩ ?_
            clear hO hs
            rintro ⟨j, vo⟩ w ⟨hj, en, hO, hs⟩
            dsimp only at hj hO ⊢
            have hl1 := cmpL1_length s.sp ts (cmp0 s.cs i) 0 j
            refine .seq (.regSeq (.z zm (.z zm (.z (zlen Tryz.runUnderlying51) (.z zlss (.nil ?_))))))
            refine (.condD rfl (fun hc172 => ?_) (fun hc172 => ?_))
            · refine .skip ?_
              refine nT ?_
              refine .seq (.block ?_)
              refine .draw mix rfl hs ?_; intro w hs
              refine .z 0 rfl zm ?_; refine .z 1 rfl (zfa fa_api_Survey_2) ?_; refine .y 2 rfl hs Tryz.isAgg36 ?_; refine .z 3 rfl zm ?_
              obtain ⟨c, hx⟩ := nth (l := s.cs) (k := i) (by omega)
              obtain ⟨t, ht⟩ := nth (l := ts) (k := j) (by omega)
              obtain ⟨g1, g2, g3, g4, g5, g6⟩ := hcs c (List.mem_of_getElem? hx)
              have ec := cmp0_of hx
              have et := td0_of ht
              refine .ixX (enc := Cmp.c) (i := 4) hs rfl (by kernel_rfl) .none (h4.mono hle1) rfl rfl Tryz.runUnderlying36 Tryz.sizeOf108 hx (by first | rfl | assumption | omega) ?_; intro b179 o179 hc179
              refine .r (i := 5) hs rfl (by kernel_rfl) .none (q_loadsR (vs := c.c) rfl Tryz.isAgg108 Tryz.sizeOf108 hc179) ?_
              refine .z 6 rfl zm ?_; refine .z 7 rfl zm ?_
              refine .ixX (enc := TD.c) (i := 8) hs rfl (by kernel_rfl) .none hT rfl rfl Tryz.runUnderlying51 Tryz.sizeOf49 ht (by first | rfl | assumption | omega) ?_; intro b183 o183 hc183
              refine .r (i := 9) hs rfl (by kernel_rfl) .none (q_loadsR (vs := t.c) rfl Tryz.isAgg49 Tryz.sizeOf49 hc183) ?_
              refine .z 10 rfl zm ?_; refine .z 11 rfl zadd ?_; refine .z 12 rfl zm ?_; refine .z 13 rfl zadd ?_
              refine .e1 (i := 14) (by kernel_rfl) rfl rfl .none hs ?_
              refine .call Tryz.call194 rfl (ref03_told_spec (c := c) (t := t) hs ⟨by omega, by omega⟩) ?_; rintro v189 w ⟨en189, hO189, hs⟩
              obtain ⟨a189, l189, c189, rfl, h189⟩ := hO189.shape
              refine .go ?_
              refine .e1 (i := 15) (by kernel_rfl) rfl rfl .none hs ?_
              refine .append (ys := Lims (toldL c t ((s.sp.many : Int) + 1 + (j : Int)))) hs app_sl_api_Limit_api_Limit rfl rfl hO (Src.ofOwn hO189 .here) (Lims_cell _) (fun l h => by rw [Lims_length] at h; simp only [List.length_append] at h; have := toldL_two c t ((s.sp.many : Int) + 1 + (j : Int)); rw [Lims_length] at h189; omega) ?_; intro v190 en190 w hO2 hs
              rw [← Lims_append, List.append_assoc _ (cmpL1 _ _ _ _ _), show cmpL1 s.sp ts (cmp0 s.cs i) 0 j ++ toldL c t ((s.sp.many : Int) + 1 + (j : Int)) = cmpL1 s.sp ts (cmp0 s.cs i) 0 (j + 1) by
                show _ = _ ++ toldL (cmp0 s.cs i) (td0 ts (0 + j)) ((s.sp.many + 1 + (0 + j) : Nat) : Int)
                rw [Nat.zero_add, ec, et, show ((s.sp.many + 1 + j : Nat) : Int) = (s.sp.many : Int) + 1 + (j : Int) by omega]] at hO2
              refine .go ?_
              refine .z 16 rfl zg ?_; refine .done (by kernel_rfl) hs ?_
              refine nB (nT ?_)
              refine .region (.z zm (.z zadd (.z zg (.nil ?_))))
              refine nT ?_
              exact ⟨(j + 1, v190), .consI rfl (by simp) (by repeat (first | exact .nil rfl rfl | refine .cons rfl ?_)), ⟨by dsimp only; omega, _, hO2, hs.sub (by repeat (first | exact Sub.refl _ | constructor | apply Sub.weaken))⟩, by dsimp only; omega⟩
            · refine .exit ?_
              refine xT (xT (xB (nB (nT ?_))))
              refine .region (.z zm (.z zadd (.z zg (.nil ?_))))
              refine nT ?_
              obtain rfl : j = ts.length := by omega
              rw [List.append_assoc _ (cmpL _ _ _ _ _)] at hO
              exact ⟨(i + 1, _), .consI rfl (by simp) (by repeat (first | exact .nil rfl rfl | refine .cons rfl ?_)), ⟨by dsimp only; omega, en, hO, hs⟩, by dsimp only; omega⟩
          · refine .exit ?_
            refine xT (xT (xB (nT ?_)))
            refine .seq (.regSeq (.z zg (.nil (.block ?_))))
            refine .loop (fun p : Nat × Value => ⟨243, [], [(17, I (p.1 : Int)), (4, p.2), (12, .slice at_ ts.length ct), (13, I (s.sp.many : Int)), (3, .pointer (some ⟨b3, 0, none⟩)), (1, .pointer (some ⟨b1, 0, none⟩))]⟩)
              (fun p w => p.1 ≤ s.rs.length ∧ ∃ en, OwnS 4 p.2 (Lims (offsL (brdL s.sp) s.sp.wa.length s.sp.st.length ++ offsL (alL s.sp) s.sp.wa.length s.sp.st.length ++ offsL (upL s.sp) s.sp.wa.length s.sp.st.length ++ errL s.sp ts.length ++ cmpL s.sp ts s.cs 0 s.cs.length ++ rdgL s.sp ts s.rs p.1)) en ∧ St H1 w (en :: .blk b3 [I s.sp.id, I s.sp.src, .slice ast s.sp.st.length cst, .slice awa s.sp.wa.length cwa, I s.sp.al, I s.sp.up] :: .blk b1 [I s.sp.id, I s.sp.src, .slice ast s.sp.st.length cst, .slice awa s.sp.wa.length cwa, I s.sp.al, I s.sp.up, .slice ar s.rs.length cr, .slice ac s.cs.length cc] :: σ)) (fun p => s.rs.length - p.1) (0, vo) (by repeat (first | exact .nil rfl rfl | refine .cons rfl ?_))
              ⟨by first | omega | exact Nat.zero_le _, en, by show OwnS 4 vo (Lims (_ ++ [])) en; rw [List.append_nil, ← show i = s.cs.length by omega]; exact hO, hs⟩ ?_
            clear hO hs
            rintro ⟨q, vo⟩ w ⟨hq, en, hO, hs⟩
            dsimp only at hq hO ⊢
            have hrl1 := rdgL_length s.sp ts s.rs q
            have hcl3 := cmpL_length s.sp ts s.cs 0 s.cs.length
            have hcl4 : s.cs.length * (2 * (ts.length - 0)) ≤ 20 * (2 * 60) := Nat.mul_le_mul (by omega) (by omega)
            refine .seq (.regSeq (.z zm (.z (zfa fa_api_Survey_1) (.y hs (zld Tryz.isAgg35) (.z (zlen Tryz.runUnderlying35) (.z zlss (.nil ?_)))))))
            refine (.condD rfl (fun hc195 => ?_) (fun hc195 => ?_))
            · refine .skip ?_
              refine nT ?_
              refine .seq (.block (.regSeq (.z (zfa fa_api_Survey_1) (.y hs (zld Tryz.isAgg35) (.z zm ?_)))))
              obtain ⟨r, hx⟩ := nth (l := s.rs) (k := q) (by omega)
              obtain ⟨g1, g2, g3, g4, g5, g6, g7⟩ := hrs r (List.mem_of_getElem? hx)
              obtain ⟨m, k1, k2, k3⟩ := tdIdx_mem (hmem r (List.mem_of_getElem? hx))
              refine .ixX (enc := Rdg.c) hs (h3.mono hle1) rfl rfl Tryz.runUnderlying35 Tryz.sizeOf80 hx (by first | rfl | assumption | omega) ?_; intro b201 o201 hc201
              refine .q hs (q_loadsR (vs := (Rdg.c r)) rfl Tryz.isAgg80 Tryz.sizeOf80 hc201) ?_
              refine .o (.alloc hs Tryz.zeroValue80 rfl ?_); intro b18 w hs
              refine .o (.stores (vs := r.c) hs rfl rfl Tryz.sizeOf80 ?_); intro w hs
              change St _ _ (.blk b18 [I r.src, I r.st, I r.wa, I r.val, I r.tol, I r.tape, I r.day] :: _) at hs
              refine .nil (.regSeq (.y hs (zls [_, _, _, _, _, _] Tryz.isAgg34 Tryz.sizeOf34) (.z (zfa fa_api_Reading_1) (.y hs (zld Tryz.isAgg3) (.z (zfa fa_api_Reading_2) (.y hs (zld Tryz.isAgg3) ?_))))))
              refine .o (.call Tryz.call121 rfl (ref03_number_spec (s := s.sp) hs (h2.mono hle1) (by omega) ⟨by omega, by omega⟩ ⟨by omega, by omega⟩) ?_); rintro _ w ⟨rfl, hs⟩
              refine .z zg (.nil (.regSeq (.z zm (.z zadd (.z zm (.z (zfa fa_api_Reading_5) (.y hs (zld Tryz.isAgg3) (.z (zfa fa_api_Reading_6) (.y hs (zld Tryz.isAgg3) ?_)))))))))
              refine .z (zbd [_, _] bld_api_TapeDay) ?_
              refine .o (.call Tryz.call93 rfl (ref03_index_spec (t := r.td) hs hT (by omega)) ?_); rintro _ w ⟨rfl, hs⟩
              refine .z zadd (.z zg (.nil (.region (.z zm (.z zm (.z zm (.z (zfa fa_api_Reading_3) (.y hs (zld Tryz.isAgg3) (.z (zfa fa_api_Reading_4) ?_)))))))))
              refine .y hs (zld Tryz.isAgg3) (.z zadd (.z (zfa fa_api_Reading_0) (.y hs (zld Tryz.isAgg3) (.z (zbd [_, _, _, _] bld_api_Limit) (.z zm (.z zm (.z (zfa fa_api_Reading_4) (.y hs (zld Tryz.isAgg3) (.z (zfa fa_api_Reading_3) ?_)))))))))
              refine .y hs (zld Tryz.isAgg3) (.z zsub (.z (zfa fa_api_Reading_0) (.y hs (zld Tryz.isAgg3) (.z (zbd [_, _, _, _] bld_api_Limit) ?_))))
              refine .o (.buildSlice (cells := Lims (rdgL1 s.sp ts r)) hs bls_sl_api_Limit_2 rfl (by kernel_rfl) ?_); intro b240 w hs
              refine .o (.append (ys := Lims (rdgL1 s.sp ts r)) hs app_sl_api_Limit_api_Limit rfl rfl hO (.own .here rfl rfl) (Lims_cell _) (fun l h => by rw [Lims_length] at h; simp only [List.length_append] at h; omega) ?_); intro v241 en241 w hO2 hs
              rw [← Lims_append, List.append_assoc _ (rdgL _ _ _ _), show rdgL s.sp ts s.rs q ++ rdgL1 s.sp ts r = rdgL s.sp ts s.rs (q + 1) by rw [← rdg0_of hx]; rfl] at hO2
              refine .z zg (.nil ?_)
              refine nB (nT ?_)
              refine .region (.z zm (.z zadd (.z zg (.nil ?_))))
              refine nT ?_
              exact ⟨(q + 1, v241), .consI rfl (by simp) (by repeat (first | exact .nil rfl rfl | refine .cons rfl ?_)), ⟨by dsimp only; omega, _, hO2, hs.sub (by repeat (first | exact Sub.refl _ | constructor | apply Sub.weaken))⟩, by dsimp only; omega⟩
            · refine .exit ?_
              refine xT (xT (xB (nT ?_)))
              refine .regSeq (.z zm (.z zg (.nil ?_)))
              refine .ret (Fin.ret1 Tryz.results111 rfl ?_)
              obtain rfl : q = s.rs.length := by omega
              exact ⟨H1, en, hle1, by rw [hlims]; exact hO, hs.sub (by repeat (first | exact Sub.refl _ | constructor | apply Sub.weaken))⟩
end Go.Proofs.YtddaejgfjlneoaaGreat

namespace Go.Proofs.YtddaejgfjlneoaaGreat
open Go.MW
theorem ref03_system_own {H : Heap} {w : World} {σ : List Ent} {s : Srv} {vst vwa vr vc : Value} (hs : St H w σ) (h1 : RI H vst s.sp.st) (h2 : RI H vwa s.sp.wa) (h3 : RRd H vr s.rs) (h4 : RCm H vc s.cs) (he : s.early) :
    Cl Tryz.prog 95 [.agg #[I s.sp.id, I s.sp.src, vst, vwa, I s.sp.al, I s.sp.up, vr, vc]] w fun u w' => ∃ H1 vl en, HLe H H1 ∧ u = .agg #[I s.sys.many, vl] ∧ OwnS 4 vl (Lims s.lims) en ∧ St H1 w' (en :: σ) := by
  have hsm := spc_small he.1
  have hrl := he.2.1
  have htl : s.tapes.length ≤ 60 := by have := tapesOf_length s.rs; unfold Srv.tapes; omega
  refine Cl.of Tryz.func95 rfl Tryz.ntmps95 (by simp) (args_cons (k := 0) rfl (args0)) ?_
  refine .regSeq ?_
  refine .o (.box hs rfl rfl ?_); intro b1 w hs
  refine .o (.alloc hs Tryz.zeroValue70 rfl ?_); intro b2 w hs
  refine .nil ?_
  refine .seq (.draw mix rfl hs ?_); intro w hs
  refine .z 0 rfl (zfa fa_api_Survey_0) ?_; refine .ys 1 rfl hs [_, _, _, _, _, _] Tryz.isAgg34 Tryz.sizeOf34 ?_; refine .z 3 rfl (zfa fa_api_Survey_1) ?_; refine .y 4 rfl hs Tryz.isAgg35 ?_; refine .ys 8 rfl hs [_, _, _, _, _, _, _, _] Tryz.isAgg38 Tryz.sizeOf38 ?_
  refine .e1 (i := 2) (by kernel_rfl) rfl rfl .none hs ?_
  refine .call Tryz.call97 rfl (ref03_offsets_spec (s := s.sp) hs h1 h2 ⟨by omega, by omega⟩) ?_; rintro _ w ⟨rfl, hs⟩
  refine .go ?_
  refine .e1 (i := 5) (by kernel_rfl) rfl rfl .none hs ?_
  refine .call Tryz.call94 rfl (ref03_tapes_spec hs h3 (by omega)) ?_; rintro v8 w ⟨H1, hle1, hT, hs⟩
  replace hT : RTd H1 v8 s.tapes := hT
  obtain ⟨at_, ct, rfl⟩ := RTd.shape hT
  refine .go ?_
  refine .z 6 rfl (zlen Tryz.runUnderlying51) ?_; refine .z 7 rfl zadd ?_
  refine .e1 (i := 9) (by kernel_rfl) rfl rfl .none hs ?_
  refine .call Tryz.call111 rfl (ref03_limits_own (s := s) hs (h1.mono hle1) (h2.mono hle1) (h3.mono hle1) (h4.mono hle1) he) ?_; rintro v12 w ⟨H2, en, hle2, hO, hs⟩
  obtain ⟨al, ll, cl, rfl, hll⟩ := hO.shape
  refine .go ?_
  refine .z 10 rfl (zbd [_, _] bld_api_System) ?_
  refine .e1 (i := 11) (by kernel_rfl) rfl rfl .none hs ?_
  refine .stores (vs := [_, _]) hs rfl rfl Tryz.sizeOf70 ?_; intro w hs
  refine .go ?_
  refine .done (by kernel_rfl) hs ?_
  refine .ret ?_
  replace hs : St H2 w (.blk b2 [I ((s.sp.many : Int) + (s.tapes.length : Int)), .slice al ll cl] :: en :: σ) := hs.sub (by repeat (first | exact Sub.refl _ | constructor | apply Sub.weaken))
  exact Fin.retD [] [] hs fun w hs => ⟨_, results1 Tryz.results95 (rcells (vs := [_, _]) hs rfl Tryz.isAgg70 Tryz.sizeOf70), H2, _, en, hle1.trans hle2, by show _ = Value.agg #[I ((s.sp.many + s.tapes.length : Nat) : Int), _]; rw [Int.natCast_add], hO, hs.tail⟩
theorem ref03_system_spec {H : Heap} {w : World} {σ : List Ent} {s : Srv} {vst vwa vr vc : Value} (hs : St H w σ) (h1 : RI H vst s.sp.st) (h2 : RI H vwa s.sp.wa) (h3 : RRd H vr s.rs) (h4 : RCm H vc s.cs) (he : s.early) :
    Cl Tryz.prog 95 [.agg #[I s.sp.id, I s.sp.src, vst, vwa, I s.sp.al, I s.sp.up, vr, vc]] w fun u w' => ∃ H1, HLe H H1 ∧ RSy H1 u s.sys ∧ St H1 w' σ := by
  refine (ref03_system_own hs h1 h2 h3 h4 he).mono ?_
  rintro u w' ⟨H1, vl, en, hle, rfl, hO, hs⟩
  have hl := parts_length he 6 (by omega)
  rw [s.parts_6] at hl
  obtain ⟨H2, hle2, hR, hs⟩ := OwnS.publish (m := 4) (cs := s.lims.map Lim.c) hO (fun c hc => by simp only [List.mem_map] at hc; obtain ⟨x, _, rfl⟩ := hc; rfl) (by omega) (by rw [List.length_map]; omega) hs .here
  exact ⟨H2, hle.trans hle2, ⟨vl, rfl, hR⟩, hs⟩
set_option maxHeartbeats 1000000 in
theorem ref03_Check_spec {H : Heap} {w : World} {σ : List Ent} {s : Srv} {vst vwa vr vc : Value} (hs : St H w σ) (h1 : RI H vst s.sp.st) (h2 : RI H vwa s.sp.wa) (h3 : RRd H vr s.rs) (h4 : RCm H vc s.cs) :
    Cl Tryz.prog 43 [.agg #[I s.sp.id, I s.sp.src, vst, vwa, I s.sp.al, I s.sp.up, vr, vc]] w fun u w' => ∃ H1 e, HLe H H1 ∧ u = I e ∧ SrvR s e ∧ St H1 w' σ := by
  obtain ⟨ast, cst, rfl⟩ := RI.shape h1
  obtain ⟨awa, cwa, rfl⟩ := RI.shape h2
  obtain ⟨ar, cr, rfl⟩ := RRd.shape h3
  obtain ⟨ac, cc, rfl⟩ := RCm.shape h4
  refine Cl.of Tryz.func43 rfl Tryz.ntmps43 (by simp) (args_cons (k := 0) rfl (args0)) ?_
  refine .regSeq ?_
  refine .o (.box hs rfl rfl ?_); intro b1 w hs
  refine .z zg (.nil (.seq (.regSeq (.z (zfa fa_api_Survey_0) (.y hs (zls [_, _, _, _, _, _] Tryz.isAgg34 Tryz.sizeOf34) ?_)))))
  refine .o (.call Tryz.call24 rfl (ref03_CheckSpace_spec (s := s.sp) hs h1 h2) ?_); rintro _ w ⟨e, rfl, he, hs⟩
  refine .z zneq (.nil ?_)
  refine (.condN rfl (fun hc8 => ?_) (fun hc8 => ?_))
  · refine .regSeq (.z zg (.nil ?_))
    refine .ret (rT (Fin.ret1 Tryz.results43 rfl ?_))
    have hq : ¬ SpcOk s.sp ∧ e = 30 := he.resolve_left fun h => hc8 h.2
    exact ⟨H, _, HLe.refl H, rfl, .space hq.1, hs.out⟩
  · refine .skip ?_
    refine nT ?_
    refine .seq (.regSeq (.z (zfa fa_api_Survey_1) ?_))
    have hok : SpcOk s.sp := (he.resolve_right fun h => by omega).1
    refine .y hs (zld Tryz.isAgg35) (.z (zlen Tryz.runUnderlying35) (.z zgtr (.z zm ?_)))
    refine .bifD (t' := 13) rfl (fun hb13 => ?_) (fun hb13 => ?_)
    · refine .gFs 4 4 false rfl rfl rfl ?_
      refine .z zpT (.nil ?_)
      refine (.condT rfl rfl ?_)
      refine .regSeq (.z zg (.nil ?_))
      refine .ret (rT (Fin.ret1 Tryz.results43 rfl ?_))
      exact ⟨H, _, HLe.refl H, rfl, .long hok (by omega), hs.out⟩
    · refine .gT rfl rfl ?_
      refine .z (zfa fa_api_Survey_2) ?_
      refine .gT rfl rfl ?_
      refine .y hs (zld Tryz.isAgg36) ?_
      refine .gT rfl rfl ?_
      refine .z (zlen Tryz.runUnderlying36) ?_
      refine .gT rfl rfl ?_
      refine .z zgtr (.z zpF (.nil ?_))
      refine (.condD rfl (fun hc18 => ?_) (fun hc18 => ?_))
      · refine .regSeq (.z zg (.nil ?_))
        refine .ret (rT (Fin.ret1 Tryz.results43 rfl ?_))
        exact ⟨H, _, HLe.refl H, rfl, .long hok (by omega), hs.out⟩
      · refine .skip ?_
        refine nT ?_
        refine .seq (.regSeq (.z zg (.nil (.block ?_))))
        refine .loop (fun k : Nat => ⟨64, [], [(3, I (k : Int)), (1, .pointer (some ⟨b1, 0, none⟩))]⟩)
          (fun k w => k ≤ s.rs.length ∧ (∀ j < k, ∀ y, s.rs[j]? = some y → RdgOk s.sp y) ∧ St H w (.blk b1 [I s.sp.id, I s.sp.src, .slice ast s.sp.st.length cst, .slice awa s.sp.wa.length cwa, I s.sp.al, I s.sp.up, .slice ar s.rs.length cr, .slice ac s.cs.length cc] :: σ)) (fun k => s.rs.length - k) 0 (by repeat (first | exact .nil rfl rfl | refine .cons rfl ?_))
          ⟨Nat.zero_le _, fun j hj => by omega, hs⟩ ?_
        rintro k w ⟨hk, hno, hs⟩
        refine .seq (.regSeq (.z zm (.z (zfa fa_api_Survey_1) (.y hs (zld Tryz.isAgg35) (.z (zlen Tryz.runUnderlying35) (.z zlss (.nil ?_)))))))
        refine (.condD rfl (fun hc23 => ?_) (fun hc23 => ?_))
        · refine .skip ?_
          refine nT ?_
          refine .seq (.block ?_)
          refine .seq (.draw mix rfl hs ?_); intro w hs
          refine .z 0 rfl (zfa fa_api_Survey_0) ?_; refine .ys 1 rfl hs [_, _, _, _, _, _] Tryz.isAgg34 Tryz.sizeOf34 ?_; refine .z 2 rfl (zfa fa_api_Survey_1) ?_; refine .y 3 rfl hs Tryz.isAgg35 ?_; refine .z 4 rfl zm ?_
          obtain ⟨r, hx⟩ := nth (l := s.rs) (k := k) (by omega)
          refine .ixX (enc := Rdg.c) (i := 5) hs rfl (by kernel_rfl) .none h3 rfl rfl Tryz.runUnderlying35 Tryz.sizeOf80 hx (by first | rfl | assumption | omega) ?_; intro b31 o31 hc31
          refine .r (i := 6) hs rfl (by kernel_rfl) .none (q_loadsR (vs := r.c) rfl Tryz.isAgg80 Tryz.sizeOf80 hc31) ?_
          refine .e1 (i := 7) (by kernel_rfl) rfl rfl .none hs ?_
          refine .call Tryz.call109 rfl (ref03_ValidReading_spec (s := s.sp) (r := r) hs h1 h2) ?_; rintro _ w ⟨b33, rfl, hb33, hs⟩
          refine .go ?_
          refine .z 8 rfl znot ?_; refine .done (by kernel_rfl) hs ?_
          refine (.cond rfl (fun hc34 => ?_) (fun hc34 => ?_))
          · refine .regSeq (.z zg (.nil ?_))
            refine .ret (rB (rT (rT (rB (rT (Fin.ret1 Tryz.results43 rfl ?_))))))
            exact ⟨H, _, HLe.refl H, rfl, .rdg hok (by omega) (fun h => by rw [hb33.2 (h r (List.mem_of_getElem? hx))] at hc34; cases hc34), hs.out⟩
          · refine .skip ?_
            refine nB (nT ?_)
            refine .region (.z zm (.z zadd (.z zg (.nil ?_))))
            refine nT ?_
            exact ⟨k + 1, .consI rfl (by simp) (by repeat (first | exact .nil rfl rfl | refine .cons rfl ?_)), ⟨by omega, upto_succ hno hx (hb33.1 (by simpa using hc34)), hs⟩, by omega⟩
        · refine .exit ?_
          refine xT (xT (xB (nT ?_)))
          refine .seq (.regSeq (.z zg (.nil (.block ?_))))
          have hrs : ∀ r ∈ s.rs, RdgOk s.sp r := fun r hr => by
            obtain ⟨j, hj⟩ := List.getElem?_of_mem hr
            have := (List.getElem?_eq_some_iff.1 hj).1
            exact hno j (by omega) r hj
          clear hno
          refine .loop (fun k : Nat => ⟨64, [], [(4, I (k : Int)), (1, .pointer (some ⟨b1, 0, none⟩))]⟩)
            (fun k w => k ≤ s.cs.length ∧ (∀ j < k, ∀ y, s.cs[j]? = some y → CmpOk y) ∧ St H w (.blk b1 [I s.sp.id, I s.sp.src, .slice ast s.sp.st.length cst, .slice awa s.sp.wa.length cwa, I s.sp.al, I s.sp.up, .slice ar s.rs.length cr, .slice ac s.cs.length cc] :: σ)) (fun k => s.cs.length - k) 0 (by repeat (first | exact .nil rfl rfl | refine .cons rfl ?_))
            ⟨Nat.zero_le _, fun j hj => by omega, hs⟩ ?_
          rintro i w ⟨hi, hno, hs⟩
          refine .seq (.regSeq (.z zm (.z (zfa fa_api_Survey_2) (.y hs (zld Tryz.isAgg36) (.z (zlen Tryz.runUnderlying36) (.z zlss (.nil ?_)))))))
          refine (.condD rfl (fun hc39 => ?_) (fun hc39 => ?_))
          · refine .skip ?_
            refine nT ?_
            refine .seq (.block (.regSeq (.z (zfa fa_api_Survey_2) (.y hs (zld Tryz.isAgg36) (.z zm ?_)))))
            obtain ⟨c, hx⟩ := nth (l := s.cs) (k := i) (by omega)
            refine .ixX (enc := Cmp.c) hs h4 rfl rfl Tryz.runUnderlying36 Tryz.sizeOf108 hx (by first | rfl | assumption | omega) ?_; intro b45 o45 hc45
            refine .q hs (q_loadsR (vs := (Cmp.c c)) rfl Tryz.isAgg108 Tryz.sizeOf108 hc45) ?_
            refine .o (.call Tryz.call110 rfl (ref03_ValidCompare_spec (c := c) hs) ?_); rintro _ w ⟨b47, rfl, hb47, hs⟩
            refine .z znot (.nil ?_)
            refine (.cond rfl (fun hc48 => ?_) (fun hc48 => ?_))
            · refine .regSeq (.z zg (.nil ?_))
              refine .ret (rB (rT (rT (rB (rT (Fin.ret1 Tryz.results43 rfl ?_))))))
              exact ⟨H, _, HLe.refl H, rfl, .cmp hok (by omega) hrs (fun h => by rw [hb47.2 (h c (List.mem_of_getElem? hx))] at hc48; cases hc48), hs.out⟩
            · refine .skip ?_
              refine nB (nT ?_)
              refine .region (.z zm (.z zadd (.z zg (.nil ?_))))
              refine nT ?_
              exact ⟨i + 1, .consI rfl (by simp) (by repeat (first | exact .nil rfl rfl | refine .cons rfl ?_)), ⟨by omega, upto_succ hno hx (hb47.1 (by simpa using hc48)), hs⟩, by omega⟩
          · refine .exit ?_
            refine xT (xT (xB (nT ?_)))
            refine .seq ?_
            refine .seq (.draw mix rfl hs ?_); intro w hs
            refine .z 0 rfl (zfa fa_api_Survey_0) ?_; refine .ys 1 rfl hs [_, _, _, _, _, _] Tryz.isAgg34 Tryz.sizeOf34 ?_; refine .z 3 rfl (zfa fa_api_Survey_1) ?_; refine .y 4 rfl hs Tryz.isAgg35 ?_
            refine .e1 (i := 2) (by kernel_rfl) rfl rfl .none hs ?_
            have hcs : ∀ c ∈ s.cs, CmpOk c := fun c hc => by
              obtain ⟨j, hj⟩ := List.getElem?_of_mem hc
              have := (List.getElem?_eq_some_iff.1 hj).1
              exact hno j (by omega) c hj
            have hea : s.early := ⟨hok, by omega, by omega, hrs, hcs⟩
            have hsm := spc_small hok
            have hrl := hea.2.1
            have htl : s.tapes.length ≤ 60 := by have := tapesOf_length s.rs; unfold Srv.tapes; omega
            have hll := parts_length hea 6 (by omega)
            rw [s.parts_6] at hll
            refine .call Tryz.call97 rfl (ref03_offsets_spec (s := s.sp) hs h1 h2 ⟨by omega, by omega⟩) ?_; rintro _ w ⟨rfl, hs⟩
            refine .go ?_
            refine .e1 (i := 5) (by kernel_rfl) rfl rfl .none hs ?_
            refine .call Tryz.call94 rfl (ref03_tapes_spec hs h3 (by omega)) ?_; rintro v54 w ⟨H1, hle1, hT, hs⟩
            replace hT : RTd H1 v54 s.tapes := hT
            obtain ⟨at_, ct, rfl⟩ := RTd.shape hT
            refine .go ?_
            refine .z 6 rfl (zlen Tryz.runUnderlying51) ?_; refine .z 7 rfl zadd ?_; refine .z 8 rfl zgtr ?_; refine .z 9 rfl zm ?_
            refine .bifD (t' := 58) rfl (fun hb58 => ?_) (fun hb58 => ?_)
            · refine .qF (i := 10) rfl (by kernel_rfl) rfl rfl ?_
              refine .qF (i := 11) rfl (by kernel_rfl) rfl rfl ?_
              refine .qF (i := 12) rfl (by kernel_rfl) rfl rfl ?_
              refine .qF (i := 13) rfl (by kernel_rfl) rfl rfl ?_
              refine .z 14 rfl zpT ?_; refine .done (by kernel_rfl) hs ?_
              refine (.condT rfl rfl ?_)
              refine .regSeq (.z zg (.nil ?_))
              refine .ret (rT (Fin.ret1 Tryz.results43 rfl ?_))
              exact ⟨H1, _, hle1, rfl, .big hea (by omega), hs.out⟩
            · refine .ys 10 rfl hs [_, _, _, _, _, _, _, _] Tryz.isAgg38 Tryz.sizeOf38 ?_
              refine .e1 (i := 11) (by kernel_rfl) rfl rfl (.some rfl rfl) hs ?_
              refine .call Tryz.call111 rfl (ref03_limits_own (s := s) hs (h1.mono hle1) (h2.mono hle1) (h3.mono hle1) (h4.mono hle1) hea) ?_; rintro v60 w ⟨H2, en, hle2, hO, hs⟩
              obtain ⟨al, ll, cl, rfl, hl60⟩ := hO.shape
              rw [Lims_length] at hl60
              refine .go ?_
              refine .z 12 rfl (zlen Tryz.runUnderlying68) ?_; refine .z 13 rfl zgtr ?_; refine .z 14 rfl zpF ?_; refine .done (by kernel_rfl) hs ?_
              refine (.condD rfl (fun hc63 => ?_) (fun hc63 => ?_))
              · refine .regSeq (.z zg (.nil ?_))
                refine .ret (rT (Fin.ret1 Tryz.results43 rfl ?_))
                exact ⟨H2, _, hle1.trans hle2, rfl, .big hea (by omega), hs.out⟩
              · refine .skip ?_
                refine nT ?_
                refine .regSeq (.z zg (.nil ?_))
                refine .ret (Fin.ret1 Tryz.results43 rfl ?_)
                exact ⟨H2, _, hle1.trans hle2, rfl, .ok hea ⟨by omega, by omega⟩, hs.out⟩
end Go.Proofs.YtddaejgfjlneoaaGreat

namespace Go.Proofs.YtddaejgfjlneoaaGreat
open Go.MW
theorem what_isWater_spec {H : Heap} {w : World} {σ : List Ent} {s : Spc} {q : Wht} {vst vwa : Value} (hs : St H w σ) (h2 : RI H vwa s.wa) :
    Cl Tryz.prog 238 [.agg #[I q.kind, I q.st, I q.wa, I s.id, I s.src, vst, vwa, I s.al, I s.up]] w fun v w' => v = .bool (decide (0 ≤ q.wa ∧ q.wa ≤ (s.wa.length : Int) - 1)) ∧ St H w' σ := by
  obtain ⟨awa, cwa, rfl⟩ := RI.shape h2
  have l2 := (RI.len h2).2.2
  refine Cl.of Tryz.func238 rfl Tryz.ntmps238 (by simp) (args_cons (k := 0) rfl (args0)) ?_
  refine .regSeq ?_
  refine .o (.box hs rfl rfl ?_); intro b1 w hs
  refine .z zg (.nil (.regSeq (.z (zfa fa_offsets_what_0) (.z (zfa fa_api_What_2) (.y hs (zld Tryz.isAgg3) (.z (zfa fa_offsets_what_1) (.z (zfa fa_api_Space_3) (.y hs (zld Tryz.isAgg22) (.z (zlen Tryz.runUnderlying22) ?_)))))))))
  refine .z zsub ?_
  refine .o (.call Tryz.call105 rfl (offsets_within_spec hs) ?_); rintro _ w ⟨rfl, hs⟩
  refine .z zg (.nil ?_)
  refine .ret (Fin.ret1 Tryz.results238 rfl ?_)
  exact ⟨rfl, hs.out⟩
theorem what_isStation_spec {H : Heap} {w : World} {σ : List Ent} {s : Spc} {q : Wht} {vst vwa : Value} (hs : St H w σ) (h1 : RI H vst s.st) :
    Cl Tryz.prog 243 [.agg #[I q.kind, I q.st, I q.wa, I s.id, I s.src, vst, vwa, I s.al, I s.up]] w fun v w' => v = .bool (decide (0 ≤ q.st ∧ q.st ≤ (s.st.length : Int) - 1)) ∧ St H w' σ := by
  obtain ⟨ast, cst, rfl⟩ := RI.shape h1
  have l1 := (RI.len h1).2.2
  refine Cl.of Tryz.func243 rfl Tryz.ntmps243 (by simp) (args_cons (k := 0) rfl (args0)) ?_
  refine .regSeq ?_
  refine .o (.box hs rfl rfl ?_); intro b1 w hs
  refine .z zg (.nil (.regSeq (.z (zfa fa_offsets_what_0) (.z (zfa fa_api_What_1) (.y hs (zld Tryz.isAgg3) (.z (zfa fa_offsets_what_1) (.z (zfa fa_api_Space_2) (.y hs (zld Tryz.isAgg22) (.z (zlen Tryz.runUnderlying22) ?_)))))))))
  refine .z zsub ?_
  refine .o (.call Tryz.call105 rfl (offsets_within_spec hs) ?_); rintro _ w ⟨rfl, hs⟩
  refine .z zg (.nil ?_)
  refine .ret (Fin.ret1 Tryz.results243 rfl ?_)
  exact ⟨rfl, hs.out⟩
theorem wht_iff {s : Spc} {q : Wht} : WhtOk s q ↔ (q.kind = 1 ∧ q.st = 0 ∧ s.isW q ∧ 0 < q.wa) ∨ (q.kind = 2 ∧ q.st = 0 ∧ s.isW q) ∨ (q.kind = 3 ∧ q.wa = 0 ∧ s.isS q) ∨ (q.kind = 4 ∧ s.isS q ∧ s.isW q) := by
  constructor
  · intro h
    cases h with
    | litres a b c d => exact .inl ⟨a, b, c, d⟩
    | plane a b c => exact .inr (.inl ⟨a, b, c⟩)
    | section_ a b c => exact .inr (.inr (.inl ⟨a, b, c⟩))
    | offset a b c => exact .inr (.inr (.inr ⟨a, b, c⟩))
  · rintro (⟨a, b, c, d⟩ | ⟨a, b, c⟩ | ⟨a, b, c⟩ | ⟨a, b, c⟩)
    · exact .litres a b c d
    · exact .plane a b c
    · exact .section_ a b c
    · exact .offset a b c
theorem kinds_1_spec {H : Heap} {w : World} {σ : List Ent} {s : Spc} {q : Wht} {vst vwa : Value} (hs : St H w σ) (h2 : RI H vwa s.wa) (hk : q.kind = 1) :
    Cl Tryz.prog 237 [.agg #[I q.kind, I q.st, I q.wa, I s.id, I s.src, vst, vwa, I s.al, I s.up]] w fun v w' => ∃ b : Bool, v = .bool b ∧ (b = true ↔ WhtOk s q) ∧ St H w' σ := by
  have hi := wht_iff (s := s) (q := q)
  simp only [Spc.isW, Spc.isS] at hi
  refine Cl.of Tryz.func237 rfl Tryz.ntmps237 (by simp) (args_cons (k := 0) rfl (args0)) ?_
  refine .regSeq ?_
  refine .o (.box hs rfl rfl ?_); intro b1 w hs
  refine .z zg (.nil (.regSeq (.y hs (zls [_, _, _, _, _, _, _, _, _] Tryz.isAgg236 Tryz.sizeOf236) ?_)))
  refine .o (.call Tryz.call238 rfl (what_isWater_spec hs h2) ?_); rintro _ w ⟨rfl, hs⟩
  refine .z zm ?_
  refine .bif (t' := 5) rfl (fun hb5 => ?_) (fun hb5 => ?_)
  · refine .gT rfl rfl ?_
    refine .z (zfa fa_offsets_what_0) ?_
    refine .gT rfl rfl ?_
    refine .z (zfa fa_api_What_2) ?_
    refine .gT rfl rfl ?_
    refine .y hs (zld Tryz.isAgg3) ?_
    refine .gT rfl rfl ?_
    refine .z zgtr (.z zpT (.z zm ?_))
    refine .bifD (t' := 11) rfl (fun hb11 => ?_) (fun hb11 => ?_)
    · refine .gT rfl rfl ?_
      refine .z (zfa fa_offsets_what_0) ?_
      refine .gT rfl rfl ?_
      refine .z (zfa fa_api_What_1) ?_
      refine .gT rfl rfl ?_
      refine .y hs (zld Tryz.isAgg3) ?_
      refine .gT rfl rfl ?_
      refine .z zeql (.z zpT (.z zg (.nil ?_)))
      refine .ret (Fin.ret1 Tryz.results237 rfl ?_)
      exact ⟨_, rfl, by rw [hi]; simp_all <;> omega, hs.out⟩
    · refine .gFs 4 8 true rfl rfl rfl ?_
      refine .z zpF (.z zg (.nil ?_))
      refine .ret (Fin.ret1 Tryz.results237 rfl ?_)
      exact ⟨_, rfl, by rw [hi]; simp_all <;> omega, hs.out⟩
  · refine .gFs 4 2 true rfl rfl rfl ?_
    refine .z zpF (.z zm ?_)
    refine .gFs 4 8 true rfl rfl rfl ?_
    refine .z zpF (.z zg (.nil ?_))
    refine .ret (Fin.ret1 Tryz.results237 rfl ?_)
    exact ⟨_, rfl, by rw [hi]; simp_all <;> omega, hs.out⟩
theorem kinds_2_spec {H : Heap} {w : World} {σ : List Ent} {s : Spc} {q : Wht} {vst vwa : Value} (hs : St H w σ) (h2 : RI H vwa s.wa) (hk : q.kind = 2) :
    Cl Tryz.prog 240 [.agg #[I q.kind, I q.st, I q.wa, I s.id, I s.src, vst, vwa, I s.al, I s.up]] w fun v w' => ∃ b : Bool, v = .bool b ∧ (b = true ↔ WhtOk s q) ∧ St H w' σ := by
  have hi := wht_iff (s := s) (q := q)
  simp only [Spc.isW, Spc.isS] at hi
  refine Cl.of Tryz.func240 rfl Tryz.ntmps240 (by simp) (args_cons (k := 0) rfl (args0)) ?_
  refine .regSeq ?_
  refine .o (.box hs rfl rfl ?_); intro b1 w hs
  refine .z zg (.nil (.regSeq (.y hs (zls [_, _, _, _, _, _, _, _, _] Tryz.isAgg236 Tryz.sizeOf236) ?_)))
  refine .o (.call Tryz.call238 rfl (what_isWater_spec hs h2) ?_); rintro _ w ⟨rfl, hs⟩
  refine .z zm ?_
  refine .bif (t' := 5) rfl (fun hb5 => ?_) (fun hb5 => ?_)
  · refine .gT rfl rfl ?_
    refine .z (zfa fa_offsets_what_0) ?_
    refine .gT rfl rfl ?_
    refine .z (zfa fa_api_What_1) ?_
    refine .gT rfl rfl ?_
    refine .y hs (zld Tryz.isAgg3) ?_
    refine .gT rfl rfl ?_
    refine .z zeql (.z zpT (.z zg (.nil ?_)))
    refine .ret (Fin.ret1 Tryz.results240 rfl ?_)
    exact ⟨_, rfl, by rw [hi]; simp_all <;> omega, hs.out⟩
  · refine .gFs 4 2 true rfl rfl rfl ?_
    refine .z zpF (.z zg (.nil ?_))
    refine .ret (Fin.ret1 Tryz.results240 rfl ?_)
    exact ⟨_, rfl, by rw [hi]; simp_all <;> omega, hs.out⟩
theorem kinds_3_spec {H : Heap} {w : World} {σ : List Ent} {s : Spc} {q : Wht} {vst vwa : Value} (hs : St H w σ) (h1 : RI H vst s.st) (hk : q.kind = 3) :
    Cl Tryz.prog 242 [.agg #[I q.kind, I q.st, I q.wa, I s.id, I s.src, vst, vwa, I s.al, I s.up]] w fun v w' => ∃ b : Bool, v = .bool b ∧ (b = true ↔ WhtOk s q) ∧ St H w' σ := by
  have hi := wht_iff (s := s) (q := q)
  simp only [Spc.isW, Spc.isS] at hi
  refine Cl.of Tryz.func242 rfl Tryz.ntmps242 (by simp) (args_cons (k := 0) rfl (args0)) ?_
  refine .regSeq ?_
  refine .o (.box hs rfl rfl ?_); intro b1 w hs
  refine .z zg (.nil (.regSeq (.y hs (zls [_, _, _, _, _, _, _, _, _] Tryz.isAgg236 Tryz.sizeOf236) ?_)))
  refine .o (.call Tryz.call243 rfl (what_isStation_spec hs h1) ?_); rintro _ w ⟨rfl, hs⟩
  refine .z zm ?_
  refine .bif (t' := 5) rfl (fun hb5 => ?_) (fun hb5 => ?_)
  · refine .gT rfl rfl ?_
    refine .z (zfa fa_offsets_what_0) ?_
    refine .gT rfl rfl ?_
    refine .z (zfa fa_api_What_2) ?_
    refine .gT rfl rfl ?_
    refine .y hs (zld Tryz.isAgg3) ?_
    refine .gT rfl rfl ?_
    refine .z zeql (.z zpT (.z zg (.nil ?_)))
    refine .ret (Fin.ret1 Tryz.results242 rfl ?_)
    exact ⟨_, rfl, by rw [hi]; simp_all <;> omega, hs.out⟩
  · refine .gFs 4 2 true rfl rfl rfl ?_
    refine .z zpF (.z zg (.nil ?_))
    refine .ret (Fin.ret1 Tryz.results242 rfl ?_)
    exact ⟨_, rfl, by rw [hi]; simp_all <;> omega, hs.out⟩
theorem kinds_4_spec {H : Heap} {w : World} {σ : List Ent} {s : Spc} {q : Wht} {vst vwa : Value} (hs : St H w σ) (h1 : RI H vst s.st) (h2 : RI H vwa s.wa) (hk : q.kind = 4) :
    Cl Tryz.prog 245 [.agg #[I q.kind, I q.st, I q.wa, I s.id, I s.src, vst, vwa, I s.al, I s.up]] w fun v w' => ∃ b : Bool, v = .bool b ∧ (b = true ↔ WhtOk s q) ∧ St H w' σ := by
  have hi := wht_iff (s := s) (q := q)
  simp only [Spc.isW, Spc.isS] at hi
  refine Cl.of Tryz.func245 rfl Tryz.ntmps245 (by simp) (args_cons (k := 0) rfl (args0)) ?_
  refine .regSeq ?_
  refine .o (.box hs rfl rfl ?_); intro b1 w hs
  refine .z zg (.nil (.regSeq (.y hs (zls [_, _, _, _, _, _, _, _, _] Tryz.isAgg236 Tryz.sizeOf236) ?_)))
  refine .o (.call Tryz.call243 rfl (what_isStation_spec hs h1) ?_); rintro _ w ⟨rfl, hs⟩
  refine .z zm ?_
  refine .bif (t' := 5) rfl (fun hb5 => ?_) (fun hb5 => ?_)
  · refine .gT rfl rfl ?_
    refine .y hs (zls [_, _, _, _, _, _, _, _, _] Tryz.isAgg236 Tryz.sizeOf236) ?_
    refine .gT rfl rfl ?_
    refine .o (.call Tryz.call238 rfl (what_isWater_spec hs h2) ?_); rintro _ w ⟨rfl, hs⟩
    refine .z zpT (.z zg (.nil ?_))
    refine .ret (Fin.ret1 Tryz.results245 rfl ?_)
    exact ⟨_, rfl, by rw [hi]; simp_all <;> omega, hs.out⟩
  · refine .gFs 2 2 true rfl rfl rfl ?_
    refine .z zpF (.z zg (.nil ?_))
    refine .ret (Fin.ret1 Tryz.results245 rfl ?_)
    exact ⟨_, rfl, by rw [hi]; simp_all <;> omega, hs.out⟩
theorem what_litres_spec {H : Heap} {w : World} {σ : List Ent} {s : Spc} {q : Wht} {vst vwa : Value} {i k : Nat} {u : Int} (hs : St H w σ) (h1 : RI H vst s.st) (h2 : RI H vwa s.wa) (hok : SpcOk s) (hq : WhtOk s q) (hk1 : q.kind = 1) (hi : i < s.st.length) :
    Cl Tryz.prog 239 [.agg #[I q.kind, I q.st, I q.wa, I s.id, I s.src, vst, vwa, I s.al, I s.up], .agg #[I (i : Int), I (k : Int), I u]] w fun v w' => ∃ H1, HLe H H1 ∧ v = I (whtW s q i k) ∧ St H1 w' σ := by
  obtain ⟨ast, cst, rfl⟩ := RI.shape h1
  obtain ⟨awa, cwa, rfl⟩ := RI.shape h2
  have hn := hok.wa.many
  have hcap := (RI.len h2).2.1
  obtain ⟨_, hw1, hw2, hw3⟩ : q.st = 0 ∧ 0 < q.wa ∧ 0 ≤ q.wa ∧ q.wa ≤ (s.wa.length : Int) - 1 := by
    rcases wht_iff.1 hq with h | h | h | h
    · exact ⟨h.2.1, h.2.2.2, h.2.2.1.1, h.2.2.1.2⟩
    all_goals omega
  obtain ⟨m, hm⟩ : ∃ m : Nat, q.wa = m := ⟨q.wa.toNat, by omega⟩
  have hW : whtW s q i k = if (k : Int) ≤ q.wa then gi (wts s.st) i * gi (wts (s.wa.take (q.wa.toNat + 1))) k else 0 := by unfold whtW; rw [if_pos hk1]
  have hmt : q.wa.toNat = m := by omega
  rw [hmt] at hW
  refine Cl.of Tryz.func239 rfl Tryz.ntmps239 (by simp) (args_cons (k := 0) rfl (args_cons (k := 1) rfl (args0))) ?_
  refine .regSeq ?_
  refine .o (.box hs rfl rfl ?_); intro b2 w hs
  refine .o (.box hs rfl rfl ?_); intro b3 w hs
  refine .z zg (.nil (.seq (.regSeq (.z (zfa fa_offsets_offset_1) (.y hs (zld Tryz.isAgg3) (.z (zfa fa_offsets_what_0) (.z (zfa fa_api_What_2) (.y hs (zld Tryz.isAgg3) (.z zgtr ?_)))))))))
  refine .nil ?_
  refine (.condD rfl (fun hc12 => ?_) (fun hc12 => ?_))
  · refine .regSeq (.z zg (.nil ?_))
    refine .ret (rT (Fin.ret1 Tryz.results239 rfl ?_))
    exact ⟨H, HLe.refl H, by rw [hW, if_neg (by omega)], hs.out⟩
  · refine .skip ?_
    refine nT ?_
    refine .seq (.draw mix rfl hs ?_); intro w hs
    refine .z 0 rfl (zfa fa_offsets_what_1) ?_; refine .z 1 rfl (zfa fa_api_Space_2) ?_; refine .y 2 rfl hs Tryz.isAgg22 ?_; refine .z 3 rfl (zfa fa_offsets_what_1) ?_; refine .z 4 rfl (zfa fa_api_Space_3) ?_; refine .y 5 rfl hs Tryz.isAgg22 ?_; refine .z 6 rfl (zfa fa_offsets_what_0) ?_; refine .z 7 rfl (zfa fa_api_What_2) ?_; refine .y 8 rfl hs Tryz.isAgg3 ?_; refine .z 9 rfl zadd ?_
    refine .p (i := 10) rfl (by kernel_rfl) .none (q_sliceHX (k := m + 1) rfl rfl Tryz.runUnderlying22 Tryz.sizeOf3 (by omega) (by omega)) ?_
    refine .e1 (i := 11) (by kernel_rfl) rfl rfl .none hs ?_
    have hP : PlcOk 7 15000 (s.wa.take (m + 1)) := hok.wa.take (by omega) (by omega)
    refine .call Tryz.call104 rfl (weigh_Grid_spec hs h1 (h2.head (k := m + 1) (by omega))) ?_; rintro _ w ⟨H1, vo, e, hle1, rfl, hGx, -, hs⟩
    obtain ⟨rfl, hG⟩ := hGx ⟨hok.st, hP⟩
    have hgl := gridP_length (wts s.st) (wts (s.wa.take (m + 1))) s.st.length
    have hyl : (wts (s.wa.take (m + 1))).length = m + 1 := by rw [wts_length, List.length_take]; omega
    have hgr := gridP_gr (X := wts s.st) (Y := wts (s.wa.take (m + 1))) (n := s.st.length) hi
    have hgt := gridP_gt (X := wts s.st) (Y := wts (s.wa.take (m + 1))) (n := s.st.length) (k := k) hi (by omega)
    have hrl := rowP_length (wts s.st) (wts (s.wa.take (m + 1))) i
    rw [← hgr] at hrl
    generalize gridP (wts s.st) (wts (s.wa.take (m + 1))) s.st.length = G at *
    obtain ⟨aG, cG, rfl⟩ := hG.shape
    refine .go ?_
    refine .z 12 rfl zm ?_; refine .z 13 rfl zex ?_; refine .z 14 rfl zex ?_; refine .z 15 rfl zg ?_; refine .z 16 rfl zg ?_; refine .done (by kernel_rfl) hs ?_
    refine .seq (.draw mix rfl hs ?_); intro w hs
    refine .z 0 rfl zm ?_; refine .z 1 rfl (zfa fa_offsets_offset_0) ?_; refine .y 2 rfl hs Tryz.isAgg3 ?_
    refine .ixT (i := 3) hs rfl (by kernel_rfl) .none hG rfl rfl Tryz.runUnderlying61 Tryz.sizeOf22 (show i < _ by omega) (by first | rfl | assumption | omega) ?_; intro b31 o31 a31 c31 hc31 hR31
    refine .r (i := 4) hs rfl (by kernel_rfl) .none (q_loadR rfl Tryz.isAgg22 hc31) ?_
    refine .z 5 rfl (zfa fa_offsets_offset_1) ?_; refine .y 6 rfl hs Tryz.isAgg3 ?_
    refine .ixX (enc := fun x => [I x]) (i := 7) hs rfl (by kernel_rfl) .none hR31 rfl rfl Tryz.runUnderlying22 Tryz.sizeOf3 (gi_get (l := (gr G i)) (i := k) (by omega)) (by first | rfl | assumption | omega) ?_; intro b35 o35 hc35; replace hc35 := CellsAt.one hc35
    refine .r (i := 8) hs rfl (by kernel_rfl) .none (q_loadR rfl Tryz.isAgg3 hc35) ?_
    refine .z 9 rfl zg ?_; refine .done (by kernel_rfl) hs ?_
    refine .ret (Fin.ret1 Tryz.results239 rfl ?_)
    exact ⟨H1, hle1, by rw [hW, if_pos (by omega), ← hgt]; rfl, hs.out⟩
theorem what_plane_spec {H : Heap} {w : World} {σ : List Ent} {s : Spc} {q : Wht} {vst vwa : Value} {i k : Nat} {u : Int} (hs : St H w σ) (h1 : RI H vst s.st) (hok : SpcOk s) (hk1 : q.kind = 2) (hi : i < s.st.length) :
    Cl Tryz.prog 241 [.agg #[I q.kind, I q.st, I q.wa, I s.id, I s.src, vst, vwa, I s.al, I s.up], .agg #[I (i : Int), I (k : Int), I u]] w fun v w' => ∃ H1, HLe H H1 ∧ v = I (whtW s q i k) ∧ St H1 w' σ := by
  have hW : whtW s q i k = if (k : Int) = q.wa then gi (wts s.st) i else 0 := by unfold whtW; rw [if_neg (by omega), if_pos hk1]
  have hl := wts_length s.st
  refine Cl.of Tryz.func241 rfl Tryz.ntmps241 (by simp) (args_cons (k := 0) rfl (args_cons (k := 1) rfl (args0))) ?_
  refine .regSeq ?_
  refine .o (.box hs rfl rfl ?_); intro b2 w hs
  refine .o (.box hs rfl rfl ?_); intro b3 w hs
  refine .z zg (.nil (.seq (.regSeq (.z (zfa fa_offsets_offset_1) (.y hs (zld Tryz.isAgg3) (.z (zfa fa_offsets_what_0) (.z (zfa fa_api_What_2) (.y hs (zld Tryz.isAgg3) (.z zneq ?_)))))))))
  refine .nil ?_
  refine (.condN rfl (fun hc12 => ?_) (fun hc12 => ?_))
  · refine .regSeq (.z zg (.nil ?_))
    refine .ret (rT (Fin.ret1 Tryz.results241 rfl ?_))
    exact ⟨H, HLe.refl H, by rw [hW, if_neg (by omega)], hs.out⟩
  · refine .skip ?_
    refine nT ?_
    refine .regSeq (.z (zfa fa_offsets_what_1) (.z (zfa fa_api_Space_2) (.y hs (zld Tryz.isAgg22) ?_)))
    refine .o (.call Tryz.call273 rfl (weigh_Weights_spec hs h1) ?_); rintro _ w ⟨H1, vo, e, hle1, rfl, hGx, hs⟩
    obtain ⟨rfl, hG⟩ := hGx hok.st
    obtain ⟨aG, cG, rfl⟩ := RI.shape hG
    refine .z zm (.z zex (.z zex (.z zg (.z zg (.nil (.regSeq (.z zm (.z (zfa fa_offsets_offset_0) (.y hs (zld Tryz.isAgg3) ?_)))))))))
    refine .ixY hs hG rfl rfl Tryz.runUnderlying22 Tryz.sizeOf3 (gi_get (l := (wts s.st)) (i := i) (by omega)) (by first | rfl | assumption | omega) ?_; intro b23 o23 hc23
    refine .q hs (q_loadR rfl Tryz.isAgg3 hc23) ?_
    refine .z zg (.nil ?_)
    refine .ret (Fin.ret1 Tryz.results241 rfl ?_)
    exact ⟨H1, hle1, by rw [hW, if_pos (by omega)], hs.out⟩
theorem what_section_spec {H : Heap} {w : World} {σ : List Ent} {s : Spc} {q : Wht} {vst vwa : Value} {i k : Nat} {u : Int} (hs : St H w σ) (h2 : RI H vwa s.wa) (hok : SpcOk s) (hk1 : q.kind = 3) (hk : k < s.wa.length) :
    Cl Tryz.prog 244 [.agg #[I q.kind, I q.st, I q.wa, I s.id, I s.src, vst, vwa, I s.al, I s.up], .agg #[I (i : Int), I (k : Int), I u]] w fun v w' => ∃ H1, HLe H H1 ∧ v = I (whtW s q i k) ∧ St H1 w' σ := by
  have hW : whtW s q i k = if (i : Int) = q.st then gi (wts s.wa) k else 0 := by unfold whtW; rw [if_neg (by omega), if_neg (by omega), if_pos hk1]
  have hl := wts_length s.wa
  refine Cl.of Tryz.func244 rfl Tryz.ntmps244 (by simp) (args_cons (k := 0) rfl (args_cons (k := 1) rfl (args0))) ?_
  refine .regSeq ?_
  refine .o (.box hs rfl rfl ?_); intro b2 w hs
  refine .o (.box hs rfl rfl ?_); intro b3 w hs
  refine .z zg (.nil (.seq (.regSeq (.z (zfa fa_offsets_offset_0) (.y hs (zld Tryz.isAgg3) (.z (zfa fa_offsets_what_0) (.z (zfa fa_api_What_1) (.y hs (zld Tryz.isAgg3) (.z zneq ?_)))))))))
  refine .nil ?_
  refine (.condN rfl (fun hc12 => ?_) (fun hc12 => ?_))
  · refine .regSeq (.z zg (.nil ?_))
    refine .ret (rT (Fin.ret1 Tryz.results244 rfl ?_))
    exact ⟨H, HLe.refl H, by rw [hW, if_neg (by omega)], hs.out⟩
  · refine .skip ?_
    refine nT ?_
    refine .regSeq (.z (zfa fa_offsets_what_1) (.z (zfa fa_api_Space_3) (.y hs (zld Tryz.isAgg22) ?_)))
    refine .o (.call Tryz.call273 rfl (weigh_Weights_spec hs h2) ?_); rintro _ w ⟨H1, vo, e, hle1, rfl, hGx, hs⟩
    obtain ⟨rfl, hG⟩ := hGx (spc_wa9 hok)
    obtain ⟨aG, cG, rfl⟩ := RI.shape hG
    refine .z zm (.z zex (.z zex (.z zg (.z zg (.nil (.regSeq (.z zm (.z (zfa fa_offsets_offset_1) (.y hs (zld Tryz.isAgg3) ?_)))))))))
    refine .ixY hs hG rfl rfl Tryz.runUnderlying22 Tryz.sizeOf3 (gi_get (l := (wts s.wa)) (i := k) (by omega)) (by first | rfl | assumption | omega) ?_; intro b23 o23 hc23
    refine .q hs (q_loadR rfl Tryz.isAgg3 hc23) ?_
    refine .z zg (.nil ?_)
    refine .ret (Fin.ret1 Tryz.results244 rfl ?_)
    exact ⟨H1, hle1, by rw [hW, if_pos (by omega)], hs.out⟩
theorem what_single_spec {H : Heap} {w : World} {σ : List Ent} {s : Spc} {q : Wht} {vst vwa : Value} {i k : Nat} {u : Int} (hs : St H w σ) (hk1 : q.kind = 4) :
    Cl Tryz.prog 246 [.agg #[I q.kind, I q.st, I q.wa, I s.id, I s.src, vst, vwa, I s.al, I s.up], .agg #[I (i : Int), I (k : Int), I u]] w fun v w' => ∃ H1, HLe H H1 ∧ v = I (whtW s q i k) ∧ St H1 w' σ := by
  have hW : whtW s q i k = if (i : Int) = q.st ∧ (k : Int) = q.wa then 1 else 0 := by unfold whtW; rw [if_neg (by omega), if_neg (by omega), if_neg (by omega)]
  refine Cl.of Tryz.func246 rfl Tryz.ntmps246 (by simp) (args_cons (k := 0) rfl (args_cons (k := 1) rfl (args0))) ?_
  refine .regSeq ?_
  refine .o (.box hs rfl rfl ?_); intro b2 w hs
  refine .o (.box hs rfl rfl ?_); intro b3 w hs
  refine .z zg (.nil (.seq (.regSeq (.z (zfa fa_offsets_offset_0) (.y hs (zld Tryz.isAgg3) (.z (zfa fa_offsets_what_0) (.z (zfa fa_api_What_1) (.y hs (zld Tryz.isAgg3) (.z zneq ?_)))))))))
  refine .z zm ?_
  refine .bifN (t' := 11) rfl (fun hb11 => ?_) (fun hb11 => ?_)
  · refine .gFs 6 6 false rfl rfl rfl ?_
    refine .z zpT (.nil ?_)
    refine (.condT rfl rfl ?_)
    refine .regSeq (.z zg (.nil ?_))
    refine .ret (rT (Fin.ret1 Tryz.results246 rfl ?_))
    first
    | exact ⟨H, HLe.refl H, by rw [hW, if_neg (by omega)], hs.out⟩
    | exact ⟨H, HLe.refl H, by rw [hW, if_pos (by omega)], hs.out⟩
  · refine .gT rfl rfl ?_
    refine .z (zfa fa_offsets_offset_1) ?_
    refine .gT rfl rfl ?_
    refine .y hs (zld Tryz.isAgg3) ?_
    refine .gT rfl rfl ?_
    refine .z (zfa fa_offsets_what_0) ?_
    refine .gT rfl rfl ?_
    refine .z (zfa fa_api_What_2) ?_
    refine .gT rfl rfl ?_
    refine .y hs (zld Tryz.isAgg3) ?_
    refine .gT rfl rfl ?_
    refine .z zneq (.z zpF (.nil ?_))
    refine (.condN rfl (fun hc18 => ?_) (fun hc18 => ?_))
    · refine .regSeq (.z zg (.nil ?_))
      refine .ret (rT (Fin.ret1 Tryz.results246 rfl ?_))
      first
      | exact ⟨H, HLe.refl H, by rw [hW, if_neg (by omega)], hs.out⟩
      | exact ⟨H, HLe.refl H, by rw [hW, if_pos (by omega)], hs.out⟩
    · refine .skip ?_
      refine nT ?_
      refine .regSeq (.z zg (.nil ?_))
      refine .ret (Fin.ret1 Tryz.results246 rfl ?_)
      first
      | exact ⟨H, HLe.refl H, by rw [hW, if_neg (by omega)], hs.out⟩
      | exact ⟨H, HLe.refl H, by rw [hW, if_pos (by omega)], hs.out⟩
end Go.Proofs.YtddaejgfjlneoaaGreat

namespace Go.Proofs.YtddaejgfjlneoaaGreat
open Go.MW
def rgtF (k : Int) : Nat := if k = 1 then 237 else if k = 2 then 240 else if k = 3 then 242 else 245
def wgtF (k : Int) : Nat := if k = 1 then 239 else if k = 2 then 241 else if k = 3 then 244 else 246
def kndV (k : Int) : Value := .agg #[.func (.func (rgtF k)) #[] #[], .func (.func (wgtF k)) #[] #[], I (divW ⟨k, 0, 0⟩)]
def kndM : List MapEntry := [{ key := I 1, val := kndV 1, born := 0 }, { key := I 2, val := kndV 2, born := 1 }, { key := I 3, val := kndV 3, born := 2 }, { key := I 4, val := kndV 4, born := 3 }]
theorem offsets_kinds_spec {H : Heap} {w : World} {σ : List Ent} (hs : St H w σ) :
    Cl Tryz.prog 189 [] w fun v w' => ∃ b, v = .map (some b) ∧ St H w' (.obj b (.map kndM.toArray 4) :: σ) := by
  refine Cl.of Tryz.func189 rfl Tryz.ntmps189 (by simp) (args0) ?_
  refine .regSeq (.z zg (.nil (.regSeq ?_)))
  refine .o (.makeMap hs ?_); intro b1 w hs
  refine .z (zbd [_, _, _] bld_offsets_kind) ?_
  refine .o (.insert (es := []) hs rfl rfl rfl Tryz.runUnderlying233 Tryz.runUnderlying3 rfl ?_); intro w hs
  refine .z (zbd [_, _, _] bld_offsets_kind) ?_
  refine .o (.insert (es := [{ key := I 1, val := kndV 1, born := 0 }]) hs rfl rfl rfl Tryz.runUnderlying233 Tryz.runUnderlying3 rfl ?_); intro w hs
  refine .z (zbd [_, _, _] bld_offsets_kind) ?_
  refine .o (.insert (es := [{ key := I 1, val := kndV 1, born := 0 }, { key := I 2, val := kndV 2, born := 1 }]) hs rfl rfl rfl Tryz.runUnderlying233 Tryz.runUnderlying3 rfl ?_); intro w hs
  refine .z (zbd [_, _, _] bld_offsets_kind) ?_
  refine .o (.insert (es := [{ key := I 1, val := kndV 1, born := 0 }, { key := I 2, val := kndV 2, born := 1 }, { key := I 3, val := kndV 3, born := 2 }]) hs rfl rfl rfl Tryz.runUnderlying233 Tryz.runUnderlying3 rfl ?_); intro w hs
  refine .z zm (.z zg (.nil ?_))
  refine .ret (Fin.ret1 Tryz.results189 rfl ?_)
  exact ⟨b1, rfl, hs⟩
def lF1 (k : Int) : Value := if 1 ≤ k ∧ k ≤ 4 then .func (.func (rgtF k)) #[] #[] else .nilFunc
def lF2 (k : Int) : Value := if 1 ≤ k ∧ k ≤ 4 then .func (.func (wgtF k)) #[] #[] else .nilFunc
def lD (k : Int) : Int := if 1 ≤ k ∧ k ≤ 4 then divW ⟨k, 0, 0⟩ else 0
theorem lF_cells (k : Int) : [lF1 k, lF2 k, I (lD k)].all Value.oneCell' = true := by
  unfold lF1 lF2; split <;> rfl
theorem q_kinds {H : Heap} {s : FS} {x y : Operand} {b : Nat} (k : Int) (hx : FS.ev s x = some (.map (some b))) (hy : FS.ev s y = some (I k)) :
    QJ Tryz.prog H [.obj b (.map kndM.toArray 4)] s (.lookup 233 x y true) (.tuple #[.agg #[lF1 k, lF2 k, I (lD k)], .bool (decide (1 ≤ k ∧ k ≤ 4))]) := by
  by_cases h : 1 ≤ k ∧ k ≤ 4
  · rw [decide_eq_true h]
    have h4 : k = 1 ∨ k = 2 ∨ k = 3 ∨ k = 4 := by omega
    rcases h4 with rfl | rfl | rfl | rfl
    · exact q_look (v := kndV 1) (j := 0) hx hy Tryz.runUnderlying233 Tryz.runUnderlying3 rfl .here
    · exact q_look (v := kndV 2) (j := 1) hx hy Tryz.runUnderlying233 Tryz.runUnderlying3 rfl .here
    · exact q_look (v := kndV 3) (j := 2) hx hy Tryz.runUnderlying233 Tryz.runUnderlying3 rfl .here
    · exact q_look (v := kndV 4) (j := 3) hx hy Tryz.runUnderlying233 Tryz.runUnderlying3 rfl .here
  · rw [decide_eq_false h]
    have e1 : lF1 k = .nilFunc := if_neg h
    have e2 : lF2 k = .nilFunc := if_neg h
    have e3 : lD k = 0 := if_neg h
    rw [e1, e2, e3]
    refine q_lookN (es := kndM) (c := 4) hx hy Tryz.runUnderlying233 Tryz.runUnderlying3 Tryz.zeroValue231 ?_ .here
    have n1 : (k == 1) = false := by simp only [beq_eq_false_iff_ne]; omega
    have n2 : (k == 2) = false := by simp only [beq_eq_false_iff_ne]; omega
    have n3 : (k == 3) = false := by simp only [beq_eq_false_iff_ne]; omega
    have n4 : (k == 4) = false := by simp only [beq_eq_false_iff_ne]; omega
    simp [Instr.findNow, Instr.sameNow, kndM, n1, n2, n3, n4]
theorem rgt_call (k : Int) : ∀ args w, (callFunc (rgtF k) args).run Tryz.prog w = .ok (.enter (rgtF k) args) w := by
  unfold rgtF
  split
  · exact Tryz.call237
  · split
    · exact Tryz.call240
    · split
      · exact Tryz.call242
      · exact Tryz.call245
theorem wgt_call (k : Int) : ∀ args w, (callFunc (wgtF k) args).run Tryz.prog w = .ok (.enter (wgtF k) args) w := by
  unfold wgtF
  split
  · exact Tryz.call239
  · split
    · exact Tryz.call241
    · split
      · exact Tryz.call244
      · exact Tryz.call246
theorem rgt_spec {H : Heap} {w : World} {σ : List Ent} {s : Spc} {q : Wht} {vst vwa : Value} (hs : St H w σ) (h1 : RI H vst s.st) (h2 : RI H vwa s.wa) (hk : 1 ≤ q.kind ∧ q.kind ≤ 4) :
    Cl Tryz.prog (rgtF q.kind) [.agg #[I q.kind, I q.st, I q.wa, I s.id, I s.src, vst, vwa, I s.al, I s.up]] w fun v w' => ∃ b : Bool, v = .bool b ∧ (b = true ↔ WhtOk s q) ∧ St H w' σ := by
  unfold rgtF
  split
  · exact kinds_1_spec hs h2 (by assumption)
  · split
    · exact kinds_2_spec hs h2 (by assumption)
    · split
      · exact kinds_3_spec hs h1 (by assumption)
      · exact kinds_4_spec hs h1 h2 (by omega)
theorem wgt_spec {H : Heap} {w : World} {σ : List Ent} {s : Spc} {q : Wht} {vst vwa : Value} {i k : Nat} {u : Int} (hs : St H w σ) (h1 : RI H vst s.st) (h2 : RI H vwa s.wa) (hok : SpcOk s) (hq : WhtOk s q) (hk : 1 ≤ q.kind ∧ q.kind ≤ 4) (hi : i < s.st.length) (hkw : k < s.wa.length) :
    Cl Tryz.prog (wgtF q.kind) [.agg #[I q.kind, I q.st, I q.wa, I s.id, I s.src, vst, vwa, I s.al, I s.up], .agg #[I (i : Int), I (k : Int), I u]] w fun v w' => ∃ H1, HLe H H1 ∧ v = I (whtW s q i k) ∧ St H1 w' σ := by
  unfold wgtF
  split
  · exact what_litres_spec hs h1 h2 hok hq (by assumption) hi
  · split
    · exact what_plane_spec hs h1 hok (by assumption) hi
    · split
      · exact what_section_spec hs h2 hok (by assumption) hkw
      · exact what_single_spec hs (by omega)
theorem lD_div {q : Wht} (h : 1 ≤ q.kind ∧ q.kind ≤ 4) : lD q.kind = divW q := by
  unfold lD; rw [if_pos h]; rfl
theorem wht_kind {s : Spc} {q : Wht} (h : WhtOk s q) : 1 ≤ q.kind ∧ q.kind ≤ 4 := by
  rcases wht_iff.1 h with h | h | h | h <;> omega
set_option maxHeartbeats 1000000 in
theorem offsets_weights_spec {H : Heap} {w : World} {σ : List Ent} {s : Spc} {q : Wht} {vst vwa : Value} (hs : St H w σ) (h1 : RI H vst s.st) (h2 : RI H vwa s.wa) (hok : SpcOk s) :
    Cl Tryz.prog 102 [.agg #[I s.id, I s.src, vst, vwa, I s.al, I s.up], .agg #[I q.kind, I q.st, I q.wa]] w fun u w' => ∃ H1 vl L d b en, HLe H H1 ∧ u = .tuple #[vl, I d, .bool b] ∧ OwnS 1 vl (Is L) en ∧ ((b = true ∧ WhtOk s q ∧ L = whtL s q ∧ d = divW q) ∨ (b = false ∧ ¬ WhtOk s q ∧ L = [] ∧ d = 0)) ∧ St H1 w' (en :: σ) := by
  have hsm := spc_small hok
  obtain ⟨ast, cst, rfl⟩ := RI.shape h1
  obtain ⟨awa, cwa, rfl⟩ := RI.shape h2
  refine Cl.of Tryz.func102 rfl Tryz.ntmps102 (by simp) (args_cons (k := 0) rfl (args_cons (k := 1) rfl (args0))) ?_
  refine .regSeq ?_
  refine .o (.box hs rfl rfl ?_); intro b2 w hs
  refine .o (.box hs rfl rfl ?_); intro b3 w hs
  refine .z zg (.z zg (.z zg (.nil ?_)))
  refine .cut (fun fs w => ∃ b7, FSub fs ⟨46, [], [(8, .bool (decide (1 ≤ q.kind ∧ q.kind ≤ 4))), (7, .pointer (some ⟨b7, 0, none⟩)), (2, .pointer (some ⟨b2, 0, none⟩)), (3, .pointer (some ⟨b3, 0, none⟩))]⟩ ∧ St H w (.blk b7 [lF1 q.kind, lF2 q.kind, I (lD q.kind)] :: .blk b3 [I q.kind, I q.st, I q.wa] :: .blk b2 [I s.id, I s.src, (.slice ast s.st.length cst), (.slice awa s.wa.length cwa), I s.al, I s.up] :: σ)) ?_ ?_
  · refine .draw mix rfl hs ?_; intro w hs
    refine .z 1 rfl (zfa fa_api_What_0) ?_; refine .y 2 rfl hs Tryz.isAgg3 ?_
    refine .e2 (i := 0) (j := 7) (by kernel_rfl) rfl rfl rfl rfl .none .none hs ?_ ?_
    · refine .call Tryz.call189 rfl (offsets_kinds_spec hs) ?_; rintro _ w ⟨b13, rfl, hs⟩
      refine .go ?_
      refine .q (i := 3) [.obj b13 (.map kndM.toArray 4)] rfl (by kernel_rfl) .none (q_kinds (H := .bot) q.kind rfl rfl) ?_
      refine .z 4 rfl zm ?_; refine .z 5 rfl zex ?_; refine .z 6 rfl zex ?_
      refine .e1 (i := 7) (by kernel_rfl) rfl rfl .none hs ?_
      refine .alloc hs Tryz.zeroValue231 rfl ?_; intro b7 w hs
      refine .go ?_
      refine .e1 (i := 8) (by kernel_rfl) rfl rfl .none hs ?_
      refine .stores (vs := [lF1 q.kind, lF2 q.kind, I (lD q.kind)]) hs rfl rfl Tryz.sizeOf231 ?_ (hv := lF_cells _); intro w hs
      refine .go ?_
      refine .z 9 rfl zg ?_; refine .done (by kernel_rfl) hs ?_
      exact nT ⟨b7, by repeat (first | exact .nil rfl rfl | refine .cons rfl ?_), hs.sub (by repeat (first | exact Sub.refl _ | constructor | apply Sub.weaken))⟩
    · refine .alloc hs Tryz.zeroValue231 rfl ?_; intro b7 w hs
      refine .go ?_
      refine .e1 (i := 0) (by kernel_rfl) rfl rfl .none hs ?_
      refine .call Tryz.call189 rfl (offsets_kinds_spec hs) ?_; rintro _ w ⟨b13, rfl, hs⟩
      refine .go ?_
      refine .q (i := 3) [.obj b13 (.map kndM.toArray 4)] rfl (by kernel_rfl) .none (q_kinds (H := .bot) q.kind rfl rfl) ?_
      refine .z 4 rfl zm ?_; refine .z 5 rfl zex ?_; refine .z 6 rfl zex ?_
      refine .e1 (i := 8) (by kernel_rfl) rfl rfl .none hs ?_
      refine .stores (vs := [lF1 q.kind, lF2 q.kind, I (lD q.kind)]) hs rfl rfl Tryz.sizeOf231 ?_ (hv := lF_cells _); intro w hs
      refine .go ?_
      refine .z 9 rfl zg ?_; refine .done (by kernel_rfl) hs ?_
      exact nT ⟨b7, by repeat (first | exact .nil rfl rfl | refine .cons rfl ?_), hs.sub (by repeat (first | exact Sub.refl _ | constructor | apply Sub.weaken))⟩
  · rintro fs w ⟨b7, hfs, hs⟩
    refine WE.sub ?_ hfs
    refine .regSeq (.y hs (zls [_, _, _] Tryz.isAgg29 Tryz.sizeOf29) (.y hs (zls [_, _, _, _, _, _] Tryz.isAgg34 Tryz.sizeOf34) (.z (zbd (vs := [(0, .agg #[I q.kind, I q.st, I q.wa]), (1, .agg #[I s.id, I s.src, (.slice ast s.st.length cst), (.slice awa s.wa.length cwa), I s.al, I s.up])]) [I q.kind, I q.st, I q.wa, I s.id, I s.src, (.slice ast s.st.length cst), (.slice awa s.wa.length cwa), I s.al, I s.up] bld_offsets_what rfl (by kernel_rfl)) ?_)))
    refine .o (.alloc hs Tryz.zeroValue236 rfl ?_); intro b9 w hs
    refine .o (.stores (vs := [_, _, _, _, _, _, _, _, _]) hs rfl rfl Tryz.sizeOf236 ?_); intro w hs
    refine .nil (.seq (.regSeq (.z zm (.z znot (.z zm ?_)))))
    refine .bif (t' := 24) rfl (fun hb24 => ?_) (fun hb24 => ?_)
    · refine .gFs 5 2 false rfl rfl rfl ?_
      refine .z zpT (.nil ?_)
      refine (.condT rfl rfl ?_)
      refine .regSeq (.z zg (.z zg (.z zg (.nil ?_))))
      refine .ret (rT (?_))
      have hn : ¬ WhtOk s q := fun h => by have := wht_kind h; simp [this] at hb24
      exact Fin.retD [] [] hs fun w hs => ⟨_, results3 Tryz.results102 rfl rfl rfl, H, _, [], _, _, .nul, HLe.refl H, rfl, .nil 1 none, .inr ⟨rfl, hn, rfl, rfl⟩, hs.out.nul⟩
    · refine .gT rfl rfl ?_
      have hk : 1 ≤ q.kind ∧ q.kind ≤ 4 := by simpa using hb24
      rw [show lF1 q.kind = .func (.func (rgtF q.kind)) #[] #[] from if_pos hk, show lF2 q.kind = .func (.func (wgtF q.kind)) #[] #[] from if_pos hk, lD_div hk] at hs
      refine .z (zfa fa_offsets_kind_0) ?_
      refine .gT rfl rfl ?_
      refine .y hs (zld Tryz.isAgg228) ?_
      refine .gT rfl rfl ?_
      refine .y hs (zls [_, _, _, _, _, _, _, _, _] Tryz.isAgg236 Tryz.sizeOf236) ?_
      refine .gT rfl rfl ?_
      refine .o (.callG (first := []) (cap := []) rfl rfl (rgt_call q.kind) (rgt_spec (s := s) hs h1 h2 hk) ?_); rintro _ w ⟨b28, rfl, hb28, hs⟩
      refine .gT rfl rfl ?_
      refine .z znot (.z zpF (.nil ?_))
      refine (.cond rfl (fun hc30 => ?_) (fun hc30 => ?_))
      · refine .regSeq (.z zg (.z zg (.z zg (.nil ?_))))
        refine .ret (rT (?_))
        have hn : ¬ WhtOk s q := fun h => by rw [hb28.2 h] at hc30; cases hc30
        exact Fin.retD [] [] hs fun w hs => ⟨_, results3 Tryz.results102 rfl rfl rfl, H, _, [], _, _, .nul, HLe.refl H, rfl, .nil 1 none, .inr ⟨rfl, hn, rfl, rfl⟩, hs.out.nul⟩
      · refine .skip ?_
        refine nT ?_
        refine .regSeq ?_
        refine .o (.buildSlice (cells := [_]) hs bls_sl_int_1 rfl rfl ?_); intro b31 w hs
        refine .o (.alloc hs Tryz.zeroValue22 rfl ?_); intro b10 w hs
        refine .o (.store hs rfl rfl Tryz.sizeOf22 ?_); intro w hs
        refine .nil (.seq (.regSeq (.y hs (zls [_, _, _, _, _, _] Tryz.isAgg34 Tryz.sizeOf34) ?_)))
        have hq : WhtOk s q := hb28.1 (by simpa using hc30)
        refine .o (.call Tryz.call103 rfl (offsets_all_spec (s := s) hs h1 h2 ⟨by omega, by omega⟩) ?_); rintro _ w ⟨H1, ba, hle1, rfl, hit, hs⟩
        have hwl := whtL_length s q
        refine .nil (.block ?_)
        refine .rangeFunc (gf := 190) (cap := [.pointer (some ⟨ba, 0, none⟩)]) (xs := allV s) (σb := [.blk b10 [.slice (some ⟨b31, 0, none⟩) 1 1], .blk b31 (Is [0]), .blk b7 [.func (.func (rgtF q.kind)) #[] #[], .func (.func (wgtF q.kind)) #[] #[], I (divW q)], .blk b9 [I q.kind, I q.st, I q.wa, I s.id, I s.src, (.slice ast s.st.length cst), (.slice awa s.wa.length cwa), I s.al, I s.up]]) (σf := σ) (hs.sub (by repeat (first | exact Sub.refl _ | constructor | apply Sub.weaken))) trivial rfl hit Tryz.call190 (fun x hx => by
            simp only [allV, List.mem_map] at hx
            obtain ⟨j, _, rfl⟩ := hx; rfl) rfl
          (I := fun p H' σb => ∃ vo en, σb = [.blk b10 [vo], en, .blk b7 [.func (.func (rgtF q.kind)) #[] #[], .func (.func (wgtF q.kind)) #[] #[], I (divW q)], .blk b9 [I q.kind, I q.st, I q.wa, I s.id, I s.src, (.slice ast s.st.length cst), (.slice awa s.wa.length cwa), I s.al, I s.up]] ∧ OwnS 1 vo (Is ((whtL s q).take (p + 1))) en) (Ix := fun _ _ _ => False)
          (fun j _ _ σ g1 g2 => g2) (fun _ _ _ _ _ h => h) ⟨_, _, rfl, .full rfl⟩ ?_ ?_ (fun D c H' σb w _ h _ => h.elim)
        · rintro ly p hp H2 σb2 σf2 w hle2 ⟨vo, en, rfl, hO⟩ hs ⟨rr, hrr⟩
          have hpm : p < s.many := by rw [allV_length] at hp; exact hp
          have hin : p / s.wa.length < s.st.length := Nat.div_lt_of_lt_mul (by rw [Nat.mul_comm]; exact hpm)
          have hkm := Nat.mod_lt p hsm.2.2.1
          have hws := whtL_succ s q hpm
          have hget : (whtL s q)[p + 1]? = some (whtW s q (p / s.wa.length) (p % s.wa.length)) := by rw [← hws]; exact gi_get (by omega)
          rw [allV_get hp]
          obtain ⟨al, ll, cl, rfl, hll⟩ := hO.shape
          generalize p / s.wa.length = i at *
          generalize p % s.wa.length = k at *
          refine .region ?_
          refine .o (.alloc hs Tryz.zeroValue158 rfl ?_); intro b11 w hs
          refine .o (.stores (vs := [_, _, _]) hs rfl rfl Tryz.sizeOf158 ?_); intro w hs
          refine .nil ?_
          refine nT ?_
          refine ⟨H2, [.blk b11 [I (i : Int), I (k : Int), I ((p + 1 : Nat) : Int)], .blk b10 [Value.slice al ll cl], en, .blk b7 [.func (.func (rgtF q.kind)) #[] #[], .func (.func (wgtF q.kind)) #[] #[], I (divW q)], .blk b9 [I q.kind, I q.st, I q.wa, I s.id, I s.src, (.slice ast s.st.length cst), (.slice awa s.wa.length cwa), I s.al, I s.up]], HLe.refl _, hs, ?_⟩; rintro w σf4 - hs
          refine .block ?_
          refine .draw mix rfl hs ?_; intro w hs
          refine .y 0 rfl hs Tryz.isAgg22 ?_; refine .z 1 rfl (zfa fa_offsets_kind_1) ?_
          refine .y 2 rfl hs Tryz.isAgg229 ?_
          refine .ys 3 rfl hs [_, _, _, _, _, _, _, _, _] Tryz.isAgg236 Tryz.sizeOf236 ?_; refine .ys 4 rfl hs [_, _, _] Tryz.isAgg158 Tryz.sizeOf158 ?_
          refine .e1 (i := 5) (by kernel_rfl) rfl rfl .none hs ?_
          refine .callG (first := []) (cap := []) rfl rfl (wgt_call q.kind) (wgt_spec (s := s) (q := q) (i := i) (k := k) hs (h1.mono (hle1.trans hle2)) (h2.mono (hle1.trans hle2)) hok hq hk hin hkm) ?_; rintro _ w ⟨H3, hle3, rfl, hs⟩
          refine .go ?_
          refine .e1 (i := 6) (by kernel_rfl) rfl rfl .none hs ?_
          refine .buildSlice (cells := [_]) hs bls_sl_int_1 rfl rfl ?_; intro b41 w hs
          refine .go ?_
          refine .e1 (i := 7) (by kernel_rfl) rfl rfl .none hs ?_
          refine .append (ys := Is [whtW s q i k]) hs app_sl_int_int rfl rfl hO (.own .here rfl rfl) (Is_cell _) (fun l h => by simp at h; omega) ?_; intro v42 en42 w hO2 hs
          rw [show Is ((whtL s q).take (p + 1)) ++ Is [whtW s q i k] = Is ((whtL s q).take (p + 1 + 1)) by rw [take_snoc hget]; simp [Is]] at hO2
          obtain ⟨a42, l42, c42, rfl, h42⟩ := hO2.shape
          refine .go ?_
          refine .e1 (i := 8) (by kernel_rfl) rfl rfl .none hs ?_
          refine .store hs rfl rfl Tryz.sizeOf22 ?_; intro w hs
          refine .go ?_
          refine .done (by kernel_rfl) hs ?_
          refine nB ?_
          exact ⟨H3, [.blk b10 [.slice a42 l42 c42], en42, .blk b7 [.func (.func (rgtF q.kind)) #[] #[], .func (.func (wgtF q.kind)) #[] #[], I (divW q)], .blk b9 [I q.kind, I q.st, I q.wa, I s.id, I s.src, (.slice ast s.st.length cst), (.slice awa s.wa.length cwa), I s.al, I s.up]], hle3, (hs.sub (by repeat (first | exact Sub.refl _ | constructor | apply Sub.weaken)) : St H3 w (.blk b10 _ :: en42 :: .blk b7 _ :: .blk b9 _ :: σf4)), _, _, rfl, hO2⟩
        · rintro D H2 σb2 w hle2 ⟨vo, en, rfl, hO⟩ hs
          rw [allV_length, ← hwl, List.take_length] at hO
          replace hs : St H2 w (.obj D (.deferred (some [])) :: .blk b10 [vo] :: en :: .blk b7 [.func (.func (rgtF q.kind)) #[] #[], .func (.func (wgtF q.kind)) #[] #[], I (divW q)] :: .blk b9 [I q.kind, I q.st, I q.wa, I s.id, I s.src, (.slice ast s.st.length cst), (.slice awa s.wa.length cwa), I s.al, I s.up] :: σ) := hs
          obtain ⟨al, ll, cl, rfl, hll⟩ := hO.shape
          refine nB (nT ?_)
          refine .seq (.draw mix rfl hs ?_); intro w hs
          refine .y 0 rfl hs Tryz.isAgg22 ?_; refine .z 1 rfl (zfa fa_offsets_kind_2) ?_; refine .y 2 rfl hs Tryz.isAgg3 ?_; refine .z 3 rfl zg ?_; refine .z 4 rfl zg ?_; refine .z 5 rfl zg ?_; refine .done (by kernel_rfl) hs ?_
          refine .ret ?_
          exact Fin.retD [D] [] hs fun w hs => ⟨_, results3 Tryz.results102 rfl rfl rfl, H2, _, _, _, _, en, hle1.trans hle2, rfl, hO, .inl ⟨rfl, hq, rfl, rfl⟩, hs.sub (by repeat (first | exact Sub.refl _ | constructor | apply Sub.weaken))⟩
end Go.Proofs.YtddaejgfjlneoaaGreat
