/-
  Texts of these claims, joined: Zb Zc Zd Ze Zf Zg Zh Zi Zj Zl Zm Zn Zo Zp.
-/
import Derived.Test.YtddaejgfjlneoaaGreatBd
namespace Go.Proofs.YtddaejgfjlneoaaGreat
open Go.MW
def rowP (X Y : List Int) (i : Nat) : List Int := (List.range Y.length).map fun k => gi X i * gi Y k
def gridP (X Y : List Int) (i : Nat) : List (List Int) := (List.range i).map (rowP X Y)
theorem rowP_length (X Y : List Int) (i : Nat) : (rowP X Y i).length = Y.length := by simp [rowP]
theorem gridP_length (X Y : List Int) (i : Nat) : (gridP X Y i).length = i := by simp [gridP]
theorem gridP_succ (X Y : List Int) (i : Nat) : gridP X Y (i + 1) = gridP X Y i ++ [rowP X Y i] := by simp [gridP, List.range_succ]
theorem rowP_take {X Y : List Int} {i k : Nat} (hk : k < Y.length) : (rowP X Y i).take (k + 1) = (rowP X Y i).take k ++ [gi X i * gi Y k] := by
  rw [take_snoc (by simp [rowP, hk] : (rowP X Y i)[k]? = some (gi X i * gi Y k))]
theorem gridP_gr {X Y : List Int} {n i : Nat} (h : i < n) : gr (gridP X Y n) i = rowP X Y i := by simp [gr, List.getD, gridP, h]
theorem gridP_gt {X Y : List Int} {n i k : Nat} (h : i < n) (hk : k < Y.length) : gt (gridP X Y n) i k = gi X i * gi Y k := by
  unfold gt; rw [gridP_gr h]; simp [gi, List.getD, rowP, hk]
inductive GrS (X Y : List Int) (b : Nat) (i k : Nat) (H : Heap) (σ : List Ent) : Prop
  | go (us : List Value) (v : Value) (en : Ent) (h : i < X.length) (h1 : RLs H us (gridP X Y i)) (h2 : OwnS 1 v (Is ((rowP X Y i).take k)) en) (h3 : σ = [.blk b (us ++ v :: List.replicate (X.length - i - 1) (.slice none 0 0)), en])
  | fin (us : List Value) (h : i = X.length) (h1 : RLs H us (gridP X Y i)) (h3 : σ = [.blk b us])
theorem GrS.mono {X Y : List Int} {b i k : Nat} {H H' : Heap} {σ : List Ent} (h : GrS X Y b i k H σ) (hl : HLe H H') : GrS X Y b i k H' σ := by
  cases h with
  | go us v en h h1 h2 h3 => exact .go us v en h (h1.mono hl) h2 h3
  | fin us h h1 h3 => exact .fin us h (h1.mono hl) h3
theorem weigh_Weights_spec {H : Heap} {w : World} {σ : List Ent} {v : Value} {l : List Int} (hs : St H w σ) (hr : RI H v l) :
    Cl Tryz.prog 273 [v] w fun u w' => ∃ H1 vo e, HLe H H1 ∧ u = .tuple #[vo, I e] ∧ (PlcOk 9 100000 l → e = 0 ∧ RI H1 vo (wts l)) ∧ St H1 w' σ := by
  obtain ⟨a, c, rfl⟩ := RI.shape hr
  refine Cl.of Tryz.func273 rfl Tryz.ntmps273 (by simp) (args_cons (k := 0) rfl (args0)) ?_
  refine .regSeq (.z zg (.z zg (.nil (.seq (.regSeq (.z zm ?_))))))
  refine .o (.call Tryz.call294 rfl (weigh_CheckPlaces_spec hs hr) ?_); rintro _ w ⟨e, rfl, he, hs⟩
  refine .z zg (.nil (.regSeq (.z zm (.z zneq (.nil ?_)))))
  refine (.condN rfl (fun hc8 => ?_) (fun hc8 => ?_))
  · refine .regSeq (.z zm (.z zg (.z zg (.nil ?_))))
    refine .ret (rT (Fin.ret2 Tryz.results273 rfl rfl ?_))
    exact ⟨H, _, _, HLe.refl H, rfl, fun h => by rcases he with ⟨_, h2⟩ | ⟨h1, _⟩; exact (hc8 h2).elim; exact (h1 h).elim, hs⟩
  · refine .skip ?_
    refine nT ?_
    refine .regSeq (.z zm ?_)
    have hp : PlcOk 9 100000 l := by rcases he with ⟨h, _⟩ | ⟨_, h2⟩; exact h; exact (h2 (by simpa using hc8)).elim
    refine .o (.call Tryz.call248 rfl (weigh_weights_spec hs hr hp) ?_); rintro v11 w ⟨H1, hle1, hR, hs⟩
    refine .z zg (.z zg (.nil ?_))
    refine .ret (Fin.ret2 Tryz.results273 rfl rfl ?_)
    exact ⟨H1, _, _, hle1, rfl, fun _ => ⟨rfl, hR⟩, hs⟩
theorem weigh_isGrid_spec {H : Heap} {w : World} {σ : List Ent} {v1 v2 : Value} {a b : List Int} (hs : St H w σ) (h1 : RI H v1 a) (h2 : RI H v2 b) :
    Cl Tryz.prog 191 [v1, v2] w fun u w' => ∃ bb : Bool, u = .bool bb ∧ (bb = true ↔ PlcOk 9 100000 a ∧ PlcOk 7 15000 b) ∧ St H w' σ := by
  refine Cl.of Tryz.func191 rfl Tryz.ntmps191 (by simp) (args_cons (k := 0) rfl (args_cons (k := 1) rfl (args0))) ?_
  refine .regSeq (.z zg (.nil (.regSeq (.z zm ?_))))
  refine .o (.call Tryz.call247 rfl (weigh_arePlaces_spec (many := 9) (most := 100000) hs h1) ?_); rintro _ w ⟨b6, rfl, hb6, hs⟩
  refine .z zm ?_
  refine .bif (t' := 7) rfl (fun hb7 => ?_) (fun hb7 => ?_)
  · refine .gT rfl rfl ?_
    refine .z zm ?_
    refine .gT rfl rfl ?_
    refine .o (.call Tryz.call247 rfl (weigh_arePlaces_spec (many := 7) (most := 15000) hs h2) ?_); rintro _ w ⟨b9, rfl, hb9, hs⟩
    refine .z zpT (.z zg (.nil ?_))
    refine .ret (Fin.ret1 Tryz.results191 rfl ?_)
    exact ⟨_, rfl, by rw [hb9]; exact ⟨fun h => ⟨hb6.1 hb7, h⟩, fun h => h.2⟩, hs⟩
  · refine .gFs 2 2 true rfl rfl rfl ?_
    refine .z zpF (.z zg (.nil ?_))
    refine .ret (Fin.ret1 Tryz.results191 rfl ?_)
    exact ⟨_, rfl, ⟨fun h => (by cases h), fun h => by rw [hb6.2 h.1] at hb7; cases hb7⟩, hs⟩
theorem weigh_pairs_1_1_spec {H : Heap} {w : World} {σ : List Ent} {bx by_ : Nat} {x y : Int} (hs : St H w σ) (hx : Row H bx [I x]) (hy : Row H by_ [I y]) :
    Cl Tryz.prog 279 [.pointer (some ⟨bx, 0, none⟩), .pointer (some ⟨by_, 0, none⟩)] w fun u w' => u = .tuple #[I x, I y] ∧ St H w' σ := by
  have hx0 := hx.at 0
  have hy0 := hy.at 0
  refine Cl.of Tryz.func279 rfl Tryz.ntmps279 (by simp) (args_cons (k := 0) rfl (args_cons (k := 1) rfl (args0))) ?_
  refine .regSeq (.z zg (.z zg (.nil ?_)))
  refine .seq (.draw mix rfl hs ?_); intro w hs
  refine .y 0 rfl hs Tryz.isAgg3 ?_; refine .y 1 rfl hs Tryz.isAgg3 ?_; refine .z 2 rfl zg ?_; refine .z 3 rfl zg ?_; refine .done (by kernel_rfl) hs ?_
  refine .ret (Fin.ret2 Tryz.results279 rfl rfl ?_)
  exact ⟨rfl, hs⟩
def PrE (X Y : List Int) (p : Nat) (H : Heap) (z : List Value) : Prop :=
  ∃ bx by_, z = [.agg #[I ((p / Y.length : Nat) : Int), I ((p % Y.length : Nat) : Int)], .func (.func 279) #[] #[.pointer (some ⟨bx, 0, none⟩), .pointer (some ⟨by_, 0, none⟩)]] ∧ Row H bx [I (gi X (p / Y.length))] ∧ Row H by_ [I (gi Y (p % Y.length))]
theorem weigh_pairs_1_iter {H : Heap} {b1 b2 : Nat} {v1 v2 : Value} {X Y : List Int} (hb1 : Row H b1 [v1]) (hb2 : Row H b2 [v2]) (hX : RI H v1 X) (hY : RI H v2 Y) (hXl : X.length ≤ 1000) (hYl : Y.length ≤ 1000) :
    IterE Tryz.prog 278 [.pointer (some ⟨b1, 0, none⟩), .pointer (some ⟨b2, 0, none⟩)] H (X.length * Y.length) (PrE X Y) := by
  intro ly II Ix hmI _ hy H0 σb0 σf w hle hI0 hs
  obtain ⟨a1, c1, rfl⟩ := RI.shape hX
  obtain ⟨a2, c2, rfl⟩ := RI.shape hY
  have h01 : cellAt H0 b1 0 = some (.slice a1 X.length c1) := cellAt.mono (hb1.at 0) hle
  have h02 : cellAt H0 b2 0 = some (.slice a2 Y.length c2) := cellAt.mono (hb2.at 0) hle
  refine Cl.of Tryz.func278 rfl Tryz.ntmps278 (by simp) (args_cons (k := 0) rfl (args_cons (k := 1) rfl (args_cons (k := 2) rfl (args0)))) ?_
  refine .regSeq (.y hs (zld Tryz.isAgg22) (.z (zlen Tryz.runUnderlying22) (.z zm (.nil ?_))))
  refine .for (N := X.length) (J := fun i fr w => fr = [(8, .slice a1 X.length c1), (0, .func (.yield ly) #[] #[]), (1, .pointer (some ⟨b1, 0, none⟩)), (2, .pointer (some ⟨b2, 0, none⟩))] ∧ ∃ H1 σb, HLe H H1 ∧ HLe H0 H1 ∧ II (i * Y.length) H1 σb ∧ St H1 w (σb ++ σf)) (by omega) ?_ ?_ ?_
  · exact .mk ⟨rfl, H0, σb0, hle, HLe.refl _, by rw [Nat.zero_mul]; exact hI0, hs⟩
  · rintro i fr w hi ⟨rfl, H1, σb, hle1, hle0, hI, hs⟩
    refine .block (.regSeq (.z zm ?_))
    refine .ixY hs (hX.mono hle1) rfl rfl Tryz.runUnderlying22 Tryz.sizeOf3 (gi_get (l := X) (i := i) (by omega)) (by first | rfl | assumption | omega) ?_; intro b13 o13 hc13
    refine .q hs (q_loadR rfl Tryz.isAgg3 hc13) ?_
    refine .o (.alloc hs Tryz.zeroValue3 rfl ?_); intro b5 w hs
    refine .z zg ?_
    refine .o (.store hs rfl rfl Tryz.sizeOf3 ?_); intro w hs
    refine .nil (.regSeq ?_)
    obtain ⟨H2, hle2, r5, hs⟩ := hs.publish (b := b5) .here
    have h22 := cellAt.mono h02 (hle0.trans hle2)
    refine .y hs (zld Tryz.isAgg22) (.z (zlen Tryz.runUnderlying22) (.z zm (.nil ?_)))
    refine .for (N := Y.length) (J := fun k fr w => fr = [(15, .slice a2 Y.length c2), (4, I (i : Int)), (10, I (i : Int)), (9, I (X.length : Int)), (5, .pointer (some ⟨b5, 0, none⟩)), (8, .slice a1 X.length c1), (0, .func (.yield ly) #[] #[]), (1, .pointer (some ⟨b1, 0, none⟩)), (2, .pointer (some ⟨b2, 0, none⟩))] ∧ ∃ H3 σb, HLe H2 H3 ∧ II (i * Y.length + k) H3 σb ∧ St H3 w (σb ++ σf)) (by omega) ?_ ?_ ?_
    · exact .mk ⟨rfl, H2, σb, HLe.refl _, hmI _ _ _ _ hle2 hI, hs⟩
    · rintro k fr w hk ⟨rfl, H3, σb3, hle3, hI3, hs⟩
      have hle03 := hle0.trans (hle2.trans hle3)
      have hle13 := hle1.trans (hle2.trans hle3)
      refine .block (.regSeq (.z zm ?_))
      refine .ixY hs (hY.mono hle13) rfl rfl Tryz.runUnderlying22 Tryz.sizeOf3 (gi_get (l := Y) (i := k) (by omega)) (by first | rfl | assumption | omega) ?_; intro b20 o20 hc20
      refine .q hs (q_loadR rfl Tryz.isAgg3 hc20) ?_
      refine .o (.alloc hs Tryz.zeroValue3 rfl ?_); intro b7 w hs
      refine .z zg ?_
      refine .o (.store hs rfl rfl Tryz.sizeOf3 ?_); intro w hs
      refine .nil (.regSeq (.z zm (.z zm (.z zm ?_))))
      refine .q hs (q_buildA (vs := [(0, I (i : Int)), (1, I (k : Int))]) (cells := [I (i : Int), I (k : Int)]) Tryz.zeroValue90 rfl Tryz.runUnderlying90 Tryz.sizeOf3 rfl) ?_
      refine .q hs (q_makeFunc (f := []) (c := [_, _]) rfl rfl) ?_
      obtain ⟨H4, hle4, r7, hs⟩ := hs.publish (b := b7) .here
      obtain ⟨d1, d2⟩ := uidx (nw := Y.length) (i := i) (k := k) hk
      have hlt : i * Y.length + k < X.length * Y.length := by
        have := Nat.mul_le_mul_right Y.length (show i + 1 ≤ X.length by omega)
        rw [Nat.add_mul, Nat.one_mul] at this; omega
      have hyd := hy (i * Y.length + k) hlt [.agg #[I (i : Int), I (k : Int)], .func (.func 279) #[] #[.pointer (some ⟨b5, 0, none⟩), .pointer (some ⟨b7, 0, none⟩)]] H4 σb3 σf w (hle13.trans hle4) ⟨b5, b7, by rw [d1, d2], by rw [d1]; exact r5.mono (hle3.trans hle4), by rw [d2]; exact r7⟩ (hmI _ _ _ _ hle4 hI3) hs
      refine .o (.yield rfl rfl hyd ?_); rintro v27 w ⟨H5, σ5, g1, hs, g3⟩
      obtain ⟨bb, rfl, gT, gF⟩ := yd_bool g3
      refine .z znot (.nil ?_)
      refine (.cond rfl (fun hc28 => ?_) (fun hc28 => ?_))
      · refine .ret (rB (rT (rB (rB (rT (rB (Fin.ret0 Tryz.results278 ?_)))))))
        exact ⟨H5, σ5, hle03.trans (hle4.trans g1), hs, .inr (gF (by simpa using hc28))⟩
      · refine .skip ?_
        refine nB (nT ?_)
        exact .mk ⟨rfl, H5, σ5, hle3.trans (hle4.trans g1), gT (by simpa using hc28), hs⟩
    · rintro fr w ⟨rfl, H3, σb3, hle3, hI3, hs⟩
      refine nB (nT ?_)
      exact .mk ⟨rfl, H3, σb3, hle1.trans (hle2.trans hle3), hle0.trans (hle2.trans hle3), by rw [Nat.add_mul, Nat.one_mul]; exact hI3, hs⟩
  · rintro fr w ⟨rfl, H1, σb, hle1, hle0, hI, hs⟩
    exact Fin.end0 Tryz.results278 ⟨H1, σb, hle0, hs, .inl hI⟩
theorem weigh_pairs_spec {H : Heap} {w : World} {σ : List Ent} {v1 v2 : Value} {X Y : List Int} (hs : St H w σ) (hX : RI H v1 X) (hY : RI H v2 Y) (hXl : X.length ≤ 1000) (hYl : Y.length ≤ 1000) :
    Cl Tryz.prog 249 [v1, v2] w fun u w' => ∃ H1 b1 b2, HLe H H1 ∧ u = .func (.func 278) #[] #[.pointer (some ⟨b1, 0, none⟩), .pointer (some ⟨b2, 0, none⟩)] ∧ IterE Tryz.prog 278 [.pointer (some ⟨b1, 0, none⟩), .pointer (some ⟨b2, 0, none⟩)] H1 (X.length * Y.length) (PrE X Y) ∧ St H1 w' σ := by
  obtain ⟨a1, c1, rfl⟩ := RI.shape hX
  obtain ⟨a2, c2, rfl⟩ := RI.shape hY
  refine Cl.of Tryz.func249 rfl Tryz.ntmps249 (by simp) (args_cons (k := 0) rfl (args_cons (k := 1) rfl (args0))) ?_
  refine .regSeq ?_
  refine .o (.box hs rfl rfl ?_); intro b2 w hs
  refine .o (.box hs rfl rfl ?_); intro b3 w hs
  refine .z zg (.nil (.regSeq ?_))
  refine .q hs (q_makeFunc (f := []) (c := [_, _]) rfl rfl) ?_
  refine .z zg (.nil ?_)
  refine .ret (Fin.ret1 Tryz.results249 rfl ?_)
  obtain ⟨H1, g1, r1, hs⟩ := hs.publish (b := b2) (by repeat constructor)
  obtain ⟨H2, g2, r2, hs⟩ := hs.publish (b := b3) (by repeat constructor)
  exact ⟨H2, b2, b3, g1.trans g2, rfl, weigh_pairs_1_iter (r1.mono g2) r2 (hX.mono (g1.trans g2)) (hY.mono (g1.trans g2)) hXl hYl, hs⟩
set_option maxHeartbeats 1000000 in
theorem weigh_grid_spec {H : Heap} {w : World} {σ : List Ent} {v1 v2 : Value} {l1 l2 : List Int} (hs : St H w σ) (hr1 : RI H v1 l1) (hr2 : RI H v2 l2) (hp1 : PlcOk 9 100000 l1) (hp2 : PlcOk 7 15000 l2) :
    Cl Tryz.prog 192 [v1, v2] w fun u w' => ∃ H1, HLe H H1 ∧ RT H1 u (gridP (wts l1) (wts l2) l1.length) ∧ St H1 w' σ := by
  obtain ⟨a1, c1, rfl⟩ := RI.shape hr1
  obtain ⟨a2, c2, rfl⟩ := RI.shape hr2
  have hn1 := hp1.many
  have hn2 := hp2.many
  have htw1 := hp1.two
  have htw2 := hp2.two
  have hp2' : PlcOk 9 100000 l2 := ⟨hp2.two, by omega, hp2.low, by have := hp2.high; omega, hp2.rise⟩
  have hXl := wts_length l1
  have hYl := wts_length l2
  have hXb := wts_at hp1
  have hYb := wts_at hp2
  refine Cl.of Tryz.func192 rfl Tryz.ntmps192 (by simp) (args_cons (k := 0) rfl (args_cons (k := 1) rfl (args0))) ?_
  refine .regSeq (.z zg (.nil (.regSeq (.z zm ?_))))
  refine .o (.call Tryz.call248 rfl (weigh_weights_spec hs hr1 hp1) ?_); rintro v13 w ⟨H1, hle1, hX, hs⟩
  refine .z zm ?_
  refine .o (.call Tryz.call248 rfl (weigh_weights_spec hs (hr2.mono hle1) hp2') ?_); rintro v15 w ⟨H2, hle2, hY, hs⟩
  replace hX := hX.mono hle2
  generalize wts l1 = X at *
  generalize wts l2 = Y at *
  obtain ⟨aX, cX, rfl⟩ := RI.shape hX
  obtain ⟨aY, cY, rfl⟩ := RI.shape hY
  refine .z zg (.z zg (.nil (.regSeq (.z zm (.z (zlen Tryz.runUnderlying22) ?_)))))
  refine .o (.makeP l1.length hs rfl rfl Tryz.runUnderlying61 Tryz.typeInfo22 rfl Tryz.sizeOf22 Tryz.zeroValue22 (by omega) ?_); intro b18 w hs
  refine .o (.alloc hs Tryz.zeroValue61 rfl ?_); intro b7 w hs
  refine .o (.store hs rfl rfl Tryz.sizeOf61 ?_); intro w hs
  refine .nil (.seq (.regSeq (.z zm (.z zm ?_))))
  refine .o (.call Tryz.call249 rfl (weigh_pairs_spec hs hX hY (by omega) (by omega)) ?_); rintro _ w ⟨H3, bp1, bp2, hle3, rfl, hit, hs⟩
  have hle03 := hle1.trans (hle2.trans hle3)
  have h0 : GrS X Y b18 0 0 H3 [.blk b18 (List.replicate l1.length (.slice none 0 0)), .nul] := by
    refine .go [] (.slice none 0 0) .nul (by omega) (RLs.nil _) (.nil 1 none) ?_
    rw [hXl]
    obtain ⟨m, hm⟩ : ∃ m, l1.length = m + 1 := ⟨l1.length - 1, by omega⟩
    rw [hm]
    rfl
  refine .nil (.block ?_)
  refine .rangeE (gf := 278) (cap := [.pointer (some ⟨bp1, 0, none⟩), .pointer (some ⟨bp2, 0, none⟩)]) (N := X.length * Y.length) (E := PrE X Y) (σb := .blk b7 [.slice (some ⟨b18, 0, none⟩) l1.length l1.length] :: [.blk b18 (List.replicate l1.length (.slice none 0 0)), .nul]) (σf := σ) (hs.nul.sub (by repeat (first | exact Sub.refl _ | constructor | apply Sub.weaken))) trivial rfl hit Tryz.call278 (fun k H' z ⟨_, _, hz, _⟩ => by rw [hz]; rfl) rfl
    (I := fun p H' σb => ∃ σ1, σb = .blk b7 [.slice (some ⟨b18, 0, none⟩) l1.length l1.length] :: σ1 ∧ GrS X Y b18 (p / Y.length) (p % Y.length) H' σ1) (Ix := fun _ _ _ => False)
    (fun j _ _ σ g1 ⟨σ1, g2, g3⟩ => ⟨σ1, g2, g3.mono g1⟩) (fun _ _ _ _ _ h => h) ⟨_, rfl, by rw [Nat.zero_div, Nat.zero_mod]; exact h0⟩ ?_ ?_ (fun D c H' σb w _ h _ => h.elim)
  · rintro ly p hp z H4 σb2 σf2 w hle4 ⟨bx, by_, rfl, rx, ry⟩ ⟨σ1, rfl, hG⟩ hs ⟨rr, hrr⟩
    have hnext := next_div (p := p) (m := Y.length) (by omega)
    have hkm := Nat.mod_lt p (show 0 < Y.length by omega)
    have hin : p / Y.length < X.length := Nat.div_lt_of_lt_mul (by rw [Nat.mul_comm]; exact hp)
    generalize hi : p / Y.length = i at *
    generalize hk : p % Y.length = k at *
    cases hG with
    | fin us h => omega
    | go us v en h h1 h2 h3 =>
    subst h3
    obtain ⟨av, lv, cv, rfl, hlv⟩ := h2.shape
    have husl : us.length = i := by rw [h1.1, gridP_length]
    have hb1 := hXb i
    have hb2 := hYb k
    have hpr := ab_mul (gi X i) (gi Y k)
    have hprb : -3456000000000 ≤ gi X i * gi Y k ∧ gi X i * gi Y k ≤ 3456000000000 := mul_bd (A := 4800000) (B := 720000) (by unfold ab at hb1; omega) (by unfold ab at hb2; omega)
    refine .regSeq ?_
    refine .o (.alloc hs Tryz.zeroValue90 rfl ?_); intro b8 w hs
    refine .o (.stores (vs := [_, _]) hs rfl rfl Tryz.sizeOf90 ?_); intro w hs
    refine .nil (.region (.z zg (.nil ?_)))
    refine nT ?_
    refine ⟨H4, [.blk b8 [I (i : Int), I (k : Int)], .blk b7 [.slice (some ⟨b18, 0, none⟩) l1.length l1.length], .blk b18 (us ++ Value.slice av lv cv :: List.replicate (X.length - i - 1) (Value.slice none 0 0)), en], HLe.refl _, hs, ?_⟩; rintro w σf4 - hs
    refine .block (.regSeq (.z zm ?_))
    refine .o (.callG (first := []) (cap := [.pointer (some ⟨bx, 0, none⟩), .pointer (some ⟨by_, 0, none⟩)]) rfl rfl Tryz.call279 (weigh_pairs_1_1_spec hs rx ry) ?_); rintro _ w ⟨rfl, hs⟩
    refine .z zm (.z zex (.z zex (.z zg (.z zg (.nil ?_)))))
    refine .draw mix rfl hs ?_; intro w hs
    refine .y 0 rfl hs Tryz.isAgg61 ?_
    first | refine .p (i := 1) rfl (by kernel_rfl) .none (q_ixA0 (k := 0) rfl rfl Tryz.runUnderlying90 Tryz.sizeOf3 rfl (by decide)) ?_ | refine .p (i := 1) rfl (by kernel_rfl) .none (q_ixA (k := 0) rfl rfl Tryz.runUnderlying90 Tryz.sizeOf3 rfl (by decide)) ?_
    refine .y 2 rfl hs Tryz.isAgg3 ?_; refine .y 3 rfl hs Tryz.isAgg61 ?_
    first | refine .p (i := 4) rfl (by kernel_rfl) .none (q_ixA0 (k := 0) rfl rfl Tryz.runUnderlying90 Tryz.sizeOf3 rfl (by decide)) ?_ | refine .p (i := 4) rfl (by kernel_rfl) .none (q_ixA (k := 0) rfl rfl Tryz.runUnderlying90 Tryz.sizeOf3 rfl (by decide)) ?_
    refine .y 5 rfl hs Tryz.isAgg3 ?_
    refine .p (i := 6) rfl (by kernel_rfl) .none (q_ixO (k := i) rfl rfl Tryz.runUnderlying61 Tryz.sizeOf22 rfl (by omega)) ?_
    refine .load (i := 7) hs rfl (by kernel_rfl) .none rfl Tryz.isAgg22 ?_ (hv := by rw [List.getElem?_append_right (by omega), husl, Nat.sub_self]; rfl)
    refine .z 8 rfl zm ?_; refine .z 9 rfl zm ?_; refine .z 10 rfl zmul ?_
    refine .e1 (i := 11) (by kernel_rfl) rfl rfl .none hs ?_
    refine .buildSlice (cells := [_]) hs bls_sl_int_1 rfl rfl ?_; intro b40 w hs
    refine .go ?_
    refine .e1 (i := 12) (by kernel_rfl) rfl rfl .none hs ?_
    refine .append (ys := Is [gi X i * gi Y k]) hs app_sl_int_int rfl rfl h2 (.own .here rfl rfl) (Is_cell _) (fun l' h => by simp at h; omega) ?_; intro v41 en41 w hO hs
    rw [show Is ((rowP X Y i).take k) ++ Is [gi X i * gi Y k] = Is ((rowP X Y i).take (k + 1)) by rw [rowP_take hkm]; simp [Is]] at hO
    obtain ⟨a41, l41, c41, rfl, hl41⟩ := hO.shape
    refine .go ?_
    refine .p (i := 13) rfl (by kernel_rfl) .none (q_ixO (k := i) rfl rfl Tryz.runUnderlying61 Tryz.sizeOf22 rfl (by omega)) ?_
    refine .e1 (i := 14) (by kernel_rfl) rfl rfl .none hs ?_
    refine .store (c' := us ++ .slice a41 l41 c41 :: List.replicate (X.length - i - 1) (.slice none 0 0)) hs rfl rfl Tryz.sizeOf22 ?_ (by repeat constructor) (by simp; omega) (by rw [List.set_append_right _ _ (by omega), husl, Nat.sub_self]; rfl); intro w hs
    refine .go ?_
    refine .done (by kernel_rfl) hs ?_
    refine nB ?_
    rcases hnext with ⟨g1, g2, g3⟩ | ⟨g1, g2, g3⟩
    · exact ⟨H4, [.blk b7 [.slice (some ⟨b18, 0, none⟩) l1.length l1.length], .blk b18 (us ++ .slice a41 l41 c41 :: List.replicate (X.length - i - 1) (.slice none 0 0)), en41], HLe.refl _, (hs.sub (by repeat (first | exact Sub.refl _ | constructor | apply Sub.weaken)) : St H4 w (.blk b7 _ :: .blk b18 _ :: en41 :: σf4)), _, rfl, by rw [g2, g3]; exact .go us _ en41 h h1 hO rfl⟩
    · obtain ⟨H5, hle5, hR, hs⟩ := OwnS.publishI hO (by rw [List.length_take, rowP_length]; omega) hs (by repeat constructor)
      rw [List.take_of_length_le (by rw [rowP_length]; omega)] at hR
      have h1' : RLs H5 (us ++ [.slice a41 l41 c41]) (gridP X Y (i + 1)) := by rw [gridP_succ]; exact (h1.mono hle5).snoc hR
      by_cases e : i + 1 < X.length
      · refine ⟨H5, [.blk b7 [.slice (some ⟨b18, 0, none⟩) l1.length l1.length], .blk b18 (us ++ .slice a41 l41 c41 :: List.replicate (X.length - i - 1) (.slice none 0 0)), .nul], hle5, (hs.nul.sub (by repeat (first | exact Sub.refl _ | constructor | apply Sub.weaken)) : St H5 w (.blk b7 _ :: .blk b18 _ :: .nul :: σf4)), _, rfl, ?_⟩
        rw [g2, g3]
        refine .go (us ++ [.slice a41 l41 c41]) (.slice none 0 0) .nul e h1' (.nil 1 none) ?_
        obtain ⟨m, hm⟩ : ∃ m, X.length - i - 1 = m + 1 := ⟨X.length - i - 2, by omega⟩
        rw [hm, show X.length - (i + 1) - 1 = m by omega, List.append_assoc]
        rfl
      · refine ⟨H5, [.blk b7 [.slice (some ⟨b18, 0, none⟩) l1.length l1.length], .blk b18 (us ++ .slice a41 l41 c41 :: List.replicate (X.length - i - 1) (.slice none 0 0))], hle5, (hs.sub (by repeat (first | exact Sub.refl _ | constructor | apply Sub.weaken)) : St H5 w (.blk b7 _ :: .blk b18 _ :: σf4)), _, rfl, ?_⟩
        rw [g2, g3]
        refine .fin (us ++ [.slice a41 l41 c41]) (by omega) h1' ?_
        rw [show X.length - i - 1 = 0 by omega]
        rfl
  · rintro D H4 σb2 w hle4 ⟨σ1, rfl, hG⟩ hs
    rw [Nat.mul_div_cancel _ (by omega), Nat.mul_mod_left] at hG
    cases hG with
    | go us v en h => omega
    | fin us h h1 h3 =>
    subst h3
    replace hs : St H4 w (.obj D (.deferred (some [])) :: .blk b7 [.slice (some ⟨b18, 0, none⟩) l1.length l1.length] :: .blk b18 us :: σ) := hs
    have husl : us.length = l1.length := by rw [h1.1, gridP_length, hXl]
    refine nB (nT ?_)
    refine .regSeq (.y hs (zld Tryz.isAgg61) (.z zg (.nil ?_)))
    refine .ret ?_
    obtain ⟨H5, hle5, hR, hs⟩ := h1.publish (v := .slice (some ⟨b18, 0, none⟩) l1.length l1.length) (en := .blk b18 us) (.full (by simp [husl])) (by omega) hs (by repeat constructor)
    rw [hXl] at hR
    exact Fin.retD [D] [] hs fun w hs => ⟨_, results1 Tryz.results192 rfl, H5, hle03.trans (hle4.trans hle5), hR, hs.out⟩
theorem weigh_Grid_spec {H : Heap} {w : World} {σ : List Ent} {v1 v2 : Value} {l1 l2 : List Int} (hs : St H w σ) (hr1 : RI H v1 l1) (hr2 : RI H v2 l2) :
    Cl Tryz.prog 104 [v1, v2] w fun u w' => ∃ H1 vo e, HLe H H1 ∧ u = .tuple #[vo, I e] ∧ (PlcOk 9 100000 l1 ∧ PlcOk 7 15000 l2 → e = 0 ∧ RT H1 vo (gridP (wts l1) (wts l2) l1.length)) ∧ (e = 0 → PlcOk 9 100000 l1 ∧ PlcOk 7 15000 l2) ∧ St H1 w' σ := by
  refine Cl.of Tryz.func104 rfl Tryz.ntmps104 (by simp) (args_cons (k := 0) rfl (args_cons (k := 1) rfl (args0))) ?_
  refine .regSeq (.z zg (.z zg (.nil (.seq (.regSeq (.z zm (.z zm ?_)))))))
  refine .o (.call Tryz.call191 rfl (weigh_isGrid_spec hs hr1 hr2) ?_); rintro _ w ⟨b8, rfl, hb8, hs⟩
  refine .z znot (.nil ?_)
  refine (.cond rfl (fun hc9 => ?_) (fun hc9 => ?_))
  · refine .regSeq (.z zg (.z zg (.nil ?_)))
    refine .ret (rT (Fin.ret2 Tryz.results104 rfl rfl ?_))
    exact ⟨H, _, _, HLe.refl H, rfl, fun h => (by rw [hb8.2 h] at hc9; cases hc9), fun h => (by omega), hs⟩
  · refine .skip ?_
    refine nT ?_
    refine .regSeq (.z zm (.z zm ?_))
    have hp := hb8.1 (by simpa using hc9)
    refine .o (.call Tryz.call192 rfl (weigh_grid_spec hs hr1 hr2 hp.1 hp.2) ?_); rintro v12 w ⟨H1, hle1, hR, hs⟩
    refine .z zg (.z zg (.nil ?_))
    refine .ret (Fin.ret2 Tryz.results104 rfl rfl ?_)
    exact ⟨H1, _, _, hle1, rfl, fun _ => ⟨rfl, hR⟩, fun _ => hp, hs⟩
end Go.Proofs.YtddaejgfjlneoaaGreat

namespace Go.Proofs.YtddaejgfjlneoaaGreat
open Go.MW
theorem plc_of {many : Nat} {most : Int} {l : List Int} (h2 : 2 ≤ l.length) (hm : l.length ≤ many) (h : ∀ j < l.length, 0 ≤ gi l j ∧ gi l j ≤ most ∧ (0 < j → gi l (j - 1) < gi l j)) : PlcOk many most l :=
  ⟨h2, hm, (h 0 (by omega)).1, (h (l.length - 1) (by omega)).2.1, fun i hi => by have := (h (i + 1) hi).2.2 (by omega); rwa [Nat.add_sub_cancel] at this⟩
theorem PlcOk_each {many : Nat} {most : Int} {l : List Int} (h : PlcOk many most l) {j : Nat} (hj : j < l.length) : 0 ≤ gi l j ∧ gi l j ≤ most ∧ (0 < j → gi l (j - 1) < gi l j) :=
  ⟨(h.bd hj).1, (h.bd hj).2, fun h0 => by have := h.rise (j - 1) (by omega); rwa [Nat.sub_add_cancel h0] at this⟩
theorem ref01_rising_spec {H : Heap} {w : World} {σ : List Ent} {v : Value} {l : List Int} {many : Nat} {most : Int} (hs : St H w σ) (hr : RI H v l) (hmany : many ≤ 1000) :
    Cl Tryz.prog 168 [v, I many, I most] w fun u w' => ∃ b : Bool, u = .bool b ∧ (b = true ↔ PlcOk many most l) ∧ St H w' σ := by
  obtain ⟨a, c, rfl⟩ := RI.shape hr
  have hlen := (RI.len hr).2.2
  refine Cl.of Tryz.func168 rfl Tryz.ntmps168 (by simp) (args_cons (k := 0) rfl (args_cons (k := 1) rfl (args_cons (k := 2) rfl (args0)))) ?_
  refine .regSeq (.z zg (.nil (.seq (.regSeq (.z zm (.z (zlen Tryz.runUnderlying22) (.z zlss (.z zm ?_))))))))
  refine .bifD (t' := 11) rfl (fun hb11 => ?_) (fun hb11 => ?_)
  · refine .gFs 4 3 false rfl rfl rfl ?_
    refine .z zpT (.nil ?_)
    refine (.condT rfl rfl ?_)
    refine .regSeq (.z zg (.nil ?_))
    refine .ret (rT (Fin.ret1 Tryz.results168 rfl ?_))
    exact ⟨false, rfl, ⟨fun h => (by cases h), fun h => by have := h.two; omega⟩, hs⟩
  · refine .gT rfl rfl ?_
    refine .z zm ?_
    refine .gT rfl rfl ?_
    refine .z (zlen Tryz.runUnderlying22) ?_
    refine .gT rfl rfl ?_
    refine .z zm ?_
    refine .gT rfl rfl ?_
    refine .z zgtr (.z zpF (.nil ?_))
    refine (.condD rfl (fun hc16 => ?_) (fun hc16 => ?_))
    · refine .regSeq (.z zg (.nil ?_))
      refine .ret (rT (Fin.ret1 Tryz.results168 rfl ?_))
      exact ⟨false, rfl, ⟨fun h => (by cases h), fun h => by have := h.many; omega⟩, hs⟩
    · refine .skip ?_
      refine nT ?_
      refine .seq (.regSeq (.z zg (.nil (.block ?_))))
      refine .loop (fun k : Nat => ⟨52, [], [(7, I (k : Int)), (0, .slice a l.length c), (1, I (many : Int)), (2, I most)]⟩)
        (fun k w => k ≤ l.length ∧ (∀ j < k, 0 ≤ gi l j ∧ gi l j ≤ most ∧ (0 < j → gi l (j - 1) < gi l j)) ∧ St H w σ) (fun k => l.length - k) 0 (.consI rfl (by simp) (by repeat (first | exact .nil rfl rfl | refine .cons rfl ?_)))
        ⟨Nat.zero_le _, fun j hj => by omega, hs⟩ ?_
      rintro k w ⟨hk, hno, hs⟩
      refine .seq (.regSeq (.z zm (.z zm (.z (zlen Tryz.runUnderlying22) (.z zlss (.nil ?_))))))
      refine (.condD rfl (fun hc20 => ?_) (fun hc20 => ?_))
      · refine .skip ?_
        refine nT ?_
        refine .seq (.block ?_)
        refine .seq (.draw mix rfl hs ?_); intro w hs
        refine .z 0 rfl zm ?_; refine .z 1 rfl zm ?_
        refine .ixX (enc := fun x => [I x]) (i := 2) hs rfl (by kernel_rfl) .none hr rfl rfl Tryz.runUnderlying22 Tryz.sizeOf3 (gi_get (l := l) (i := k) (by omega)) (by first | rfl | assumption | omega) ?_; intro b25 o25 hc25; replace hc25 := CellsAt.one hc25
        refine .r (i := 3) hs rfl (by kernel_rfl) .none (q_loadR rfl Tryz.isAgg3 hc25) ?_
        refine .z 4 rfl zlss ?_; refine .z 5 rfl zm ?_
        refine .bifD (t' := 28) rfl (fun hb28 => ?_) (fun hb28 => ?_)
        · refine .qF (i := 6) rfl (by kernel_rfl) rfl rfl ?_
          refine .qF (i := 7) rfl (by kernel_rfl) rfl rfl ?_
          refine .qF (i := 8) rfl (by kernel_rfl) rfl rfl ?_
          refine .qF (i := 9) rfl (by kernel_rfl) rfl rfl ?_
          refine .qF (i := 10) rfl (by kernel_rfl) rfl rfl ?_
          refine .qF (i := 11) rfl (by kernel_rfl) rfl rfl ?_
          refine .z 12 rfl zpT ?_; refine .z 13 rfl zm ?_
          refine .qF (i := 14) rfl (by kernel_rfl) rfl rfl ?_
          refine .qF (i := 15) rfl (by kernel_rfl) rfl rfl ?_
          refine .qF (i := 16) rfl (by kernel_rfl) rfl rfl ?_
          refine .qF (i := 17) rfl (by kernel_rfl) rfl rfl ?_
          refine .qF (i := 18) rfl (by kernel_rfl) rfl rfl ?_
          refine .qF (i := 19) rfl (by kernel_rfl) rfl rfl ?_
          refine .qF (i := 20) rfl (by kernel_rfl) rfl rfl ?_
          refine .qF (i := 21) rfl (by kernel_rfl) rfl rfl ?_
          refine .qF (i := 22) rfl (by kernel_rfl) rfl rfl ?_
          refine .qF (i := 23) rfl (by kernel_rfl) rfl rfl ?_
          refine .qF (i := 24) rfl (by kernel_rfl) rfl rfl ?_
          refine .qF (i := 25) rfl (by kernel_rfl) rfl rfl ?_
          refine .qF (i := 26) rfl (by kernel_rfl) rfl rfl ?_
          refine .qF (i := 27) rfl (by kernel_rfl) rfl rfl ?_
          refine .z 28 rfl zpT ?_; refine .done (by kernel_rfl) hs ?_
          refine (.condT rfl rfl ?_)
          refine .regSeq (.z zg (.nil ?_))
          refine .ret (rB (rT (rT (rB (rT (Fin.ret1 Tryz.results168 rfl ?_))))))
          exact ⟨false, rfl, ⟨fun h => (by cases h), fun h => by have := PlcOk_each h (j := k) (by omega); omega⟩, hs⟩
        · refine .z 6 rfl zm ?_; refine .z 7 rfl zm ?_
          refine .ixX (enc := fun x => [I x]) (i := 8) hs rfl (by kernel_rfl) (.some rfl rfl) hr rfl rfl Tryz.runUnderlying22 Tryz.sizeOf3 (gi_get (l := l) (i := k) (by omega)) (by first | rfl | assumption | omega) ?_; intro b31 o31 hc31; replace hc31 := CellsAt.one hc31
          refine .r (i := 9) hs rfl (by kernel_rfl) (.some rfl rfl) (q_loadR rfl Tryz.isAgg3 hc31) ?_
          refine .z 10 rfl zm ?_; refine .z 11 rfl zgtr ?_; refine .z 12 rfl zpF ?_; refine .z 13 rfl zm ?_
          refine .bifD (t' := 36) rfl (fun hb36 => ?_) (fun hb36 => ?_)
          · refine .qF (i := 14) rfl (by kernel_rfl) rfl rfl ?_
            refine .qF (i := 15) rfl (by kernel_rfl) rfl rfl ?_
            refine .qF (i := 16) rfl (by kernel_rfl) rfl rfl ?_
            refine .qF (i := 17) rfl (by kernel_rfl) rfl rfl ?_
            refine .qF (i := 18) rfl (by kernel_rfl) rfl rfl ?_
            refine .qF (i := 19) rfl (by kernel_rfl) rfl rfl ?_
            refine .qF (i := 20) rfl (by kernel_rfl) rfl rfl ?_
            refine .qF (i := 21) rfl (by kernel_rfl) rfl rfl ?_
            refine .qF (i := 22) rfl (by kernel_rfl) rfl rfl ?_
            refine .qF (i := 23) rfl (by kernel_rfl) rfl rfl ?_
            refine .qF (i := 24) rfl (by kernel_rfl) rfl rfl ?_
            refine .qF (i := 25) rfl (by kernel_rfl) rfl rfl ?_
            refine .qF (i := 26) rfl (by kernel_rfl) rfl rfl ?_
            refine .qF (i := 27) rfl (by kernel_rfl) rfl rfl ?_
            refine .z 28 rfl zpT ?_; refine .done (by kernel_rfl) hs ?_
            refine (.condT rfl rfl ?_)
            refine .regSeq (.z zg (.nil ?_))
            refine .ret (rB (rT (rT (rB (rT (Fin.ret1 Tryz.results168 rfl ?_))))))
            exact ⟨false, rfl, ⟨fun h => (by cases h), fun h => by have := PlcOk_each h (j := k) (by omega); omega⟩, hs⟩
          · refine .z 14 rfl zm ?_; refine .z 15 rfl zgtr ?_; refine .z 16 rfl zm ?_
            refine .bifD (t' := 39) rfl (fun hb39 => ?_) (fun hb39 => ?_)
            · refine .z 17 rfl zm ?_; refine .z 18 rfl zm ?_; refine .z 19 rfl zsub ?_
              refine .ixX (enc := fun x => [I x]) (i := 20) hs rfl (by kernel_rfl) (.some rfl rfl) hr rfl rfl Tryz.runUnderlying22 Tryz.sizeOf3 (gi_get (l := l) (i := (k-1)) (by omega)) (by first | rfl | assumption | omega) ?_; intro b43 o43 hc43; replace hc43 := CellsAt.one hc43
              refine .r (i := 21) hs rfl (by kernel_rfl) (.some rfl rfl) (q_loadR rfl Tryz.isAgg3 hc43) ?_
              refine .z 22 rfl zm ?_; refine .z 23 rfl zm ?_
              refine .ixX (enc := fun x => [I x]) (i := 24) hs rfl (by kernel_rfl) (.some rfl rfl) hr rfl rfl Tryz.runUnderlying22 Tryz.sizeOf3 (gi_get (l := l) (i := k) (by omega)) (by first | rfl | assumption | omega) ?_; intro b47 o47 hc47; replace hc47 := CellsAt.one hc47
              refine .r (i := 25) hs rfl (by kernel_rfl) (.some rfl rfl) (q_loadR rfl Tryz.isAgg3 hc47) ?_
              refine .z 26 rfl zgeq ?_; refine .z 27 rfl zpT ?_; refine .z 28 rfl zpF ?_; refine .done (by kernel_rfl) hs ?_
              refine (.condD rfl (fun hc51 => ?_) (fun hc51 => ?_))
              · refine .regSeq (.z zg (.nil ?_))
                refine .ret (rB (rT (rT (rB (rT (Fin.ret1 Tryz.results168 rfl ?_))))))
                exact ⟨false, rfl, ⟨fun h => (by cases h), fun h => by have := PlcOk_each h (j := k) (by omega); omega⟩, hs⟩
              · refine .skip ?_
                refine nB (nT ?_)
                refine .region (.z zm (.z zadd (.z zg (.nil ?_))))
                refine nT ?_
                exact ⟨k + 1, .consI rfl (by simp) (by repeat (first | exact .nil rfl rfl | refine .cons rfl ?_)), ⟨by omega, fun j hj => by
                  by_cases e : j = k
                  · subst e; exact ⟨by omega, by omega, fun _ => by omega⟩
                  · exact hno j (by omega), hs⟩, by omega⟩
            · refine .qF (i := 17) rfl (by kernel_rfl) rfl rfl ?_
              refine .qF (i := 18) rfl (by kernel_rfl) rfl rfl ?_
              refine .qF (i := 19) rfl (by kernel_rfl) rfl rfl ?_
              refine .qF (i := 20) rfl (by kernel_rfl) rfl rfl ?_
              refine .qF (i := 21) rfl (by kernel_rfl) rfl rfl ?_
              refine .qF (i := 22) rfl (by kernel_rfl) rfl rfl ?_
              refine .qF (i := 23) rfl (by kernel_rfl) rfl rfl ?_
              refine .qF (i := 24) rfl (by kernel_rfl) rfl rfl ?_
              refine .qF (i := 25) rfl (by kernel_rfl) rfl rfl ?_
              refine .qF (i := 26) rfl (by kernel_rfl) rfl rfl ?_
              refine .z 27 rfl zpF ?_; refine .z 28 rfl zpF ?_; refine .done (by kernel_rfl) hs ?_
              refine (.condF rfl rfl ?_)
              refine .skip ?_
              refine nB (nT ?_)
              refine .region (.z zm (.z zadd (.z zg (.nil ?_))))
              refine nT ?_
              exact ⟨k + 1, .consI rfl (by simp) (by repeat (first | exact .nil rfl rfl | refine .cons rfl ?_)), ⟨by omega, fun j hj => by
                by_cases e : j = k
                · subst e; exact ⟨by omega, by omega, fun _ => by omega⟩
                · exact hno j (by omega), hs⟩, by omega⟩
      · refine .exit ?_
        refine xT (xT (xB (nT ?_)))
        refine .regSeq (.z zg (.nil ?_))
        refine .ret (Fin.ret1 Tryz.results168 rfl ?_)
        exact ⟨true, rfl, ⟨fun _ => plc_of (by omega) (by omega) fun j hj => hno j (by omega), fun _ => rfl⟩, hs⟩
theorem ref01_CheckPlaces_spec {H : Heap} {w : World} {σ : List Ent} {v : Value} {l : List Int} (hs : St H w σ) (hr : RI H v l) :
    Cl Tryz.prog 84 [v] w fun u w' => ∃ e, u = I e ∧ ((PlcOk 9 100000 l ∧ e = 0) ∨ (¬ PlcOk 9 100000 l ∧ e ≠ 0)) ∧ St H w' σ := by
  refine Cl.of Tryz.func84 rfl Tryz.ntmps84 (by simp) (args_cons (k := 0) rfl (args0)) ?_
  refine .regSeq (.z zg (.nil (.seq (.regSeq (.z zm ?_)))))
  refine .o (.call Tryz.call168 rfl (ref01_rising_spec (many := 9) (most := 100000) hs hr (by omega)) ?_); rintro _ w ⟨b4, rfl, hb4, hs⟩
  refine .z znot (.nil ?_)
  refine (.cond rfl (fun hc5 => ?_) (fun hc5 => ?_))
  · refine .regSeq (.z zg (.nil ?_))
    refine .ret (rT (Fin.ret1 Tryz.results84 rfl ?_))
    exact ⟨_, rfl, .inr ⟨fun h => by simp [hb4.2 h] at hc5, by decide⟩, hs⟩
  · refine .skip ?_
    refine nT ?_
    refine .regSeq (.z zg (.nil ?_))
    refine .ret (Fin.ret1 Tryz.results84 rfl ?_)
    exact ⟨_, rfl, .inl ⟨hb4.1 (by simpa using hc5), rfl⟩, hs⟩
theorem tms_at {a b k : Int} (hk : 1 ≤ k ∧ k ≤ 3) (h : a * k = b ∨ b * k = a) (hno : ∀ j : Int, 1 ≤ j → j < k → ¬ (a * j = b ∨ b * j = a)) : tms a b = k := by
  have h3 : k = 1 ∨ k = 2 ∨ k = 3 := by omega
  unfold tms
  rcases h3 with rfl | rfl | rfl
  · rw [if_pos (by omega)]
  · have := hno 1 (by omega) (by omega)
    rw [if_neg (by omega), if_pos h]
  · have := hno 1 (by omega) (by omega)
    have := hno 2 (by omega) (by omega)
    rw [if_neg (by omega), if_neg this, if_pos h]
theorem tms_no {a b : Int} (hno : ∀ j : Int, 1 ≤ j → j < 4 → ¬ (a * j = b ∨ b * j = a)) : tms a b = 0 := by
  have := hno 1 (by omega) (by omega)
  have h2 := hno 2 (by omega) (by omega)
  have h3 := hno 3 (by omega) (by omega)
  unfold tms
  rw [if_neg (by omega), if_neg h2, if_neg h3]
theorem ref01_times_spec {H : Heap} {w : World} {σ : List Ent} {a b : Int} (hs : St H w σ) (ha : 0 ≤ a ∧ a ≤ 100000) (hb : 0 ≤ b ∧ b ≤ 100000) :
    Cl Tryz.prog 281 [I a, I b] w fun u w' => u = I (tms a b) ∧ St H w' σ := by
  refine Cl.of Tryz.func281 rfl Tryz.ntmps281 (by simp) (args_cons (k := 0) rfl (args_cons (k := 1) rfl (args0))) ?_
  refine .regSeq (.z zg (.nil (.seq (.regSeq (.z zg (.nil (.block ?_)))))))
  refine .loop (fun k : Nat => ⟨23, [], [(5, I (k : Int)), (0, I a), (1, I b)]⟩)
    (fun k w => 1 ≤ k ∧ k ≤ 4 ∧ (∀ j : Int, 1 ≤ j → j < k → ¬ (a * j = b ∨ b * j = a)) ∧ St H w σ) (fun k => 4 - k) 1 (.consI rfl (by simp) (by repeat (first | exact .nil rfl rfl | refine .cons rfl ?_)))
    ⟨by omega, by omega, fun j h1 h2 => by omega, hs⟩ ?_
  rintro k w ⟨hk1, hk4, hno, hs⟩
  have hba := mul_bd (a := a) (b := (k : Int)) (A := 100000) (B := 4) (by omega) (by omega)
  have hbb := mul_bd (a := b) (b := (k : Int)) (A := 100000) (B := 4) (by omega) (by omega)
  refine .seq (.regSeq (.z zm (.z zleq (.nil ?_))))
  refine (.condD rfl (fun hc7 => ?_) (fun hc7 => ?_))
  · refine .skip ?_
    refine nT ?_
    refine .seq (.block (.regSeq (.z zm (.z zm (.z zmul (.z zm (.z zeql (.z zm ?_))))))))
    refine .bifD (t' := 15) rfl (fun hb15 => ?_) (fun hb15 => ?_)
    · refine .gFs 5 5 false rfl rfl rfl ?_
      refine .z zpT (.nil ?_)
      refine (.condT rfl rfl ?_)
      refine .regSeq (.z zm (.z zg (.nil ?_)))
      refine .ret (rB (rT (rT (rB (rT (Fin.ret1 Tryz.results281 rfl ?_))))))
      exact ⟨by rw [tms_at ⟨by omega, by omega⟩ (.inl hb15) hno], hs⟩
    · refine .gT rfl rfl ?_
      refine .z zm ?_
      refine .gT rfl rfl ?_
      refine .z zm ?_
      refine .gT rfl rfl ?_
      refine .z zmul ?_
      refine .gT rfl rfl ?_
      refine .z zm ?_
      refine .gT rfl rfl ?_
      refine .z zeql (.z zpF (.nil ?_))
      refine (.condD rfl (fun hc21 => ?_) (fun hc21 => ?_))
      · refine .regSeq (.z zm (.z zg (.nil ?_)))
        refine .ret (rB (rT (rT (rB (rT (Fin.ret1 Tryz.results281 rfl ?_))))))
        exact ⟨by rw [tms_at ⟨by omega, by omega⟩ (.inr hc21) hno], hs⟩
      · refine .skip ?_
        refine nB (nT ?_)
        refine .region (.z zm (.z zadd (.z zg (.nil ?_))))
        refine nT ?_
        exact ⟨k + 1, .consI rfl (by simp) (by repeat (first | exact .nil rfl rfl | refine .cons rfl ?_)), ⟨by omega, by omega, fun j h1 h2 => by
          by_cases e : j = (k : Int)
          · subst e; omega
          · exact hno j h1 (by omega), hs⟩, by omega⟩
  · refine .exit ?_
    refine xT (xT (xB (nT ?_)))
    refine .regSeq (.z zg (.nil ?_))
    refine .ret (Fin.ret1 Tryz.results281 rfl ?_)
    obtain rfl : k = 4 := by omega
    exact ⟨by rw [tms_no hno], hs⟩
def Grp.c (g : Grp) : List Value := [I (g.at_ : Int), I (g.n : Int)]
def Grps (l : List Grp) : List Value := (l.map Grp.c).flatten
theorem Grps_append (a b : List Grp) : Grps (a ++ b) = Grps a ++ Grps b := by simp [Grps]
theorem Grps_length : ∀ l : List Grp, (Grps l).length = l.length * 2
  | [] => rfl
  | g :: l => by have := Grps_length l; simp only [Grps, List.map_cons, List.flatten_cons, List.length_append, List.length_cons] at this ⊢; rw [this]; simp [Grp.c]; omega
set_option maxHeartbeats 1000000 in
theorem ref01_groups_spec {H : Heap} {w : World} {σ : List Ent} {v : Value} {l : List Int} (hs : St H w σ) (hr : RI H v l) (hp : PlcOk 9 100000 l) :
    Cl Tryz.prog 280 [v] w fun u w' => ∃ H1, HLe H H1 ∧ RS H1 2 u ((grps l).map Grp.c) ∧ St H1 w' σ := by
  obtain ⟨a, c, rfl⟩ := RI.shape hr
  have hlen := hp.many
  have hgl : (grps l).length ≤ 9 := by have := grpsF_length l l.length 0; unfold grps; omega
  refine Cl.of Tryz.func280 rfl Tryz.ntmps280 (by simp) (args_cons (k := 0) rfl (args0)) ?_
  refine .regSeq (.z zg (.nil (.regSeq (.z zg (.nil (.regSeq (.z zg (.nil (.seq ?_)))))))))
  refine .block ?_
  refine .loop (fun p : Nat × Value => ⟨51, [], [(4, I (p.1 : Int)), (3, p.2), (0, .slice a l.length c)]⟩)
    (fun p w => p.1 ≤ l.length ∧ ∃ j en, j ≤ (grps l).length ∧ (grps l).drop j = grpsAt l p.1 ∧ OwnS 2 p.2 (Grps ((grps l).take j)) en ∧ St H w (en :: σ)) (fun p => l.length - p.1) (0, .slice none 0 0) (by repeat (first | exact .nil rfl rfl | refine .cons rfl ?_))
    ⟨Nat.zero_le _, 0, _, Nat.zero_le _, rfl, .nil 2 none, hs.nul⟩ ?_
  rintro ⟨i, vo⟩ w ⟨hil, j, en, hj, hd, hO, hs⟩
  dsimp only at hil hd hO ⊢
  have htl := List.length_take_le j (grps l)
  refine .seq (.regSeq (.z zm (.z zadd (.z zm (.z (zlen Tryz.runUnderlying22) (.z zlss (.nil ?_)))))))
  refine (.condD rfl (fun hc10 => ?_) (fun hc10 => ?_))
  · refine .skip ?_
    refine nT ?_
    refine .block (.regSeq (.z zg (.nil ?_)))
    refine .cut (fun fs w => FSub fs ⟨51, [], [(5, I (((if twoAt l i then 2 else 1 : Nat)) : Int)), (4, I (i : Int)), (3, vo), (0, .slice a l.length c)]⟩ ∧ St H w (en :: σ)) ?_ ?_
    · refine .seq (.draw mix rfl hs ?_); intro w hs
      refine .z 0 rfl zm ?_; refine .z 1 rfl zadd ?_; refine .z 2 rfl zm ?_; refine .z 3 rfl (zlen Tryz.runUnderlying22) ?_; refine .z 4 rfl zlss ?_; refine .z 5 rfl zm ?_
      refine .bifD (t' := 16) rfl (fun hb16 => ?_) (fun hb16 => ?_)
      · refine .z 6 rfl zm ?_; refine .z 7 rfl zm ?_; refine .z 8 rfl zadd ?_
        have r1 := hp.rise i (by omega)
        have r2 : gi l (i + 1) < gi l (i + 2) := hp.rise (i + 1) (by omega)
        have q1 := hp.bd (i := i) (by omega)
        have q2 := hp.bd (i := i + 2) (by omega)
        refine .ixX (enc := fun x => [I x]) (i := 9) hs rfl (by kernel_rfl) (.some rfl rfl) hr rfl rfl Tryz.runUnderlying22 Tryz.sizeOf3 (gi_get (l := l) (i := (i+1)) (by omega)) (by first | rfl | assumption | omega) ?_; intro b20 o20 hc20; replace hc20 := CellsAt.one hc20
        refine .r (i := 10) hs rfl (by kernel_rfl) (.some rfl rfl) (q_loadR rfl Tryz.isAgg3 hc20) ?_
        refine .z 11 rfl zm ?_; refine .z 12 rfl zm ?_
        refine .ixX (enc := fun x => [I x]) (i := 13) hs rfl (by kernel_rfl) (.some rfl rfl) hr rfl rfl Tryz.runUnderlying22 Tryz.sizeOf3 (gi_get (l := l) (i := i) (by omega)) (by first | rfl | assumption | omega) ?_; intro b24 o24 hc24; replace hc24 := CellsAt.one hc24
        refine .r (i := 14) hs rfl (by kernel_rfl) (.some rfl rfl) (q_loadR rfl Tryz.isAgg3 hc24) ?_
        refine .z 15 rfl zsub ?_; refine .z 16 rfl zm ?_; refine .z 17 rfl zm ?_; refine .z 18 rfl zadd ?_
        refine .ixX (enc := fun x => [I x]) (i := 19) hs rfl (by kernel_rfl) (.some rfl rfl) hr rfl rfl Tryz.runUnderlying22 Tryz.sizeOf3 (gi_get (l := l) (i := (i+2)) (by omega)) (by first | rfl | assumption | omega) ?_; intro b30 o30 hc30; replace hc30 := CellsAt.one hc30
        refine .r (i := 20) hs rfl (by kernel_rfl) (.some rfl rfl) (q_loadR rfl Tryz.isAgg3 hc30) ?_
        refine .z 21 rfl zm ?_; refine .z 22 rfl zm ?_; refine .z 23 rfl zadd ?_
        refine .ixX (enc := fun x => [I x]) (i := 24) hs rfl (by kernel_rfl) (.some rfl rfl) hr rfl rfl Tryz.runUnderlying22 Tryz.sizeOf3 (gi_get (l := l) (i := (i+1)) (by omega)) (by first | rfl | assumption | omega) ?_; intro b35 o35 hc35; replace hc35 := CellsAt.one hc35
        refine .r (i := 25) hs rfl (by kernel_rfl) (.some rfl rfl) (q_loadR rfl Tryz.isAgg3 hc35) ?_
        refine .z 26 rfl zsub ?_
        refine .e1 (i := 27) (by kernel_rfl) rfl rfl (.some rfl rfl) hs ?_
        refine .call Tryz.call281 rfl (ref01_times_spec hs (by omega) (by omega)) ?_; rintro _ w ⟨rfl, hs⟩
        refine .go ?_
        refine .z 28 rfl zgtr ?_; refine .z 29 rfl zpT ?_; refine .done (by kernel_rfl) hs ?_
        refine (.condD rfl (fun hc40 => ?_) (fun hc40 => ?_))
        · refine .region (.z zg (.nil ?_))
          refine nT ?_
          have e : twoAt l i = true := by simp [twoAt]; omega
          rw [e]; exact ⟨by repeat (first | exact .nil rfl rfl | refine .cons rfl ?_), hs⟩
        · refine .skip ?_
          refine nT ?_
          have e : twoAt l i = false := by simp [twoAt]; omega
          rw [e]; exact ⟨by repeat (first | exact .nil rfl rfl | refine .cons rfl ?_), hs⟩
      · refine .qF (i := 6) rfl (by kernel_rfl) rfl rfl ?_
        refine .qF (i := 7) rfl (by kernel_rfl) rfl rfl ?_
        refine .qF (i := 8) rfl (by kernel_rfl) rfl rfl ?_
        refine .qF (i := 9) rfl (by kernel_rfl) rfl rfl ?_
        refine .qF (i := 10) rfl (by kernel_rfl) rfl rfl ?_
        refine .qF (i := 11) rfl (by kernel_rfl) rfl rfl ?_
        refine .qF (i := 12) rfl (by kernel_rfl) rfl rfl ?_
        refine .qF (i := 13) rfl (by kernel_rfl) rfl rfl ?_
        refine .qF (i := 14) rfl (by kernel_rfl) rfl rfl ?_
        refine .qF (i := 15) rfl (by kernel_rfl) rfl rfl ?_
        refine .qF (i := 16) rfl (by kernel_rfl) rfl rfl ?_
        refine .qF (i := 17) rfl (by kernel_rfl) rfl rfl ?_
        refine .qF (i := 18) rfl (by kernel_rfl) rfl rfl ?_
        refine .qF (i := 19) rfl (by kernel_rfl) rfl rfl ?_
        refine .qF (i := 20) rfl (by kernel_rfl) rfl rfl ?_
        refine .qF (i := 21) rfl (by kernel_rfl) rfl rfl ?_
        refine .qF (i := 22) rfl (by kernel_rfl) rfl rfl ?_
        refine .qF (i := 23) rfl (by kernel_rfl) rfl rfl ?_
        refine .qF (i := 24) rfl (by kernel_rfl) rfl rfl ?_
        refine .qF (i := 25) rfl (by kernel_rfl) rfl rfl ?_
        refine .qF (i := 26) rfl (by kernel_rfl) rfl rfl ?_
        refine .qF (i := 27) rfl (by kernel_rfl) rfl rfl ?_
        refine .qF (i := 28) rfl (by kernel_rfl) rfl rfl ?_
        refine .z 29 rfl zpF ?_; refine .done (by kernel_rfl) hs ?_
        refine (.condF rfl rfl ?_)
        refine .skip ?_
        refine nT ?_
        have e : twoAt l i = false := by simp [twoAt]; omega
        rw [e]; exact ⟨by repeat (first | exact .nil rfl rfl | refine .cons rfl ?_), hs⟩
    · rintro fs w ⟨hfs, hs⟩
      refine WE.sub ?_ hfs
      have hgo := grpsAt_go (l := l) (i := i) (by omega)
      rw [hgo] at hd
      have hjl : j < (grps l).length := by
        have := congrArg List.length hd
        simp at this; omega
      have hgj : (grps l)[j]? = some ⟨i, twoAt l i⟩ := by
        rw [List.drop_eq_getElem_cons hjl] at hd
        rw [List.getElem?_eq_getElem hjl, (List.cons.inj hd).1]
      have hdj : (grps l).drop (j + 1) = grpsAt l (i + (if twoAt l i then 2 else 1)) := by
        rw [List.drop_eq_getElem_cons hjl] at hd
        exact (List.cons.inj hd).2
      have hn12 : (if twoAt l i then 2 else 1 : Nat) = 1 ∨ (if twoAt l i then 2 else 1 : Nat) = 2 := by split <;> simp
      have hgc : Grp.c ⟨i, twoAt l i⟩ = [I (i : Int), I (((if twoAt l i then 2 else 1 : Nat)) : Int)] := rfl
      generalize (if twoAt l i then 2 else 1 : Nat) = n at *
      refine .regSeq (.z zm (.z zm (.z zm (.z (zbd [_, _] bld_api_Group) ?_))))
      refine .o (.buildSlice (cells := [_, _]) hs bls_sl_api_Group_1 rfl rfl ?_); intro b45 w hs
      refine .o (.append (ys := [I (i : Int), I (n : Int)]) hs app_sl_api_Group_api_Group rfl rfl hO (.own .here rfl rfl) (by simp [Value.oneCell']) (fun l' h => by rw [Grps_length] at h; omega) ?_); intro v46 en46 w hO2 hs
      rw [← hgc, show Grp.c ⟨i, twoAt l i⟩ = Grps [⟨i, twoAt l i⟩] by simp [Grps], ← Grps_append, ← take_snoc hgj] at hO2
      refine .z zg (.nil (.region (.z zm (.z zm (.z zadd (.z zg (.nil ?_)))))))
      refine nB (nT ?_)
      exact ⟨(i + n, v46), .consI rfl (by simp) (by repeat (first | exact .nil rfl rfl | refine .cons rfl ?_)), ⟨by dsimp only; omega, j + 1, _, hjl, hdj, hO2, hs.sub (by repeat (first | exact Sub.refl _ | constructor | apply Sub.weaken))⟩, by dsimp only; omega⟩
  · refine .exit ?_
    refine xT (xT (xB (nT ?_)))
    refine .regSeq (.z zm (.z zg (.nil ?_)))
    refine .ret (Fin.ret1 Tryz.results280 rfl ?_)
    rw [grpsAt_end (by omega)] at hd
    have : (grps l).length ≤ j := by simpa using hd
    obtain rfl : j = (grps l).length := by omega
    rw [List.take_length] at hO
    obtain ⟨H1, g1, r1, hs⟩ := OwnS.publish (m := 2) (cs := (grps l).map Grp.c) hO (fun c hc => by simp only [List.mem_map] at hc; obtain ⟨x, _, rfl⟩ := hc; rfl) (by omega) (by rw [List.length_map]; omega) hs .here
    exact ⟨H1, g1, r1, hs⟩
end Go.Proofs.YtddaejgfjlneoaaGreat

namespace Go.Proofs.YtddaejgfjlneoaaGreat
open Go.MW
theorem gi_set_ne {l : List Int} {i j : Nat} (h : i ≠ j) (x : Int) : gi (l.set i x) j = gi l j := by
  simp [gi, List.getD, h]
set_option maxHeartbeats 1000000 in
theorem ref01_weights_spec {H : Heap} {w : World} {σ : List Ent} {v : Value} {l : List Int} (hs : St H w σ) (hr : RI H v l) (hp : PlcOk 9 100000 l) :
    Cl Tryz.prog 251 [v] w fun u w' => ∃ H1, HLe H H1 ∧ RI H1 u (wts l) ∧ St H1 w' σ := by
  obtain ⟨a, c, rfl⟩ := RI.shape hr
  have hln := hp.many
  have hgl : (grps l).length ≤ 9 := by have := grpsF_length l l.length 0; unfold grps; omega
  refine Cl.of Tryz.func251 rfl Tryz.ntmps251 (by simp) (args_cons (k := 0) rfl (args0)) ?_
  refine .regSeq (.z zg (.nil (.regSeq (.z zm (.z (zlen Tryz.runUnderlying22) ?_)))))
  refine .o (.makeI l.length hs rfl rfl Tryz.runUnderlying22 Tryz.typeInfo3 rfl Tryz.sizeOf3 Tryz.zeroValue3 (by omega) ?_); intro b16 w hs
  replace hs : St H w (.blk b16 (Is (wtsK l 0)) :: σ) := hs
  refine .z zg (.nil (.regSeq (.z zm ?_)))
  refine .o (.call Tryz.call280 rfl (ref01_groups_spec hs hr hp) ?_); rintro v18 w ⟨H1, hle1, hG, hs⟩
  have hrr := hr.mono hle1
  obtain ⟨ag, cg, rfl⟩ := RS.shape hG
  rw [List.length_map] at hG ⊢
  refine .z zg (.nil (.seq (.regSeq (.z zg (.nil (.block ?_))))))
  refine .loop (fun k : Nat => ⟨133, [], [(5, I (k : Int)), (4, .slice ag (grps l).length cg), (3, .slice (some ⟨b16, 0, none⟩) l.length l.length), (0, .slice a l.length c)]⟩)
    (fun k w => k ≤ (grps l).length ∧ St H1 w (.blk b16 (Is (wtsK l k)) :: σ)) (fun k => (grps l).length - k) 0 (.consI rfl (by simp) (by repeat (first | exact .nil rfl rfl | refine .cons rfl ?_)))
    ⟨Nat.zero_le _, hs⟩ ?_
  rintro k w ⟨hk, hs⟩
  refine .seq (.regSeq (.z zm (.z zm (.z (zlen Tryz.runUnderlying302) (.z zlss (.nil ?_))))))
  refine (.condD rfl (fun hc22 => ?_) (fun hc22 => ?_))
  · refine .skip ?_
    refine nT ?_
    refine .seq (.block (.regSeq (.z zm (.z zm ?_))))
    have hjl : k < (grps l).length := by omega
    obtain ⟨g, hg⟩ := nth hjl
    obtain ⟨i1, i2, i3, i4, i5⟩ := grp_facts hp (List.mem_of_getElem? hg)
    have hK := wtsK_succ hg
    have hKl := wtsK_length l k
    have hKz := wtsK_sizes hp k (by omega)
    have z0 := sizes_at (wtsK l k) (v := g.at_) (n := l.length) (by omega)
    have z1 := sizes_at (wtsK l k) (v := g.at_ + 1) (n := l.length) (by omega)
    have hq0 := hp.bd (i := g.at_) (by omega)
    have hq1 := hp.bd (i := g.at_ + 1) (by omega)
    have hgm : ((grps l).map Grp.c)[k]? = some (Grp.c g) := by rw [List.getElem?_map, hg]; rfl
    generalize wtsK l k = W at *
    have e1 : ∀ x, gi (W.set g.at_ x) (g.at_ + 1) = gi W (g.at_ + 1) := fun x => gi_set_ne (by omega) x
    generalize hA : gi l (g.at_ + 1) - gi l g.at_ = A at *
    refine .ixX (enc := Grp.c) hs hG rfl rfl Tryz.runUnderlying302 Tryz.sizeOf300 hg (by first | rfl | assumption | omega) ?_; intro b27 o27 hc27
    have d0 : cellAt H1 b27 o27 = some (I (g.at_ : Int)) := hc27 0 _ rfl
    have d1 : cellAt H1 b27 (o27 + 1) = some (I (g.n : Int)) := hc27 1 _ rfl
    refine .z (zfa fa_api_Group_0) (.y hs (zld Tryz.isAgg3) (.z zg (.nil ?_)))
    refine .seq (.draw mix rfl hs ?_); intro w hs
    refine .z 0 rfl zm ?_; refine .z 1 rfl zm ?_; refine .z 2 rfl zadd ?_
    refine .ixX (enc := fun x => [I x]) (i := 3) hs rfl (by kernel_rfl) .none hrr rfl rfl Tryz.runUnderlying22 Tryz.sizeOf3 (gi_get (l := l) (i := (g.at_+1)) (by omega)) (by first | rfl | assumption | omega) ?_; intro b33 o33 hc33; replace hc33 := CellsAt.one hc33
    refine .r (i := 4) hs rfl (by kernel_rfl) .none (q_loadR rfl Tryz.isAgg3 hc33) ?_
    refine .z 5 rfl zm ?_; refine .z 6 rfl zm ?_
    refine .ixX (enc := fun x => [I x]) (i := 7) hs rfl (by kernel_rfl) .none hrr rfl rfl Tryz.runUnderlying22 Tryz.sizeOf3 (gi_get (l := l) (i := g.at_) (by omega)) (by first | rfl | assumption | omega) ?_; intro b37 o37 hc37; replace hc37 := CellsAt.one hc37
    refine .r (i := 8) hs rfl (by kernel_rfl) .none (q_loadR rfl Tryz.isAgg3 hc37) ?_
    refine .z 9 rfl zsub ?_
    rw [hA]
    refine .z 10 rfl zg ?_; refine .done (by kernel_rfl) hs ?_
    refine .seq (.regSeq (.z zm (.z zm ?_)))
    refine .ixX (enc := Grp.c) hs hG rfl rfl Tryz.runUnderlying302 Tryz.sizeOf300 hg (by first | rfl | assumption | omega) ?_; intro b42 o42 hc42
    have d2 : cellAt H1 b42 (o42 + 1) = some (I (g.n : Int)) := hc42 1 _ rfl
    refine .z (zfa fa_api_Group_1) (.y hs (zld Tryz.isAgg3) (.z zeql (.nil ?_)))
    refine (.condD rfl (fun hc45 => ?_) (fun hc45 => ?_))
    · refine .regSeq (.z zm (.z zm ?_))
      refine .q hs (q_ixO (k := g.at_) rfl rfl Tryz.runUnderlying22 Tryz.sizeOf3 (by omega) (by omega)) ?_
      refine .y hs (zld Tryz.isAgg3) (.z zm (.z zmul (.z zadd ?_)))
      refine .q hs (q_ixO (k := g.at_) rfl rfl Tryz.runUnderlying22 Tryz.sizeOf3 (by omega) (by omega)) ?_
      refine .o (.store hs rfl rfl Tryz.sizeOf3 ?_); intro w hs
      refine .nil (.regSeq (.z zm (.z zm (.z zadd ?_))))
      refine .q hs (q_ixO (k := g.at_ + 1) rfl rfl Tryz.runUnderlying22 Tryz.sizeOf3 (by omega) (by omega)) ?_
      refine .q hs (q_load rfl Tryz.isAgg3 (hv := Is_gi (by rw [List.length_set]; omega))) ?_
      rw [e1]
      refine .z zm (.z zmul (.z zadd ?_))
      refine .q hs (q_ixO (k := g.at_ + 1) rfl rfl Tryz.runUnderlying22 Tryz.sizeOf3 (by omega) (by omega)) ?_
      refine .o (.store hs rfl rfl Tryz.sizeOf3 ?_ (by repeat constructor) (by simp [Is]; omega)); intro w hs
      refine .nil ?_
      refine .exit ?_
      refine xT (xB (nT ?_))
      refine .region (.z zm (.z zadd (.z zg (.nil ?_))))
      refine nT ?_
      have h2 : g.two = false := by
        cases e : g.two with
        | false => rfl
        | true => simp [Grp.n, e] at hc45
      rw [grpW_one h2 hA] at hK
      have e : wtsK l (k + 1) = (W.set g.at_ (gi W g.at_ + 18 * A)).set (g.at_ + 1) (gi W (g.at_ + 1) + 18 * A) := by rw [hK]; simp only [addAt]; rw [e1]
      exact ⟨k + 1, .consI rfl (by simp) (by repeat (first | exact .nil rfl rfl | refine .cons rfl ?_)), ⟨by omega, by rw [e]; exact hs⟩, by omega⟩
    · refine .skip ?_
      refine nT ?_
      refine .seq (.draw mix rfl hs ?_); intro w hs
      have h2 : g.two = true := by
        cases e : g.two with
        | true => rfl
        | false => simp [Grp.n, e] at hc45
      obtain ⟨j1, j2, j3, j4⟩ := i4 h2
      have hq2 := hp.bd (i := g.at_ + 2) (by omega)
      have z2 := sizes_at W (v := g.at_ + 2) (n := l.length) (by omega)
      have e2 : ∀ x y, gi ((W.set g.at_ x).set (g.at_ + 1) y) (g.at_ + 2) = gi W (g.at_ + 2) := fun x y => by rw [gi_set_ne (by omega), gi_set_ne (by omega)]
      generalize hB : gi l (g.at_ + 2) - gi l (g.at_ + 1) = B at *
      have hk3 := tms_pos j4
      have hmm := min_le_pos (a := A) (b := B) ⟨by omega, by omega⟩ ⟨by omega, by omega⟩
      obtain ⟨n1, n2, n3, n4⟩ := grp_nums hk3 hmm.1 hmm.2
      obtain ⟨n5, n6, n7, n8, n9⟩ := n4 _ n3.1 n3.2
      have hgw0 := grpW_two h2 hA hB rfl rfl
      refine .z 0 rfl zm ?_; refine .z 1 rfl zm ?_; refine .z 2 rfl zadd ?_
      refine .ixX (enc := fun x => [I x]) (i := 3) hs rfl (by kernel_rfl) .none hrr rfl rfl Tryz.runUnderlying22 Tryz.sizeOf3 (gi_get (l := l) (i := (g.at_+2)) (by omega)) (by first | rfl | assumption | omega) ?_; intro b66 o66 hc66; replace hc66 := CellsAt.one hc66
      refine .r (i := 4) hs rfl (by kernel_rfl) .none (q_loadR rfl Tryz.isAgg3 hc66) ?_
      refine .z 5 rfl zm ?_; refine .z 6 rfl zm ?_; refine .z 7 rfl zadd ?_
      refine .ixX (enc := fun x => [I x]) (i := 8) hs rfl (by kernel_rfl) .none hrr rfl rfl Tryz.runUnderlying22 Tryz.sizeOf3 (gi_get (l := l) (i := (g.at_+1)) (by omega)) (by first | rfl | assumption | omega) ?_; intro b71 o71 hc71; replace hc71 := CellsAt.one hc71
      refine .r (i := 9) hs rfl (by kernel_rfl) .none (q_loadR rfl Tryz.isAgg3 hc71) ?_
      refine .z 10 rfl zsub ?_
      rw [hB]
      refine .z 11 rfl zg ?_; refine .done (by kernel_rfl) hs ?_
      refine .regSeq (.z zm (.z zm ?_))
      refine .o (.call Tryz.call281 rfl (ref01_times_spec hs (by omega) (by omega)) ?_); rintro _ w ⟨rfl, hs⟩
      generalize hT : tms A B = T at *
      refine .z zg (.nil (.regSeq (.z zm (.z zm (.z zmin ?_)))))
      generalize hM : min A B = M at *
      refine .z zg (.nil (.regSeq (.z zm ?_)))
      refine .q hs (q_quoF rfl rfl (by omega) (by omega)) ?_
      refine .z zm (.z zadd (.z zmul (.z zm (.z zmul (.z zg (.nil (.regSeq (.z zm (.z zm ?_)))))))))
      refine .z zmul (.z zm (.z zsub (.z zmul (.z zg (.nil (.regSeq (.z zm (.z zm (.z zmul ?_)))))))))
      refine .z zsub (.z zmul (.z zg (.nil ?_)))
      refine .cut (fun fs w => ∃ x y : Int, FSub fs ⟨133, [], [(13, I y), (12, I x), (11, I ((6 : Int).tdiv T * (1 + T) * M)), (9, I T), (6, I (g.at_ : Int)), (5, I (k : Int)), (4, .slice ag (grps l).length cg), (3, .slice (some ⟨b16, 0, none⟩) l.length l.length), (0, .slice a l.length c)]⟩ ∧ (-6000000 ≤ x ∧ x ≤ 6000000) ∧ (-6000000 ≤ y ∧ y ≤ 6000000) ∧ grpW l g = [x, (6 : Int).tdiv T * (1 + T) * M * (1 + T) * (1 + T), y] ∧ St H1 w (.blk b16 (Is W) :: σ)) ?_ ?_
      · refine .regSeq (.z zm (.z zm (.z zgtr (.nil ?_))))
        refine (.condD rfl (fun hc100 => ?_) (fun hc100 => ?_))
        · refine .region (.z zm (.z zm (.z zg (.z zg (.nil ?_)))))
          refine nT ?_
          exact ⟨_, _, by repeat (first | exact .nil rfl rfl | refine .cons rfl ?_), by omega, by omega, by rw [hgw0, if_pos hc100], hs⟩
        · refine .skip ?_
          refine nT ?_
          exact ⟨_, _, by repeat (first | exact .nil rfl rfl | refine .cons rfl ?_), by omega, by omega, by rw [hgw0, if_neg (by omega)], hs⟩
      · rintro fs w ⟨x, y, hfs, hx, hy, hgw, hs⟩
        refine WE.sub ?_ hfs
        have e : wtsK l (k + 1) = ((W.set g.at_ (gi W g.at_ + x)).set (g.at_ + 1) (gi W (g.at_ + 1) + (6 : Int).tdiv T * (1 + T) * M * (1 + T) * (1 + T))).set (g.at_ + 2) (gi W (g.at_ + 2) + y) := by
          rw [hK, hgw]; simp only [addAt]; rw [e1, show g.at_ + 1 + 1 = g.at_ + 2 by omega, e2]
        refine .regSeq (.z zm (.z zm ?_))
        refine .q hs (q_ixO (k := g.at_) rfl rfl Tryz.runUnderlying22 Tryz.sizeOf3 (by omega) (by omega)) ?_
        refine .y hs (zld Tryz.isAgg3) (.z zm (.z zadd ?_))
        refine .q hs (q_ixO (k := g.at_) rfl rfl Tryz.runUnderlying22 Tryz.sizeOf3 (by omega) (by omega)) ?_
        refine .o (.store hs rfl rfl Tryz.sizeOf3 ?_); intro w hs
        refine .nil (.regSeq (.z zm (.z zm (.z zadd ?_))))
        refine .q hs (q_ixO (k := g.at_ + 1) rfl rfl Tryz.runUnderlying22 Tryz.sizeOf3 (by omega) (by omega)) ?_
        refine .q hs (q_load rfl Tryz.isAgg3 (hv := Is_gi (by rw [List.length_set]; omega))) ?_
        rw [e1]
        refine .z zm (.z zm (.z zadd (.z zmul (.z zm (.z zadd (.z zmul (.z zadd ?_)))))))
        refine .q hs (q_ixO (k := g.at_ + 1) rfl rfl Tryz.runUnderlying22 Tryz.sizeOf3 (by omega) (by omega)) ?_
        refine .o (.store hs rfl rfl Tryz.sizeOf3 ?_ (by repeat constructor) (by simp [Is]; omega)); intro w hs
        refine .nil (.region (.z zm (.z zm (.z zadd ?_))))
        refine .q hs (q_ixO (k := g.at_ + 2) rfl rfl Tryz.runUnderlying22 Tryz.sizeOf3 (by omega) (by omega)) ?_
        refine .q hs (q_load rfl Tryz.isAgg3 (hv := Is_gi (by rw [List.length_set, List.length_set]; omega))) ?_
        rw [e2]
        refine .z zm (.z zadd ?_)
        refine .q hs (q_ixO (k := g.at_ + 2) rfl rfl Tryz.runUnderlying22 Tryz.sizeOf3 (by omega) (by omega)) ?_
        refine .o (.store hs rfl rfl Tryz.sizeOf3 ?_ (by repeat constructor) (by simp [Is]; omega)); intro w hs
        refine .nil ?_
        refine nB (nT ?_)
        refine .region (.z zm (.z zadd (.z zg (.nil ?_))))
        refine nT ?_
        exact ⟨k + 1, .consI rfl (by simp) (by repeat (first | exact .nil rfl rfl | refine .cons rfl ?_)), ⟨by omega, by rw [e]; exact hs⟩, by omega⟩
  · refine .exit ?_
    refine xT (xT (xB (nT ?_)))
    refine .regSeq (.z zm (.z zg (.nil ?_)))
    refine .ret (Fin.ret1 Tryz.results251 rfl ?_)
    obtain rfl : k = (grps l).length := by omega
    rw [wtsK_end] at hs
    obtain ⟨H3, hle3, hR, hs⟩ := OwnS.publishI (xs := wts l) (v := .slice (some ⟨b16, 0, none⟩) l.length l.length) (.full (by simp [Is, wts_length])) (by rw [wts_length]; omega) hs .here
    exact ⟨H3, hle1.trans hle3, hR, hs⟩
theorem ref01_Weights_spec {H : Heap} {w : World} {σ : List Ent} {v : Value} {l : List Int} (hs : St H w σ) (hr : RI H v l) (hp : PlcOk 9 100000 l) :
    Cl Tryz.prog 196 [v] w fun u w' => ∃ H1 vo, HLe H H1 ∧ u = .tuple #[vo, I 0] ∧ RI H1 vo (wts l) ∧ St H1 w' σ := by
  refine Cl.of Tryz.func196 rfl Tryz.ntmps196 (by simp) (args_cons (k := 0) rfl (args0)) ?_
  refine .regSeq (.z zg (.z zg (.nil (.seq (.regSeq (.z zm ?_))))))
  refine .o (.call Tryz.call84 rfl (ref01_CheckPlaces_spec hs hr) ?_); rintro _ w ⟨e, rfl, he, hs⟩
  obtain rfl : e = 0 := he.elim (fun h => h.2) fun h => (h.1 hp).elim
  refine .z zneq (.nil ?_)
  refine (.condN rfl (fun hc7 => ?_) (fun hc7 => ?_))
  · refine .regSeq (.z zg (.z zg (.nil ?_)))
    refine .ret (rT (Fin.ret2 Tryz.results196 rfl rfl ?_))
    exact (hc7 rfl).elim
  · refine .skip ?_
    refine nT ?_
    refine .regSeq (.z zm ?_)
    refine .o (.call Tryz.call251 rfl (ref01_weights_spec hs hr hp) ?_); rintro v9 w ⟨H1, hle1, hR, hs⟩
    refine .z zg (.nil (.regSeq (.z zm (.z zg (.z zg (.nil ?_))))))
    refine .ret (Fin.ret2 Tryz.results196 rfl rfl ?_)
    exact ⟨H1, _, hle1, rfl, hR, hs⟩
theorem ref01_isTable_spec {H : Heap} {w : World} {σ : List Ent} {v1 v2 : Value} {a b : List Int} (hs : St H w σ) (h1 : RI H v1 a) (h2 : RI H v2 b) (hp1 : PlcOk 9 100000 a) (hp2 : PlcOk 7 15000 b) :
    Cl Tryz.prog 250 [v1, v2] w fun u w' => u = .bool true ∧ St H w' σ := by
  refine Cl.of Tryz.func250 rfl Tryz.ntmps250 (by simp) (args_cons (k := 0) rfl (args_cons (k := 1) rfl (args0))) ?_
  refine .regSeq (.z zg (.nil (.regSeq (.z zm ?_))))
  refine .o (.call Tryz.call168 rfl (ref01_rising_spec (many := 9) (most := 100000) hs h1 (by omega)) ?_); rintro _ w ⟨b6, rfl, hb6, hs⟩
  refine .z zm ?_
  refine .bif (t' := 7) rfl (fun hb7 => ?_) (fun hb7 => ?_)
  · refine .gT rfl rfl ?_
    refine .z zm ?_
    refine .gT rfl rfl ?_
    refine .o (.call Tryz.call168 rfl (ref01_rising_spec (many := 7) (most := 15000) hs h2 (by omega)) ?_); rintro _ w ⟨b9, rfl, hb9, hs⟩
    refine .z zpT (.z zg (.nil ?_))
    refine .ret (Fin.ret1 Tryz.results250 rfl ?_)
    exact ⟨by rw [hb9.2 hp2], hs⟩
  · refine .gFs 2 2 true rfl rfl rfl ?_
    refine .z zpF (.z zg (.nil ?_))
    refine .ret (Fin.ret1 Tryz.results250 rfl ?_)
    rw [hb6.2 hp1] at hb7; cases hb7
set_option maxHeartbeats 1000000 in
theorem ref01_Grid_spec {H : Heap} {w : World} {σ : List Ent} {v1 v2 : Value} {l1 l2 : List Int} (hs : St H w σ) (hr1 : RI H v1 l1) (hr2 : RI H v2 l2) (hp1 : PlcOk 9 100000 l1) (hp2 : PlcOk 7 15000 l2) :
    Cl Tryz.prog 195 [v1, v2] w fun u w' => ∃ H1 vo, HLe H H1 ∧ u = .tuple #[vo, I 0] ∧ RT H1 vo (gridP (wts l1) (wts l2) l1.length) ∧ St H1 w' σ := by
  obtain ⟨a1, c1, rfl⟩ := RI.shape hr1
  obtain ⟨a2, c2, rfl⟩ := RI.shape hr2
  have hn1 := hp1.many
  have hn2 := hp2.many
  have hp2' : PlcOk 9 100000 l2 := ⟨hp2.two, by omega, hp2.low, by have := hp2.high; omega, hp2.rise⟩
  have hXl := wts_length l1
  have hYl := wts_length l2
  have hXb := wts_at hp1
  have hYb := wts_at hp2
  refine Cl.of Tryz.func195 rfl Tryz.ntmps195 (by simp) (args_cons (k := 0) rfl (args_cons (k := 1) rfl (args0))) ?_
  refine .regSeq (.z zg (.z zg (.nil (.seq (.regSeq (.z zm (.z zm ?_)))))))
  refine .o (.call Tryz.call250 rfl (ref01_isTable_spec hs hr1 hr2 hp1 hp2) ?_); rintro _ w ⟨rfl, hs⟩
  refine .z znot (.nil ?_)
  refine (.cond rfl (fun hc15 => ?_) (fun hc15 => ?_))
  · refine .regSeq (.z zg (.z zg (.nil ?_)))
    refine .ret (rT (Fin.ret2 Tryz.results195 rfl rfl ?_))
    cases hc15
  · refine .skip ?_
    refine nT ?_
    refine .regSeq (.z zm ?_)
    refine .o (.call Tryz.call251 rfl (ref01_weights_spec hs hr1 hp1) ?_); rintro v17 w ⟨H1, hle1, hX, hs⟩
    refine .z zg (.nil (.regSeq (.z zm ?_)))
    refine .o (.call Tryz.call251 rfl (ref01_weights_spec hs (hr2.mono hle1) hp2') ?_); rintro v19 w ⟨H2, hle2, hY, hs⟩
    replace hX := hX.mono hle2
    generalize wts l1 = X at *
    generalize wts l2 = Y at *
    obtain ⟨aX, cX, rfl⟩ := RI.shape hX
    obtain ⟨aY, cY, rfl⟩ := RI.shape hY
    refine .z zg (.nil (.regSeq (.z zg (.nil (.seq (.regSeq (.z zg (.nil (.block ?_)))))))))
    refine .loop (fun p : Nat × Value => ⟨49, [], [(9, I (p.1 : Int)), (8, p.2), (7, .slice aY Y.length cY), (6, .slice aX X.length cX)]⟩)
      (fun p w => p.1 ≤ X.length ∧ ∃ H3 us en, HLe H2 H3 ∧ RLs H3 us (gridP X Y p.1) ∧ OwnS 1 p.2 us en ∧ St H3 w (en :: σ)) (fun p => X.length - p.1) (0, .slice none 0 0) (by repeat (first | exact .nil rfl rfl | refine .cons rfl ?_))
      ⟨Nat.zero_le _, H2, [], _, HLe.refl _, RLs.nil _, .nil 1 none, hs.nul⟩ ?_
    rintro ⟨i, vo⟩ w ⟨hi, H3, us, en, hle3, hRL, hO, hs⟩
    dsimp only at hi hRL hO ⊢
    have husl : us.length = i := by rw [hRL.1, gridP_length]
    refine .seq (.regSeq (.z zm (.z zm (.z (zlen Tryz.runUnderlying22) (.z zlss (.nil ?_))))))
    refine (.condD rfl (fun hc23 => ?_) (fun hc23 => ?_))
    · refine .skip ?_
      refine nT ?_
      refine .seq (.block (.regSeq (.z zg (.nil (.seq (.regSeq (.z zg (.nil (.block ?_)))))))))
      refine .loop (fun p : Nat × Value => ⟨49, [], [(11, I (p.1 : Int)), (10, p.2), (9, I (i : Int)), (8, vo), (7, .slice aY Y.length cY), (6, .slice aX X.length cX)]⟩)
        (fun p w => p.1 ≤ Y.length ∧ ∃ en2, OwnS 1 p.2 (Is ((rowP X Y i).take p.1)) en2 ∧ St H3 w (en2 :: en :: σ)) (fun p => Y.length - p.1) (0, .slice none 0 0) (by repeat (first | exact .nil rfl rfl | refine .cons rfl ?_))
        ⟨Nat.zero_le _, _, .nil 1 none, hs.nul⟩ ?_
      rintro ⟨k, vr⟩ w ⟨hk, en2, hO2, hs⟩
      dsimp only at hk hO2 ⊢
      refine .seq (.regSeq (.z zm (.z zm (.z (zlen Tryz.runUnderlying22) (.z zlss (.nil ?_))))))
      refine (.condD rfl (fun hc29 => ?_) (fun hc29 => ?_))
      · refine .skip ?_
        refine nT ?_
        refine .seq (.block ?_)
        refine .draw mix rfl hs ?_; intro w hs
        refine .z 0 rfl zm ?_; refine .z 1 rfl zm ?_; refine .z 2 rfl zm ?_
        have hkm : k < Y.length := by omega
        have hb1 := hXb i
        have hb2 := hYb k
        have hprb : -3456000000000 ≤ gi X i * gi Y k ∧ gi X i * gi Y k ≤ 3456000000000 := mul_bd (A := 4800000) (B := 720000) (by unfold ab at hb1; omega) (by unfold ab at hb2; omega)
        refine .ixX (enc := fun x => [I x]) (i := 3) hs rfl (by kernel_rfl) .none (hX.mono hle3) rfl rfl Tryz.runUnderlying22 Tryz.sizeOf3 (gi_get (l := X) (i := i) (by omega)) (by first | rfl | assumption | omega) ?_; intro b35 o35 hc35; replace hc35 := CellsAt.one hc35
        refine .r (i := 4) hs rfl (by kernel_rfl) .none (q_loadR rfl Tryz.isAgg3 hc35) ?_
        refine .z 5 rfl zm ?_; refine .z 6 rfl zm ?_
        refine .ixX (enc := fun x => [I x]) (i := 7) hs rfl (by kernel_rfl) .none (hY.mono hle3) rfl rfl Tryz.runUnderlying22 Tryz.sizeOf3 (gi_get (l := Y) (i := k) (by omega)) (by first | rfl | assumption | omega) ?_; intro b39 o39 hc39; replace hc39 := CellsAt.one hc39
        refine .r (i := 8) hs rfl (by kernel_rfl) .none (q_loadR rfl Tryz.isAgg3 hc39) ?_
        refine .z 9 rfl zmul ?_
        refine .e1 (i := 10) (by kernel_rfl) rfl rfl .none hs ?_
        refine .buildSlice (cells := [_]) hs bls_sl_int_1 rfl rfl ?_; intro b42 w hs
        refine .go ?_
        refine .e1 (i := 11) (by kernel_rfl) rfl rfl .none hs ?_
        refine .append (ys := Is [gi X i * gi Y k]) hs app_sl_int_int rfl rfl hO2 (.own .here rfl rfl) (Is_cell _) (fun l' h => by simp at h; omega) ?_; intro v43 en43 w hO43 hs
        rw [show Is ((rowP X Y i).take k) ++ Is [gi X i * gi Y k] = Is ((rowP X Y i).take (k + 1)) by rw [rowP_take hkm]; simp [Is]] at hO43
        refine .go ?_
        refine .z 12 rfl zg ?_; refine .done (by kernel_rfl) hs ?_
        refine nB (nT ?_)
        refine .region (.z zm (.z zadd (.z zg (.nil ?_))))
        refine nT ?_
        exact ⟨(k + 1, v43), .consI rfl (by simp) (by repeat (first | exact .nil rfl rfl | refine .cons rfl ?_)), ⟨by dsimp only; omega, _, hO43, hs.sub (by repeat (first | exact Sub.refl _ | constructor | apply Sub.weaken))⟩, by dsimp only; omega⟩
      · refine .exit ?_
        refine xT (xT (xB (nT ?_)))
        refine .region (.z zm (.z zm ?_))
        obtain ⟨H4, hle4, hR, hs⟩ := OwnS.publishI hO2 (by rw [List.length_take, rowP_length]; omega) hs .here
        rw [List.take_of_length_le (by rw [rowP_length]; omega)] at hR
        obtain ⟨ar, cr, rfl⟩ := RI.shape hR
        refine .o (.buildSlice (cells := [_]) hs bls_slLL_int_1 rfl rfl ?_); intro b46 w hs
        refine .o (.append (ys := [.slice ar (rowP X Y i).length cr]) hs app_slLL_int_LL_int rfl rfl hO (.own .here rfl rfl) (by simp [Value.oneCell']) (fun l' h => by omega) ?_); intro v47 en47 w hO47 hs
        have hRL' : RLs H4 (us ++ [.slice ar (rowP X Y i).length cr]) (gridP X Y (i + 1)) := by rw [gridP_succ]; exact (hRL.mono hle4).snoc hR
        refine .z zg (.nil ?_)
        refine nB (nT ?_)
        refine .region (.z zm (.z zadd (.z zg (.nil ?_))))
        refine nT ?_
        exact ⟨(i + 1, v47), .consI rfl (by simp) (by repeat (first | exact .nil rfl rfl | refine .cons rfl ?_)), ⟨by dsimp only; omega, H4, _, _, hle3.trans hle4, hRL', hO47, hs.sub (by repeat (first | exact Sub.refl _ | constructor | apply Sub.weaken))⟩, by dsimp only; omega⟩
    · refine .exit ?_
      refine xT (xT (xB (nT ?_)))
      refine .regSeq (.z zm (.z zg (.z zg (.nil ?_))))
      refine .ret (Fin.ret2 Tryz.results195 rfl rfl ?_)
      obtain rfl : i = X.length := by omega
      obtain ⟨H5, hle5, hR, hs⟩ := hRL.publish hO (by omega) hs .here
      exact ⟨H5, _, hle1.trans (hle2.trans (hle3.trans hle5)), rfl, by rw [← hXl]; exact hR, hs⟩
end Go.Proofs.YtddaejgfjlneoaaGreat

namespace Go.Proofs.YtddaejgfjlneoaaGreat
open Go.MW
theorem offsets_within_spec {H : Heap} {w : World} {σ : List Ent} {a0 a1 a2 : Int} (hs : St H w σ) : Cl Tryz.prog 105 [I a0, I a1, I a2] w fun v w' => v = .bool (decide (a1 ≤ a0 ∧ a0 ≤ a2)) ∧ St H w' σ := by
  refine Cl.of Tryz.func105 rfl Tryz.ntmps105 (by simp) (args_cons (k := 0) rfl (args_cons (k := 1) rfl (args_cons (k := 2) rfl (args0)))) ?_
  refine .regSeq (.z zg (.nil (.regSeq (.z zm (.z zm (.z zleq (.z zm ?_)))))))
  refine .bifD (t' := 10) rfl (fun hb10 => ?_) (fun hb10 => ?_)
  · refine .gT rfl rfl ?_
    refine .z zm ?_
    refine .gT rfl rfl ?_
    refine .z zm ?_
    refine .gT rfl rfl ?_
    refine .z zleq (.z zpT (.z zg (.nil ?_)))
    refine .ret (Fin.ret1 Tryz.results105 rfl ?_)
    exact ⟨by simp [*], hs.out⟩
  · refine .gFs 3 3 true rfl rfl rfl ?_
    refine .z zpF (.z zg (.nil ?_))
    refine .ret (Fin.ret1 Tryz.results105 rfl ?_)
    exact ⟨by simp [*], hs.out⟩
theorem offsets_isSource_spec {H : Heap} {w : World} {σ : List Ent} {a0 : Int} (hs : St H w σ) : Cl Tryz.prog 106 [I a0] w fun v w' => v = .bool (decide (1 ≤ a0 ∧ a0 ≤ 99999)) ∧ St H w' σ := by
  refine Cl.of Tryz.func106 rfl Tryz.ntmps106 (by simp) (args_cons (k := 0) rfl (args0)) ?_
  refine .regSeq (.z zg (.nil (.regSeq (.z zm ?_))))
  refine .o (.call Tryz.call105 rfl (offsets_within_spec hs) ?_); rintro _ w ⟨rfl, hs⟩
  refine .z zg (.nil ?_)
  refine .ret (Fin.ret1 Tryz.results106 rfl ?_)
  exact ⟨rfl, hs⟩
def Spc.agg (s : Spc) (vst vwa : Value) : Value := .agg #[I s.id, I s.src, vst, vwa, I s.al, I s.up]
theorem offsets_CheckSpace_spec {H : Heap} {w : World} {σ : List Ent} {s : Spc} {vst vwa : Value} (hs : St H w σ) (h1 : RI H vst s.st) (h2 : RI H vwa s.wa) :
    Cl Tryz.prog 41 [.agg #[I s.id, I s.src, vst, vwa, I s.al, I s.up]] w fun v w' => ∃ H1 e, HLe H H1 ∧ v = I e ∧ ((SpcOk s ∧ e = 0) ∨ (¬ SpcOk s ∧ e = 30)) ∧ St H1 w' σ := by
  obtain ⟨ast, cst, rfl⟩ := RI.shape h1
  obtain ⟨awa, cwa, rfl⟩ := RI.shape h2
  refine Cl.of Tryz.func41 rfl Tryz.ntmps41 (by simp) (args_cons (k := 0) rfl (args0)) ?_
  refine .regSeq ?_
  refine .o (.box hs rfl rfl ?_); intro b1 w hs
  refine .z zg (.nil (.seq (.regSeq (.z (zfa fa_api_Space_2) (.y hs (zld Tryz.isAgg22) (.z (zfa fa_api_Space_3) (.y hs (zld Tryz.isAgg22) ?_)))))))
  refine .o (.call Tryz.call104 rfl (weigh_Grid_spec hs h1 h2) ?_); rintro _ w ⟨H1, vo, e, hle1, rfl, hG, hG', hs⟩
  refine .z zm (.z zex (.z zex (.z zg (.z zg (.nil (.regSeq (.z zm (.z zneq (.z zm ?_)))))))))
  refine .bifN (t' := 15) rfl (fun hb15 => ?_) (fun hb15 => ?_)
  · refine .gFs 4 2 false rfl rfl rfl ?_
    refine .z zpT (.z zm ?_)
    refine .gFs 4 8 false rfl rfl rfl ?_
    refine .z zpT (.z zm ?_)
    refine .gFs 5 14 false rfl rfl rfl ?_
    refine .z zpT (.z zm ?_)
    refine .gFs 5 21 false rfl rfl rfl ?_
    refine .z zpT (.nil ?_)
    refine (.condT rfl rfl ?_)
    refine .regSeq (.z zg (.nil ?_))
    refine .ret (rT (Fin.ret1 Tryz.results41 rfl ?_))
    exact ⟨H1, _, hle1, rfl, .inr ⟨fun h => by have := (hG ⟨h.st, h.wa⟩).1; simp_all, rfl⟩, hs.out⟩
  · refine .gT rfl rfl ?_
    refine .z (zfa fa_api_Space_0) ?_
    refine .gT rfl rfl ?_
    refine .y hs (zld Tryz.isAgg3) ?_
    refine .gT rfl rfl ?_
    refine .o (.call Tryz.call105 rfl (offsets_within_spec hs) ?_); rintro _ w ⟨rfl, hs⟩
    refine .gT rfl rfl ?_
    refine .z znot (.z zpF (.z zm ?_))
    refine .bif (t' := 21) rfl (fun hb21 => ?_) (fun hb21 => ?_)
    · refine .gFs 4 8 false rfl rfl rfl ?_
      refine .z zpT (.z zm ?_)
      refine .gFs 5 14 false rfl rfl rfl ?_
      refine .z zpT (.z zm ?_)
      refine .gFs 5 21 false rfl rfl rfl ?_
      refine .z zpT (.nil ?_)
      refine (.condT rfl rfl ?_)
      refine .regSeq (.z zg (.nil ?_))
      refine .ret (rT (Fin.ret1 Tryz.results41 rfl ?_))
      exact ⟨H1, _, hle1, rfl, .inr ⟨fun h => by have := h.id; simp_all, rfl⟩, hs.out⟩
    · refine .gT rfl rfl ?_
      refine .z (zfa fa_api_Space_1) ?_
      refine .gT rfl rfl ?_
      refine .y hs (zld Tryz.isAgg3) ?_
      refine .gT rfl rfl ?_
      refine .o (.call Tryz.call106 rfl (offsets_isSource_spec hs) ?_); rintro _ w ⟨rfl, hs⟩
      refine .gT rfl rfl ?_
      refine .z znot (.z zpF (.z zm ?_))
      refine .bif (t' := 27) rfl (fun hb27 => ?_) (fun hb27 => ?_)
      · refine .gFs 5 14 false rfl rfl rfl ?_
        refine .z zpT (.z zm ?_)
        refine .gFs 5 21 false rfl rfl rfl ?_
        refine .z zpT (.nil ?_)
        refine (.condT rfl rfl ?_)
        refine .regSeq (.z zg (.nil ?_))
        refine .ret (rT (Fin.ret1 Tryz.results41 rfl ?_))
        exact ⟨H1, _, hle1, rfl, .inr ⟨fun h => by have := h.src; simp_all, rfl⟩, hs.out⟩
      · refine .gT rfl rfl ?_
        refine .z (zfa fa_api_Space_4) ?_
        refine .gT rfl rfl ?_
        refine .z (zfa fa_api_Fair_0) ?_
        refine .gT rfl rfl ?_
        refine .y hs (zld Tryz.isAgg3) ?_
        refine .gT rfl rfl ?_
        refine .o (.call Tryz.call105 rfl (offsets_within_spec hs) ?_); rintro _ w ⟨rfl, hs⟩
        refine .gT rfl rfl ?_
        refine .z znot (.z zpF (.z zm ?_))
        refine .bif (t' := 34) rfl (fun hb34 => ?_) (fun hb34 => ?_)
        · refine .gFs 5 21 false rfl rfl rfl ?_
          refine .z zpT (.nil ?_)
          refine (.condT rfl rfl ?_)
          refine .regSeq (.z zg (.nil ?_))
          refine .ret (rT (Fin.ret1 Tryz.results41 rfl ?_))
          exact ⟨H1, _, hle1, rfl, .inr ⟨fun h => by have := h.al; simp_all, rfl⟩, hs.out⟩
        · refine .gT rfl rfl ?_
          refine .z (zfa fa_api_Space_4) ?_
          refine .gT rfl rfl ?_
          refine .z (zfa fa_api_Fair_1) ?_
          refine .gT rfl rfl ?_
          refine .y hs (zld Tryz.isAgg3) ?_
          refine .gT rfl rfl ?_
          refine .o (.call Tryz.call105 rfl (offsets_within_spec hs) ?_); rintro _ w ⟨rfl, hs⟩
          refine .gT rfl rfl ?_
          refine .z znot (.z zpF (.nil ?_))
          refine (.cond rfl (fun hc40 => ?_) (fun hc40 => ?_))
          · refine .regSeq (.z zg (.nil ?_))
            refine .ret (rT (Fin.ret1 Tryz.results41 rfl ?_))
            exact ⟨H1, _, hle1, rfl, .inr ⟨fun h => by have := h.up; simp_all, rfl⟩, hs.out⟩
          · refine .skip ?_
            refine nT ?_
            refine .regSeq (.z zg (.nil ?_))
            refine .ret (Fin.ret1 Tryz.results41 rfl ?_)
            have hg := hG' (by simp_all)
            exact ⟨H1, _, hle1, rfl, .inl ⟨⟨hg.1, hg.2, by simp_all, by simp_all, by simp_all, by simp_all⟩, rfl⟩, hs.out⟩
theorem offsets_isReading_spec {H : Heap} {w : World} {σ : List Ent} {s : Spc} {r : Rdg} {vst vwa : Value} (hs : St H w σ) (h1 : RI H vst s.st) (h2 : RI H vwa s.wa) :
    Cl Tryz.prog 107 [.agg #[I s.id, I s.src, vst, vwa, I s.al, I s.up], .agg #[I r.src, I r.st, I r.wa, I r.val, I r.tol, I r.tape, I r.day]] w fun v w' => ∃ b : Bool, v = .bool b ∧ (b = true ↔ RdgOk s r) ∧ St H w' σ := by
  obtain ⟨ast, cst, rfl⟩ := RI.shape h1
  obtain ⟨awa, cwa, rfl⟩ := RI.shape h2
  have l1 := (RI.len h1).2.2
  have l2 := (RI.len h2).2.2
  refine Cl.of Tryz.func107 rfl Tryz.ntmps107 (by simp) (args_cons (k := 0) rfl (args_cons (k := 1) rfl (args0))) ?_
  refine .regSeq ?_
  refine .o (.box hs rfl rfl ?_); intro b2 w hs
  refine .o (.box hs rfl rfl ?_); intro b3 w hs
  refine .z zg (.nil (.regSeq (.z (zfa fa_api_Reading_0) (.y hs (zld Tryz.isAgg3) ?_))))
  refine .o (.call Tryz.call106 rfl (offsets_isSource_spec hs) ?_); rintro _ w ⟨rfl, hs⟩
  refine .z zm ?_
  refine .bif (t' := 8) rfl (fun hb8 => ?_) (fun hb8 => ?_)
  · refine .gT rfl rfl ?_
    refine .z (zfa fa_api_Reading_1) ?_
    refine .gT rfl rfl ?_
    refine .y hs (zld Tryz.isAgg3) ?_
    refine .gT rfl rfl ?_
    refine .z (zfa fa_api_Space_2) ?_
    refine .gT rfl rfl ?_
    refine .y hs (zld Tryz.isAgg22) ?_
    refine .gT rfl rfl ?_
    refine .z (zlen Tryz.runUnderlying22) ?_
    refine .gT rfl rfl ?_
    refine .z zsub ?_
    refine .gT rfl rfl ?_
    refine .o (.call Tryz.call105 rfl (offsets_within_spec hs) ?_); rintro _ w ⟨rfl, hs⟩
    refine .z zpT (.z zm ?_)
    refine .bif (t' := 17) rfl (fun hb17 => ?_) (fun hb17 => ?_)
    · refine .gT rfl rfl ?_
      refine .z (zfa fa_api_Reading_2) ?_
      refine .gT rfl rfl ?_
      refine .y hs (zld Tryz.isAgg3) ?_
      refine .gT rfl rfl ?_
      refine .z (zfa fa_api_Space_3) ?_
      refine .gT rfl rfl ?_
      refine .y hs (zld Tryz.isAgg22) ?_
      refine .gT rfl rfl ?_
      refine .z (zlen Tryz.runUnderlying22) ?_
      refine .gT rfl rfl ?_
      refine .z zsub ?_
      refine .gT rfl rfl ?_
      refine .o (.call Tryz.call105 rfl (offsets_within_spec hs) ?_); rintro _ w ⟨rfl, hs⟩
      refine .z zpT (.z zm ?_)
      refine .bif (t' := 26) rfl (fun hb26 => ?_) (fun hb26 => ?_)
      · refine .gT rfl rfl ?_
        refine .z (zfa fa_api_Reading_4) ?_
        refine .gT rfl rfl ?_
        refine .y hs (zld Tryz.isAgg3) ?_
        refine .gT rfl rfl ?_
        refine .o (.call Tryz.call105 rfl (offsets_within_spec hs) ?_); rintro _ w ⟨rfl, hs⟩
        refine .z zpT (.z zm ?_)
        refine .bif (t' := 31) rfl (fun hb31 => ?_) (fun hb31 => ?_)
        · refine .gT rfl rfl ?_
          refine .z (zfa fa_api_Reading_3) ?_
          refine .gT rfl rfl ?_
          refine .y hs (zld Tryz.isAgg3) ?_
          refine .gT rfl rfl ?_
          refine .z (zfa fa_api_Reading_4) ?_
          refine .gT rfl rfl ?_
          refine .y hs (zld Tryz.isAgg3) ?_
          refine .gT rfl rfl ?_
          have ht : 0 ≤ r.tol ∧ r.tol ≤ 1000 := by simp_all
          refine .z zsub ?_
          refine .gT rfl rfl ?_
          refine .o (.call Tryz.call105 rfl (offsets_within_spec hs) ?_); rintro _ w ⟨rfl, hs⟩
          refine .z zpT (.z zm ?_)
          refine .bif (t' := 39) rfl (fun hb39 => ?_) (fun hb39 => ?_)
          · refine .gT rfl rfl ?_
            refine .z (zfa fa_api_Reading_5) ?_
            refine .gT rfl rfl ?_
            refine .y hs (zld Tryz.isAgg3) ?_
            refine .gT rfl rfl ?_
            refine .o (.call Tryz.call105 rfl (offsets_within_spec hs) ?_); rintro _ w ⟨rfl, hs⟩
            refine .z zpT (.z zm ?_)
            refine .bif (t' := 44) rfl (fun hb44 => ?_) (fun hb44 => ?_)
            · refine .gT rfl rfl ?_
              refine .z (zfa fa_api_Reading_6) ?_
              refine .gT rfl rfl ?_
              refine .y hs (zld Tryz.isAgg3) ?_
              refine .gT rfl rfl ?_
              refine .o (.call Tryz.call105 rfl (offsets_within_spec hs) ?_); rintro _ w ⟨rfl, hs⟩
              refine .z zpT (.z zg (.nil ?_))
              refine .ret (Fin.ret1 Tryz.results107 rfl ?_)
              first
              | exact ⟨false, rfl, ⟨fun h => (by cases h), fun h => (by obtain ⟨g1, g2, g3, g4, g5, g6, g7⟩ := h; simp_all; done)⟩, hs.out⟩
              | exact ⟨_, rfl, ⟨fun h => ⟨by simp_all, by simp_all, by simp_all, by simp_all, by simp_all, by simp_all, by simpa using h⟩, fun h => by simpa using h.day⟩, hs.out⟩
            · refine .gFs 3 39 true rfl rfl rfl ?_
              refine .z zpF (.z zg (.nil ?_))
              refine .ret (Fin.ret1 Tryz.results107 rfl ?_)
              first
              | exact ⟨false, rfl, ⟨fun h => (by cases h), fun h => (by obtain ⟨g1, g2, g3, g4, g5, g6, g7⟩ := h; simp_all; done)⟩, hs.out⟩
              | exact ⟨_, rfl, ⟨fun h => ⟨by simp_all, by simp_all, by simp_all, by simp_all, by simp_all, by simp_all, by simpa using h⟩, fun h => by simpa using h.day⟩, hs.out⟩
          · refine .gFs 3 34 true rfl rfl rfl ?_
            refine .z zpF (.z zm ?_)
            refine .gFs 3 39 true rfl rfl rfl ?_
            refine .z zpF (.z zg (.nil ?_))
            refine .ret (Fin.ret1 Tryz.results107 rfl ?_)
            first
            | exact ⟨false, rfl, ⟨fun h => (by cases h), fun h => (by obtain ⟨g1, g2, g3, g4, g5, g6, g7⟩ := h; simp_all; done)⟩, hs.out⟩
            | exact ⟨_, rfl, ⟨fun h => ⟨by simp_all, by simp_all, by simp_all, by simp_all, by simp_all, by simp_all, by simpa using h⟩, fun h => by simpa using h.day⟩, hs.out⟩
        · refine .gFs 6 26 true rfl rfl rfl ?_
          refine .z zpF (.z zm ?_)
          refine .gFs 3 34 true rfl rfl rfl ?_
          refine .z zpF (.z zm ?_)
          refine .gFs 3 39 true rfl rfl rfl ?_
          refine .z zpF (.z zg (.nil ?_))
          refine .ret (Fin.ret1 Tryz.results107 rfl ?_)
          first
          | exact ⟨false, rfl, ⟨fun h => (by cases h), fun h => (by obtain ⟨g1, g2, g3, g4, g5, g6, g7⟩ := h; simp_all; done)⟩, hs.out⟩
          | exact ⟨_, rfl, ⟨fun h => ⟨by simp_all, by simp_all, by simp_all, by simp_all, by simp_all, by simp_all, by simpa using h⟩, fun h => by simpa using h.day⟩, hs.out⟩
      · refine .gFs 3 21 true rfl rfl rfl ?_
        refine .z zpF (.z zm ?_)
        refine .gFs 6 26 true rfl rfl rfl ?_
        refine .z zpF (.z zm ?_)
        refine .gFs 3 34 true rfl rfl rfl ?_
        refine .z zpF (.z zm ?_)
        refine .gFs 3 39 true rfl rfl rfl ?_
        refine .z zpF (.z zg (.nil ?_))
        refine .ret (Fin.ret1 Tryz.results107 rfl ?_)
        first
        | exact ⟨false, rfl, ⟨fun h => (by cases h), fun h => (by obtain ⟨g1, g2, g3, g4, g5, g6, g7⟩ := h; simp_all; done)⟩, hs.out⟩
        | exact ⟨_, rfl, ⟨fun h => ⟨by simp_all, by simp_all, by simp_all, by simp_all, by simp_all, by simp_all, by simpa using h⟩, fun h => by simpa using h.day⟩, hs.out⟩
    · refine .gFs 7 12 true rfl rfl rfl ?_
      refine .z zpF (.z zm ?_)
      refine .gFs 3 21 true rfl rfl rfl ?_
      refine .z zpF (.z zm ?_)
      refine .gFs 6 26 true rfl rfl rfl ?_
      refine .z zpF (.z zm ?_)
      refine .gFs 3 34 true rfl rfl rfl ?_
      refine .z zpF (.z zm ?_)
      refine .gFs 3 39 true rfl rfl rfl ?_
      refine .z zpF (.z zg (.nil ?_))
      refine .ret (Fin.ret1 Tryz.results107 rfl ?_)
      first
      | exact ⟨false, rfl, ⟨fun h => (by cases h), fun h => (by obtain ⟨g1, g2, g3, g4, g5, g6, g7⟩ := h; simp_all; done)⟩, hs.out⟩
      | exact ⟨_, rfl, ⟨fun h => ⟨by simp_all, by simp_all, by simp_all, by simp_all, by simp_all, by simp_all, by simpa using h⟩, fun h => by simpa using h.day⟩, hs.out⟩
  · refine .gFs 7 3 true rfl rfl rfl ?_
    refine .z zpF (.z zm ?_)
    refine .gFs 7 12 true rfl rfl rfl ?_
    refine .z zpF (.z zm ?_)
    refine .gFs 3 21 true rfl rfl rfl ?_
    refine .z zpF (.z zm ?_)
    refine .gFs 6 26 true rfl rfl rfl ?_
    refine .z zpF (.z zm ?_)
    refine .gFs 3 34 true rfl rfl rfl ?_
    refine .z zpF (.z zm ?_)
    refine .gFs 3 39 true rfl rfl rfl ?_
    refine .z zpF (.z zg (.nil ?_))
    refine .ret (Fin.ret1 Tryz.results107 rfl ?_)
    first
    | exact ⟨false, rfl, ⟨fun h => (by cases h), fun h => (by obtain ⟨g1, g2, g3, g4, g5, g6, g7⟩ := h; simp_all; done)⟩, hs.out⟩
    | exact ⟨_, rfl, ⟨fun h => ⟨by simp_all, by simp_all, by simp_all, by simp_all, by simp_all, by simp_all, by simpa using h⟩, fun h => by simpa using h.day⟩, hs.out⟩
theorem offsets_isCompare_spec {H : Heap} {w : World} {σ : List Ent} {c : Cmp} (hs : St H w σ) :
    Cl Tryz.prog 108 [.agg #[I c.src, I c.tape, I c.fr, I c.to, I c.lo, I c.hi]] w fun v w' => ∃ b : Bool, v = .bool b ∧ (b = true ↔ CmpOk c) ∧ St H w' σ := by
  refine Cl.of Tryz.func108 rfl Tryz.ntmps108 (by simp) (args_cons (k := 0) rfl (args0)) ?_
  refine .regSeq ?_
  refine .o (.box hs rfl rfl ?_); intro b1 w hs
  refine .z zg (.nil (.regSeq (.z (zfa fa_api_Compare_0) (.y hs (zld Tryz.isAgg3) ?_))))
  refine .o (.call Tryz.call106 rfl (offsets_isSource_spec hs) ?_); rintro _ w ⟨rfl, hs⟩
  refine .z zm ?_
  refine .bif (t' := 6) rfl (fun hb6 => ?_) (fun hb6 => ?_)
  · refine .gT rfl rfl ?_
    refine .z (zfa fa_api_Compare_1) ?_
    refine .gT rfl rfl ?_
    refine .y hs (zld Tryz.isAgg3) ?_
    refine .gT rfl rfl ?_
    refine .o (.call Tryz.call105 rfl (offsets_within_spec hs) ?_); rintro _ w ⟨rfl, hs⟩
    refine .z zpT (.z zm ?_)
    refine .bif (t' := 11) rfl (fun hb11 => ?_) (fun hb11 => ?_)
    · refine .gT rfl rfl ?_
      refine .z (zfa fa_api_Compare_2) ?_
      refine .gT rfl rfl ?_
      refine .y hs (zld Tryz.isAgg3) ?_
      refine .gT rfl rfl ?_
      refine .z (zfa fa_api_Compare_3) ?_
      refine .gT rfl rfl ?_
      refine .y hs (zld Tryz.isAgg3) ?_
      refine .gT rfl rfl ?_
      refine .o (.call Tryz.call105 rfl (offsets_within_spec hs) ?_); rintro _ w ⟨rfl, hs⟩
      refine .z zpT (.z zm ?_)
      refine .bif (t' := 18) rfl (fun hb18 => ?_) (fun hb18 => ?_)
      · refine .gT rfl rfl ?_
        refine .z (zfa fa_api_Compare_3) ?_
        refine .gT rfl rfl ?_
        refine .y hs (zld Tryz.isAgg3) ?_
        refine .gT rfl rfl ?_
        refine .o (.call Tryz.call105 rfl (offsets_within_spec hs) ?_); rintro _ w ⟨rfl, hs⟩
        refine .z zpT (.z zm ?_)
        refine .bif (t' := 23) rfl (fun hb23 => ?_) (fun hb23 => ?_)
        · refine .gT rfl rfl ?_
          refine .z (zfa fa_api_Compare_4) ?_
          refine .gT rfl rfl ?_
          refine .y hs (zld Tryz.isAgg3) ?_
          refine .gT rfl rfl ?_
          refine .z (zfa fa_api_Compare_5) ?_
          refine .gT rfl rfl ?_
          refine .y hs (zld Tryz.isAgg3) ?_
          refine .gT rfl rfl ?_
          refine .o (.call Tryz.call105 rfl (offsets_within_spec hs) ?_); rintro _ w ⟨rfl, hs⟩
          refine .z zpT (.z zm ?_)
          refine .bif (t' := 30) rfl (fun hb30 => ?_) (fun hb30 => ?_)
          · refine .gT rfl rfl ?_
            refine .z (zfa fa_api_Compare_5) ?_
            refine .gT rfl rfl ?_
            refine .y hs (zld Tryz.isAgg3) ?_
            refine .gT rfl rfl ?_
            refine .o (.call Tryz.call105 rfl (offsets_within_spec hs) ?_); rintro _ w ⟨rfl, hs⟩
            refine .z zpT (.z zg (.nil ?_))
            refine .ret (Fin.ret1 Tryz.results108 rfl ?_)
            first
            | exact ⟨false, rfl, ⟨fun h => (by cases h), fun h => (by obtain ⟨g1, g2, g3, g4, g5, g6⟩ := h; simp_all; omega)⟩, hs.out⟩
            | exact ⟨false, rfl, ⟨fun h => (by cases h), fun h => (by obtain ⟨g1, g2, g3, g4, g5, g6⟩ := h; simp_all; done)⟩, hs.out⟩
            | exact ⟨_, rfl, ⟨fun h => ⟨by simp_all, by simp_all, by simp_all, by simp_all, by simp_all, (by simpa using h : _ ∧ _).2⟩, fun h => by have := h.lo; have := h.hi; simp; omega⟩, hs.out⟩
          · refine .gFs 3 27 true rfl rfl rfl ?_
            refine .z zpF (.z zg (.nil ?_))
            refine .ret (Fin.ret1 Tryz.results108 rfl ?_)
            first
            | exact ⟨false, rfl, ⟨fun h => (by cases h), fun h => (by obtain ⟨g1, g2, g3, g4, g5, g6⟩ := h; simp_all; omega)⟩, hs.out⟩
            | exact ⟨false, rfl, ⟨fun h => (by cases h), fun h => (by obtain ⟨g1, g2, g3, g4, g5, g6⟩ := h; simp_all; done)⟩, hs.out⟩
            | exact ⟨_, rfl, ⟨fun h => ⟨by simp_all, by simp_all, by simp_all, by simp_all, by simp_all, (by simpa using h : _ ∧ _).2⟩, fun h => by have := h.lo; have := h.hi; simp; omega⟩, hs.out⟩
        · refine .gFs 5 20 true rfl rfl rfl ?_
          refine .z zpF (.z zm ?_)
          refine .gFs 3 27 true rfl rfl rfl ?_
          refine .z zpF (.z zg (.nil ?_))
          refine .ret (Fin.ret1 Tryz.results108 rfl ?_)
          first
          | exact ⟨false, rfl, ⟨fun h => (by cases h), fun h => (by obtain ⟨g1, g2, g3, g4, g5, g6⟩ := h; simp_all; omega)⟩, hs.out⟩
          | exact ⟨false, rfl, ⟨fun h => (by cases h), fun h => (by obtain ⟨g1, g2, g3, g4, g5, g6⟩ := h; simp_all; done)⟩, hs.out⟩
          | exact ⟨_, rfl, ⟨fun h => ⟨by simp_all, by simp_all, by simp_all, by simp_all, by simp_all, (by simpa using h : _ ∧ _).2⟩, fun h => by have := h.lo; have := h.hi; simp; omega⟩, hs.out⟩
      · refine .gFs 3 15 true rfl rfl rfl ?_
        refine .z zpF (.z zm ?_)
        refine .gFs 5 20 true rfl rfl rfl ?_
        refine .z zpF (.z zm ?_)
        refine .gFs 3 27 true rfl rfl rfl ?_
        refine .z zpF (.z zg (.nil ?_))
        refine .ret (Fin.ret1 Tryz.results108 rfl ?_)
        first
        | exact ⟨false, rfl, ⟨fun h => (by cases h), fun h => (by obtain ⟨g1, g2, g3, g4, g5, g6⟩ := h; simp_all; omega)⟩, hs.out⟩
        | exact ⟨false, rfl, ⟨fun h => (by cases h), fun h => (by obtain ⟨g1, g2, g3, g4, g5, g6⟩ := h; simp_all; done)⟩, hs.out⟩
        | exact ⟨_, rfl, ⟨fun h => ⟨by simp_all, by simp_all, by simp_all, by simp_all, by simp_all, (by simpa using h : _ ∧ _).2⟩, fun h => by have := h.lo; have := h.hi; simp; omega⟩, hs.out⟩
    · refine .gFs 5 8 true rfl rfl rfl ?_
      refine .z zpF (.z zm ?_)
      refine .gFs 3 15 true rfl rfl rfl ?_
      refine .z zpF (.z zm ?_)
      refine .gFs 5 20 true rfl rfl rfl ?_
      refine .z zpF (.z zm ?_)
      refine .gFs 3 27 true rfl rfl rfl ?_
      refine .z zpF (.z zg (.nil ?_))
      refine .ret (Fin.ret1 Tryz.results108 rfl ?_)
      first
      | exact ⟨false, rfl, ⟨fun h => (by cases h), fun h => (by obtain ⟨g1, g2, g3, g4, g5, g6⟩ := h; simp_all; omega)⟩, hs.out⟩
      | exact ⟨false, rfl, ⟨fun h => (by cases h), fun h => (by obtain ⟨g1, g2, g3, g4, g5, g6⟩ := h; simp_all; done)⟩, hs.out⟩
      | exact ⟨_, rfl, ⟨fun h => ⟨by simp_all, by simp_all, by simp_all, by simp_all, by simp_all, (by simpa using h : _ ∧ _).2⟩, fun h => by have := h.lo; have := h.hi; simp; omega⟩, hs.out⟩
  · refine .gFs 3 3 true rfl rfl rfl ?_
    refine .z zpF (.z zm ?_)
    refine .gFs 5 8 true rfl rfl rfl ?_
    refine .z zpF (.z zm ?_)
    refine .gFs 3 15 true rfl rfl rfl ?_
    refine .z zpF (.z zm ?_)
    refine .gFs 5 20 true rfl rfl rfl ?_
    refine .z zpF (.z zm ?_)
    refine .gFs 3 27 true rfl rfl rfl ?_
    refine .z zpF (.z zg (.nil ?_))
    refine .ret (Fin.ret1 Tryz.results108 rfl ?_)
    first
    | exact ⟨false, rfl, ⟨fun h => (by cases h), fun h => (by obtain ⟨g1, g2, g3, g4, g5, g6⟩ := h; simp_all; omega)⟩, hs.out⟩
    | exact ⟨false, rfl, ⟨fun h => (by cases h), fun h => (by obtain ⟨g1, g2, g3, g4, g5, g6⟩ := h; simp_all; done)⟩, hs.out⟩
    | exact ⟨_, rfl, ⟨fun h => ⟨by simp_all, by simp_all, by simp_all, by simp_all, by simp_all, (by simpa using h : _ ∧ _).2⟩, fun h => by have := h.lo; have := h.hi; simp; omega⟩, hs.out⟩
theorem offsets_many_spec {H : Heap} {w : World} {σ : List Ent} {s : Spc} {vst vwa : Value} (hs : St H w σ) (h1 : RI H vst s.st) (h2 : RI H vwa s.wa) (hb : s.st.length ≤ 1000 ∧ s.wa.length ≤ 1000) :
    Cl Tryz.prog 91 [.agg #[I s.id, I s.src, vst, vwa, I s.al, I s.up]] w fun v w' => v = I (s.many : Int) ∧ St H w' σ := by
  obtain ⟨ast, cst, rfl⟩ := RI.shape h1
  obtain ⟨awa, cwa, rfl⟩ := RI.shape h2
  have hm := mul_bd (a := (s.st.length : Int)) (b := (s.wa.length : Int)) (A := 1000) (B := 1000) (by omega) (by omega)
  refine Cl.of Tryz.func91 rfl Tryz.ntmps91 (by simp) (args_cons (k := 0) rfl (args0)) ?_
  refine .regSeq ?_
  refine .o (.box hs rfl rfl ?_); intro b1 w hs
  refine .z zg (.nil (.regSeq (.z (zfa fa_api_Space_2) (.y hs (zld Tryz.isAgg22) (.z (zlen Tryz.runUnderlying22) (.z (zfa fa_api_Space_3) (.y hs (zld Tryz.isAgg22) (.z (zlen Tryz.runUnderlying22) (.z zmul ?_)))))))))
  refine .z zg (.nil ?_)
  refine .ret (Fin.ret1 Tryz.results91 rfl ?_)
  exact ⟨by unfold Spc.many; rw [Int.natCast_mul], hs.out⟩
theorem offsets_unknown_spec {H : Heap} {w : World} {σ : List Ent} {s : Spc} {vst vwa : Value} {a b : Int} (hs : St H w σ) (h2 : RI H vwa s.wa) (hb : s.wa.length ≤ 1000) (ha : -1000 ≤ a ∧ a ≤ 1000) (hb' : -1000 ≤ b ∧ b ≤ 1000) :
    Cl Tryz.prog 118 [.agg #[I s.id, I s.src, vst, vwa, I s.al, I s.up], I a, I b] w fun v w' => v = I (1 + a * s.wa.length + b) ∧ St H w' σ := by
  obtain ⟨awa, cwa, rfl⟩ := RI.shape h2
  have hm := mul_bd (a := a) (b := (s.wa.length : Int)) (A := 1000) (B := 1000) (by omega) (by omega)
  refine Cl.of Tryz.func118 rfl Tryz.ntmps118 (by simp) (args_cons (k := 0) rfl (args_cons (k := 1) rfl (args_cons (k := 2) rfl (args0)))) ?_
  refine .regSeq ?_
  refine .o (.box hs rfl rfl ?_); intro b3 w hs
  refine .z zg (.nil (.regSeq (.z zm (.z (zfa fa_api_Space_3) (.y hs (zld Tryz.isAgg22) (.z (zlen Tryz.runUnderlying22) (.z zmul (.z zadd (.z zm ?_)))))))))
  refine .z zadd (.z zg (.nil ?_))
  refine .ret (Fin.ret1 Tryz.results118 rfl ?_)
  exact ⟨rfl, hs.out⟩
theorem offsets_tapeOf_spec {H : Heap} {w : World} {σ : List Ent} {r : Rdg} (hs : St H w σ) :
    Cl Tryz.prog 114 [.agg #[I r.src, I r.st, I r.wa, I r.val, I r.tol, I r.tape, I r.day]] w fun v w' => v = .agg #[I r.tape, I r.day] ∧ St H w' σ := by
  refine Cl.of Tryz.func114 rfl Tryz.ntmps114 (by simp) (args_cons (k := 0) rfl (args0)) ?_
  refine .regSeq ?_
  refine .o (.box hs rfl rfl ?_); intro b1 w hs
  refine .o (.alloc hs Tryz.zeroValue49 rfl ?_); intro b2 w hs
  refine .nil (.regSeq (.z (zfa fa_api_Reading_5) (.y hs (zld Tryz.isAgg3) (.z (zfa fa_api_Reading_6) (.y hs (zld Tryz.isAgg3) (.z (zbd [_, _] bld_api_TapeDay) ?_))))))
  refine .o (.stores (vs := [_, _]) hs rfl rfl Tryz.sizeOf49 ?_); intro w hs
  refine .nil ?_
  refine .ret ?_
  exact Fin.retD [] [] hs fun w hs => ⟨_, results1 Tryz.results114 (rcells (vs := [_, _]) hs rfl Tryz.isAgg49 Tryz.sizeOf49), rfl, hs.out⟩
theorem offsets_fair_spec {H : Heap} {w : World} {σ : List Ent} {a b : Int} (hs : St H w σ) (ha : 0 ≤ a ∧ a ≤ 100000) (hb : 0 ≤ b ∧ b ≤ 100000) :
    Cl Tryz.prog 230 [I a, I b] w fun v w' => v = I (fairI a b) ∧ St H w' σ := by
  have hm := mul_bd (a := a) (b := b) (A := 100000) (B := 100000) (by omega) (by omega)
  have h0 := Int.mul_nonneg ha.1 hb.1
  have hq0 : 0 ≤ (a * b + 999).tdiv 1000 := Int.tdiv_nonneg (by omega) (by omega)
  have hq1 : (a * b + 999).tdiv 1000 ≤ a * b + 999 := by rw [Int.tdiv_eq_ediv_of_nonneg (by omega)]; omega
  refine Cl.of Tryz.func230 rfl Tryz.ntmps230 (by simp) (args_cons (k := 0) rfl (args_cons (k := 1) rfl (args0))) ?_
  refine .regSeq (.z zg (.nil (.regSeq (.z zm (.z zm (.z zmul (.z zadd ?_)))))))
  refine .q hs (q_quoF rfl rfl (by omega) (by omega)) ?_
  refine .z zmin (.z zg (.nil ?_))
  refine .ret (Fin.ret1 Tryz.results230 rfl ?_)
  exact ⟨rfl, hs⟩
def allV (s : Spc) : List (List Value) := (List.range s.many).map fun p => [Value.agg #[I ((p / s.wa.length : Nat) : Int), I ((p % s.wa.length : Nat) : Int), I ((p + 1 : Nat) : Int)]]
theorem allV_length (s : Spc) : (allV s).length = s.many := by simp [allV]
theorem allV_get {s : Spc} {p : Nat} (h : p < (allV s).length) : (allV s)[p] = [Value.agg #[I ((p / s.wa.length : Nat) : Int), I ((p % s.wa.length : Nat) : Int), I ((p + 1 : Nat) : Int)]] := by simp [allV]
theorem offsets_all_1_iter {H : Heap} {b : Nat} {s : Spc} {vst vwa : Value} (hb : Row H b [I s.id, I s.src, vst, vwa, I s.al, I s.up]) (h1 : RI H vst s.st) (h2 : RI H vwa s.wa) (hbd : s.st.length ≤ 1000 ∧ s.wa.length ≤ 1000) :
    Iter Tryz.prog 190 [.pointer (some ⟨b, 0, none⟩)] H (allV s) := by
  intro ly II Ix hmI _ hy H0 σb0 σf w hle hI0 hs
  obtain ⟨ast, cst, rfl⟩ := RI.shape h1
  obtain ⟨awa, cwa, rfl⟩ := RI.shape h2
  have g2 : cellAt H0 b 2 = some (.slice ast s.st.length cst) := cellAt.mono (hb.at 2) hle
  have g3 : cellAt H0 b 3 = some (.slice awa s.wa.length cwa) := cellAt.mono (hb.at 3) hle
  have hm : s.many ≤ 1000000 := Nat.mul_le_mul hbd.1 hbd.2
  refine Cl.of Tryz.func190 rfl Tryz.ntmps190 (by simp) (args_cons (k := 0) rfl (args_cons (k := 1) rfl (args0))) ?_
  refine .regSeq (.z zg (.nil (.regSeq (.z (zfa fa_api_Space_2) (.y hs (zld Tryz.isAgg22) (.z (zlen Tryz.runUnderlying22) (.z zm (.nil ?_))))))))
  refine .for (N := s.st.length) (J := fun i fr w => fr = [(3, I ((i * s.wa.length : Nat) : Int)), (0, .func (.yield ly) #[] #[]), (1, .pointer (some ⟨b, 0, none⟩))] ∧ ∃ H1 σb, HLe H H1 ∧ HLe H0 H1 ∧ II (i * s.wa.length) H1 σb ∧ St H1 w (σb ++ σf)) (by omega) ?_ ?_ ?_
  · exact .mk ⟨by rw [Nat.zero_mul], H0, σb0, hle, HLe.refl _, by rw [Nat.zero_mul]; exact hI0, hs⟩
  · rintro i fr w hi ⟨rfl, H1, σb, hle1, hle0, hI, hs⟩
    have h23 := cellAt.mono g3 hle0
    refine .block (.regSeq (.z zm (.z zg (.nil (.regSeq (.z (zfa fa_api_Space_3) (.y hs (zld Tryz.isAgg22) (.z (zlen Tryz.runUnderlying22) (.z zm ?_)))))))))
    refine .nil ?_
    refine .for (N := s.wa.length) (J := fun k fr w => fr = [(3, I ((i * s.wa.length + k : Nat) : Int)), (4, I (i : Int)), (9, I (i : Int)), (8, I (s.st.length : Int)), (0, .func (.yield ly) #[] #[]), (1, .pointer (some ⟨b, 0, none⟩))] ∧ ∃ H3 σb, HLe H1 H3 ∧ II (i * s.wa.length + k) H3 σb ∧ St H3 w (σb ++ σf)) (by omega) ?_ ?_ ?_
    · exact .mk ⟨rfl, H1, σb, HLe.refl _, hI, hs⟩
    · rintro k fr w hk ⟨rfl, H3, σb3, hle3, hI3, hs⟩
      obtain ⟨d1, d2⟩ := uidx (nw := s.wa.length) (i := i) (k := k) hk
      have hlt := u_lt hi hk
      refine .block (.regSeq (.z zm (.z zg (.nil (.regSeq (.z zm (.z zadd (.z zg (.nil ?_)))))))))
      refine .regSeq (.z zm (.z zm (.z zm (.z zm (.z (zbd [_, _, _] bld_offsets_offset) ?_)))))
      have hk' : i * s.wa.length + k < (allV s).length := by rw [allV_length]; exact hlt
      have hyd := hy (i * s.wa.length + k) hk' H3 σb3 σf w (hle1.trans hle3) hI3 hs
      rw [allV_get hk', d1, d2, show ((i * s.wa.length + k + 1 : Nat) : Int) = ((i * s.wa.length + k : Nat) : Int) + 1 by omega] at hyd
      refine .o (.yield rfl rfl hyd ?_); rintro v25 w ⟨H5, σ5, g1, hs, g3'⟩
      obtain ⟨bb, rfl, gT, gF⟩ := yd_bool g3'
      refine .z znot (.nil ?_)
      refine (.cond rfl (fun hc26 => ?_) (fun hc26 => ?_))
      · refine .ret (rB (rT (rB (rB (rT (rB (Fin.ret0 Tryz.results190 ?_)))))))
        exact ⟨H5, σ5, hle0.trans (hle3.trans g1), hs, .inr (gF (by simpa using hc26))⟩
      · refine .skip ?_
        refine nB (nT ?_)
        exact .mk ⟨rfl, H5, σ5, hle3.trans g1, gT (by simpa using hc26), hs⟩
    · rintro fr w ⟨rfl, H3, σb3, hle3, hI3, hs⟩
      have e : i * s.wa.length + s.wa.length = (i + 1) * s.wa.length := by rw [Nat.add_mul, Nat.one_mul]
      rw [e] at hI3 ⊢
      refine nB (nT ?_)
      exact .mk ⟨rfl, H3, σb3, hle1.trans hle3, hle0.trans hle3, hI3, hs⟩
  · rintro fr w ⟨rfl, H1, σb, hle1, hle0, hI, hs⟩
    exact Fin.end0 Tryz.results190 ⟨H1, σb, hle0, hs, .inl (by rw [allV_length]; exact hI)⟩
theorem offsets_all_spec {H : Heap} {w : World} {σ : List Ent} {s : Spc} {vst vwa : Value} (hs : St H w σ) (h1 : RI H vst s.st) (h2 : RI H vwa s.wa) (hbd : s.st.length ≤ 1000 ∧ s.wa.length ≤ 1000) :
    Cl Tryz.prog 103 [.agg #[I s.id, I s.src, vst, vwa, I s.al, I s.up]] w fun u w' => ∃ H1 b, HLe H H1 ∧ u = .func (.func 190) #[] #[.pointer (some ⟨b, 0, none⟩)] ∧ Iter Tryz.prog 190 [.pointer (some ⟨b, 0, none⟩)] H1 (allV s) ∧ St H1 w' σ := by
  obtain ⟨ast, cst, rfl⟩ := RI.shape h1
  obtain ⟨awa, cwa, rfl⟩ := RI.shape h2
  refine Cl.of Tryz.func103 rfl Tryz.ntmps103 (by simp) (args_cons (k := 0) rfl (args0)) ?_
  refine .regSeq ?_
  refine .o (.box hs rfl rfl ?_); intro b1 w hs
  refine .z zg (.nil (.regSeq ?_))
  refine .q hs (q_makeFunc (f := []) (c := [_]) rfl rfl) ?_
  refine .z zg (.nil ?_)
  refine .ret (Fin.ret1 Tryz.results103 rfl ?_)
  obtain ⟨H1, g1, g2, hs⟩ := hs.publish .here
  exact ⟨H1, b1, g1, rfl, offsets_all_1_iter g2 (h1.mono g1) (h2.mono g1) hbd, hs⟩
end Go.Proofs.YtddaejgfjlneoaaGreat

namespace Go.Proofs.YtddaejgfjlneoaaGreat
open Go.MW
set_option maxRecDepth 100000 in
theorem td_stood : Tryz.prog.stoodInHeld 49 = false := by kernel_rfl
set_option maxRecDepth 100000 in
theorem td_guard : Tryz.prog.eqGuardType Tryz.prog.depth 49 = false := by kernel_rfl
theorem slices_IndexFunc_td {H : Heap} {w : World} {σ : List Ent} {v : Value} {en : Ent} {xs : List TD} {g : Nat} {cap : List Value} (q : TD → Bool) (hs : St H w (en :: σ)) (hO : OwnS 2 v (tdc xs).flatten en) (hl : xs.length ≤ 1000000) (hc : ∀ args w, (callFunc g args).run Tryz.prog w = .ok (.enter g args) w)
    (hp : ∀ w (t : TD), St H w (en :: σ) → Cl Tryz.prog g ([.agg #[I t.tape, I t.day]] ++ cap) w fun u w' => u = .bool (q t) ∧ St H w' (en :: σ)) :
    Cl Tryz.prog 229 [v, .func (.func g) #[] cap.toArray] w fun u w' => ∃ i : Int, u = I i ∧ (0 ≤ i ↔ ∃ x ∈ xs, q x = true) ∧ St H w' (en :: σ) := by
  obtain ⟨a, c, rfl⟩ := hO.shapeX (tdc_2 xs) (by omega)
  rw [tdc_length] at hO ⊢
  refine Cl.of Tryz.func229 rfl Tryz.ntmps229 (by simp) (args_cons (k := 0) rfl (args_cons (k := 1) rfl (args0))) ?_
  refine .regSeq (.z zg (.nil (.seq (.regSeq (.z zm (.z (zlen Tryz.runUnderlying51) (.z zm (.nil ?_))))))))
  refine .for (N := xs.length) (J := fun k fr w => fr = [(1, .func (.func g) #[] cap.toArray), (0, .slice a xs.length c)] ∧ (∀ j < k, ∀ y, xs[j]? = some y → ¬ q y = true) ∧ St H w (en :: σ)) (by omega) ?_ ?_ ?_
  · exact .mk ⟨rfl, fun j hj => by omega, hs⟩
  · rintro k fr w hk ⟨rfl, hno, hs⟩
    obtain ⟨x, hx⟩ := nth hk
    obtain ⟨b, c', sp, hv, rfl, _⟩ := hO.blkX (tdc_2 xs) (by omega) (by rw [tdc_length]; omega)
    rw [tdc_length] at hv
    cases hv
    refine .block (.regSeq (.z zm (.z zg (.nil (.regSeq (.z zm (.z zm (.z zm (.z (zixm Tryz.runUnderlying51 Tryz.sizeOf49) ?_)))))))))
    refine .q hs (q_loads (vs := x.c) rfl Tryz.isAgg49 Tryz.sizeOf49 .here (own_at (tdc_2 xs) (tdc_get hx) sp)) ?_
    refine .o (.callG (first := []) (cap := cap) rfl rfl hc (hp _ x hs) ?_); rintro _ w ⟨rfl, hs⟩
    refine .nil ?_
    refine (.cond rfl (fun hc16 => ?_) (fun hc16 => ?_))
    · refine .regSeq (.z zm (.z zg (.nil ?_)))
      refine .ret (rB (rT (rB (rT (Fin.ret1 Tryz.results229 rfl ?_)))))
      exact ⟨_, rfl, ⟨fun _ => ⟨x, List.mem_of_getElem? hx, hc16⟩, fun _ => by omega⟩, hs⟩
    · refine .skip ?_
      refine nB (nT ?_)
      exact .mk ⟨rfl, upto_succ hno hx (by simpa using hc16), hs⟩
  · rintro fr w ⟨rfl, hno, hs⟩
    refine nT ?_
    refine .regSeq (.z zg (.nil ?_))
    refine .ret (Fin.ret1 Tryz.results229 rfl ?_)
    exact ⟨_, rfl, ⟨fun h => by omega, fun ⟨x, h1, h2⟩ => by
      obtain ⟨j, hj⟩ := List.getElem?_of_mem h1
      exact (hno j (List.getElem?_eq_some_iff.1 hj).1 x hj h2).elim⟩, hs⟩
theorem slices_ContainsFunc_td {H : Heap} {w : World} {σ : List Ent} {v : Value} {en : Ent} {xs : List TD} {g : Nat} {cap : List Value} (q : TD → Bool) (hs : St H w (en :: σ)) (hO : OwnS 2 v (tdc xs).flatten en) (hl : xs.length ≤ 1000000) (hc : ∀ args w, (callFunc g args).run Tryz.prog w = .ok (.enter g args) w)
    (hp : ∀ w (t : TD), St H w (en :: σ) → Cl Tryz.prog g ([.agg #[I t.tape, I t.day]] ++ cap) w fun u w' => u = .bool (q t) ∧ St H w' (en :: σ)) :
    Cl Tryz.prog 172 [v, .func (.func g) #[] cap.toArray] w fun u w' => ∃ b : Bool, u = .bool b ∧ (b = true ↔ ∃ x ∈ xs, q x = true) ∧ St H w' (en :: σ) := by
  refine Cl.of Tryz.func172 rfl Tryz.ntmps172 (by simp) (args_cons (k := 0) rfl (args_cons (k := 1) rfl (args0))) ?_
  refine .regSeq (.z zg (.nil (.regSeq (.z zm (.z zm ?_)))))
  refine .o (.call Tryz.call229 rfl (slices_IndexFunc_td q hs hO hl hc hp) ?_); rintro _ w ⟨i, rfl, hi, hs⟩
  refine .z zgeq (.z zg (.nil ?_))
  refine .ret (Fin.ret1 Tryz.results172 rfl ?_)
  exact ⟨_, rfl, by simp only [decide_eq_true_eq]; exact hi, hs⟩
theorem slices_Index_td {H : Heap} {w : World} {σ : List Ent} {v : Value} {xs : List TD} {t : TD} (hs : St H w σ) (hr : RTd H v xs) (hl : xs.length ≤ 1000000) :
    Cl Tryz.prog 89 [v, .agg #[I t.tape, I t.day]] w fun u w' => u = I (tdIdx xs t) ∧ St H w' σ := by
  obtain ⟨a, c, rfl⟩ := RTd.shape hr
  refine Cl.of Tryz.func89 rfl Tryz.ntmps89 (by simp) (args_cons (k := 0) rfl (args_cons (k := 1) rfl (args0))) ?_
  refine .regSeq ?_
  refine .o (.box hs rfl rfl ?_); intro b3 w hs
  refine .z zg (.nil (.seq (.regSeq (.z zm (.z (zlen Tryz.runUnderlying51) (.z zm (.nil ?_)))))))
  refine .for (N := xs.length) (J := fun k fr w => fr = [(0, .slice a xs.length c), (3, .pointer (some ⟨b3, 0, none⟩))] ∧ (∀ j < k, ∀ y, xs[j]? = some y → ¬ y = t) ∧ St H w (.blk b3 [I t.tape, I t.day] :: σ)) (by omega) ?_ ?_ ?_
  · exact .mk ⟨rfl, fun j hj => by omega, hs⟩
  · rintro k fr w hk ⟨rfl, hno, hs⟩
    obtain ⟨x, hx⟩ := nth hk
    refine .block (.regSeq (.z zm (.z zg (.nil ?_))))
    refine .seq (.draw mix rfl hs ?_); intro w hs
    refine .ys 0 rfl hs [_, _] Tryz.isAgg49 Tryz.sizeOf49 ?_; refine .z 1 rfl zm ?_; refine .z 2 rfl zm ?_
    refine .ixX (enc := TD.c) (i := 3) hs rfl (by kernel_rfl) .none hr rfl rfl Tryz.runUnderlying51 Tryz.sizeOf49 hx (by first | rfl | assumption | omega) ?_; intro b14 o14 hc14
    refine .r (i := 4) hs rfl (by kernel_rfl) .none (q_loadsR (vs := x.c) rfl Tryz.isAgg49 Tryz.sizeOf49 hc14) ?_
    refine .p (i := 5) rfl (by kernel_rfl) .none (q_eqS2 td_stood td_guard Tryz.runUnderlying49 (fun f hf => by
      simp only [List.mem_cons, List.not_mem_nil, or_false] at hf
      rcases hf with rfl | rfl <;> exact ⟨by decide, Tryz.runUnderlying3, Tryz.isAgg3⟩) rfl rfl) ?_
    refine .done (by kernel_rfl) hs ?_
    refine (.cond rfl (fun hc16 => ?_) (fun hc16 => ?_))
    · refine .regSeq (.z zm (.z zg (.nil ?_)))
      refine .ret (rB (rT (rB (rT (Fin.ret1 Tryz.results89 rfl ?_)))))
      have e : x = t := td_eq.1 (by have := of_decide_eq_true hc16; exact ⟨this.1.symm, this.2.symm⟩)
      subst e
      exact ⟨by rw [tdIdx_hit hx fun j hj h => hno j hj _ h rfl], hs.tail⟩
    · refine .skip ?_
      refine nB (nT ?_)
      exact .mk ⟨rfl, upto_succ hno hx (fun e => by subst e; simp at hc16), hs⟩
  · rintro fr w ⟨rfl, hno, hs⟩
    refine nT ?_
    refine .regSeq (.z zg (.nil ?_))
    refine .ret (Fin.ret1 Tryz.results89 rfl ?_)
    exact ⟨by rw [tdIdx_no hno], hs.tail⟩
theorem offsets_tapes_1_spec {H : Heap} {w : World} {σ : List Ent} {t : TD} {r : Rdg} {b : Nat} (hs : St H w σ) (hb : Row H b r.c) :
    Cl Tryz.prog 173 [.agg #[I t.tape, I t.day], .pointer (some ⟨b, 0, none⟩)] w fun u w' => u = .bool (decide (t = r.td)) ∧ St H w' σ := by
  have hb0 : CellsAt H b 0 r.c := hb.cells 0 r.c
  refine Cl.of Tryz.func173 rfl Tryz.ntmps173 (by simp) (args_cons (k := 0) rfl (args_cons (k := 1) rfl (args0))) ?_
  refine .regSeq ?_
  refine .o (.box hs rfl rfl ?_); intro b2 w hs
  refine .z zg (.nil ?_)
  refine .seq (.draw mix rfl hs ?_); intro w hs
  refine .ys 0 rfl hs [_, _] Tryz.isAgg49 Tryz.sizeOf49 ?_; refine .ys 1 rfl hs [_, _, _, _, _, _, _] Tryz.isAgg80 Tryz.sizeOf80 ?_
  refine .e1 (i := 2) (by kernel_rfl) rfl rfl .none hs ?_
  refine .call Tryz.call114 rfl (offsets_tapeOf_spec hs) ?_; rintro _ w ⟨rfl, hs⟩
  refine .go ?_
  refine .p (i := 3) rfl (by kernel_rfl) .none (q_eqS2 td_stood td_guard Tryz.runUnderlying49 (fun f hf => by
    simp only [List.mem_cons, List.not_mem_nil, or_false] at hf
    rcases hf with rfl | rfl <;> exact ⟨by decide, Tryz.runUnderlying3, Tryz.isAgg3⟩) rfl rfl) ?_
  refine .z 4 rfl zg ?_; refine .done (by kernel_rfl) hs ?_
  refine .ret (Fin.ret1 Tryz.results173 rfl ?_)
  exact ⟨by congr 1; rw [decide_eq_decide]; exact td_eq (t := t) (u := r.td), hs.tail⟩
set_option maxHeartbeats 1000000 in
theorem offsets_tapes_own {H : Heap} {w : World} {σ : List Ent} {s : Srv} {vst vwa vr vc : Value} (hs : St H w σ) (hr : RRd H vr s.rs) (hl : s.rs.length ≤ 1000000) :
    Cl Tryz.prog 90 [.agg #[I s.sp.id, I s.sp.src, vst, vwa, I s.sp.al, I s.sp.up, vr, vc]] w fun u w' => ∃ H1 en, HLe H H1 ∧ OwnS 2 u (tdc s.tapes).flatten en ∧ St H1 w' (en :: σ) := by
  obtain ⟨ar, cr, rfl⟩ := RRd.shape hr
  refine Cl.of Tryz.func90 rfl Tryz.ntmps90 (by simp) (args_cons (k := 0) rfl (args0)) ?_
  refine .regSeq ?_
  refine .o (.box hs rfl rfl ?_); intro b1 w hs
  refine .z zg (.nil (.regSeq (.z zg (.nil (.seq (.regSeq (.z (zfa fa_api_Survey_1) (.y hs (zld Tryz.isAgg35) (.z (zlen Tryz.runUnderlying35) ?_)))))))))
  refine .z zm (.nil ?_)
  refine .for (N := s.rs.length) (J := fun k fr w => ∃ vo en H1, fr = [(7, .slice ar s.rs.length cr), (3, vo)] ∧ HLe H H1 ∧ OwnS 2 vo (tdc (tapesOf (s.rs.take k))).flatten en ∧ St H1 w (en :: σ)) (by omega) ?_ ?_ ?_
  · exact .mk ⟨_, .nul, H, rfl, HLe.refl _, .nil 2 none, hs.tail.nul⟩
  · rintro k fr w hk ⟨vo, en, H1, rfl, hle1, hO, hs⟩
    obtain ⟨r, hx⟩ := nth hk
    have htk := tapesOf_take hx
    have htl := tapesOf_len s.rs k (by omega)
    obtain ⟨ao, co, rfl⟩ := hO.shapeX (tdc_2 _) (by omega)
    rw [tdc_length] at hO ⊢
    refine .block (.regSeq ?_)
    refine .ixX (enc := Rdg.c) hs (hr.mono hle1) rfl rfl Tryz.runUnderlying35 Tryz.sizeOf80 hx (by first | rfl | assumption | omega) ?_; intro b11 o11 hc11
    refine .q hs (q_loadsR (vs := (Rdg.c r)) rfl Tryz.isAgg80 Tryz.sizeOf80 hc11) ?_
    refine .o (.alloc hs Tryz.zeroValue80 rfl ?_); intro b5 w hs
    refine .o (.stores (vs := r.c) hs rfl rfl Tryz.sizeOf80 ?_); intro w hs
    obtain ⟨H2, hle2, r5, hs⟩ := hs.publish (b := b5) (c := r.c) .here
    have c5 : CellsAt H2 b5 0 r.c := r5.cells 0 r.c
    refine .nil (.regSeq (.z zm ?_))
    refine .q hs (q_makeFunc (f := []) (c := [_]) rfl rfl) ?_
    refine .o (.call Tryz.call172 rfl (slices_ContainsFunc_td (g := 173) (cap := [.pointer (some ⟨b5, 0, none⟩)]) (fun t => decide (t = r.td)) hs hO (by omega) Tryz.call173 (fun w t hs => offsets_tapes_1_spec hs r5)) ?_); rintro _ w ⟨b15, rfl, hb15, hs⟩
    refine .z znot (.nil ?_)
    refine (.cond rfl (fun hc16 => ?_) (fun hc16 => ?_))
    · refine .region (.z zm ?_)
      refine .q hs (q_loadsR (vs := r.c) rfl Tryz.isAgg80 Tryz.sizeOf80 c5) ?_
      refine .o (.call Tryz.call114 rfl (offsets_tapeOf_spec (r := r) hs) ?_); rintro _ w ⟨rfl, hs⟩
      refine .o (.buildSlice (cells := [_, _]) hs bls_sl_api_TapeDay_1 rfl rfl ?_); intro b20 w hs
      refine .o (.append (ys := r.td.c) hs app_sl_api_TapeDay_api_TapeDay rfl rfl hO (.own .here rfl rfl) (by simp [TD.c, Value.oneCell']) (fun l h => by rw [flat_length _ (tdc_2 _), tdc_length] at h; omega) ?_); intro v21 en21 w hO2 hs
      refine .z zg (.nil ?_)
      refine nB (nT ?_)
      have hn : r.td ∉ tapesOf (s.rs.take k) := fun hm => by
        rw [hb15.2 ⟨_, hm, by simp⟩] at hc16; cases hc16
      rw [← tdc_snoc, show tapesOf (s.rs.take k) ++ [r.td] = tapesOf (s.rs.take (k + 1)) by rw [htk]; unfold addTD; rw [if_neg hn]] at hO2
      exact .mk ⟨_, _, H2, rfl, hle1.trans hle2, hO2, hs.sub (by repeat (first | exact Sub.refl _ | constructor | apply Sub.weaken))⟩
    · refine .skip ?_
      refine nB (nT ?_)
      have hm : r.td ∈ tapesOf (s.rs.take k) := by
        obtain ⟨x, h1, h2⟩ := hb15.1 (by simpa using hc16)
        rw [← of_decide_eq_true h2]; exact h1
      exact .mk ⟨_, _, H2, rfl, hle1.trans hle2, by rw [htk]; unfold addTD; rw [if_pos hm]; exact hO, hs⟩
  · rintro fr w ⟨vo, en, H1, rfl, hle1, hO, hs⟩
    rw [List.take_length] at hO
    refine nT ?_
    refine .regSeq (.z zm (.z zg (.nil ?_)))
    refine .ret (Fin.ret1 Tryz.results90 rfl ?_)
    exact ⟨H1, en, hle1, hO, hs⟩
theorem offsets_tapes_spec {H : Heap} {w : World} {σ : List Ent} {s : Srv} {vst vwa vr vc : Value} (hs : St H w σ) (hr : RRd H vr s.rs) (hl : s.rs.length ≤ 1000000) :
    Cl Tryz.prog 90 [.agg #[I s.sp.id, I s.sp.src, vst, vwa, I s.sp.al, I s.sp.up, vr, vc]] w fun u w' => ∃ H1, HLe H H1 ∧ RTd H1 u s.tapes ∧ St H1 w' σ := by
  refine (offsets_tapes_own hs hr hl).mono ?_
  rintro u w' ⟨H1, en, hle1, hO, hs⟩
  have htl := tapesOf_length s.rs
  have htl' : s.tapes.length ≤ 1000000 := by unfold Srv.tapes; omega
  obtain ⟨H2, hle2, hR, hs⟩ := OwnS.publish (m := 2) hO (tdc_2 _) (by omega) (by rw [tdc_length]; omega) hs .here
  exact ⟨H2, hle1.trans hle2, hR, hs⟩
theorem slices_Index_tdown {H : Heap} {w : World} {σ : List Ent} {v : Value} {en : Ent} {xs : List TD} {t : TD} (hs : St H w (en :: σ)) (hO : OwnS 2 v (tdc xs).flatten en) (hl : xs.length ≤ 1000000) :
    Cl Tryz.prog 89 [v, .agg #[I t.tape, I t.day]] w fun u w' => u = I (tdIdx xs t) ∧ St H w' (en :: σ) := by
  obtain ⟨a, c, rfl⟩ := hO.shapeX (tdc_2 xs) (by omega)
  rw [tdc_length] at hO ⊢
  refine Cl.of Tryz.func89 rfl Tryz.ntmps89 (by simp) (args_cons (k := 0) rfl (args_cons (k := 1) rfl (args0))) ?_
  refine .regSeq ?_
  refine .o (.box hs rfl rfl ?_); intro b3 w hs
  refine .z zg (.nil (.seq (.regSeq (.z zm (.z (zlen Tryz.runUnderlying51) (.z zm (.nil ?_)))))))
  refine .for (N := xs.length) (J := fun k fr w => fr = [(0, .slice a xs.length c), (3, .pointer (some ⟨b3, 0, none⟩))] ∧ (∀ j < k, ∀ y, xs[j]? = some y → ¬ y = t) ∧ St H w (.blk b3 [I t.tape, I t.day] :: en :: σ)) (by omega) ?_ ?_ ?_
  · exact .mk ⟨rfl, fun j hj => by omega, hs⟩
  · rintro k fr w hk ⟨rfl, hno, hs⟩
    obtain ⟨x, hx⟩ := nth hk
    obtain ⟨b, c', sp, hv, rfl, _⟩ := hO.blkX (tdc_2 xs) (by omega) (by rw [tdc_length]; omega)
    rw [tdc_length] at hv
    cases hv
    refine .block (.regSeq (.z zm (.z zg (.nil ?_))))
    refine .seq (.draw mix rfl hs ?_); intro w hs
    refine .ys 0 rfl hs [_, _] Tryz.isAgg49 Tryz.sizeOf49 ?_; refine .z 1 rfl zm ?_; refine .z 2 rfl zm ?_; refine .z 3 rfl (zixm Tryz.runUnderlying51 Tryz.sizeOf49) ?_
    refine .loads (i := 4) (vs := x.c) hs rfl (by kernel_rfl) .none rfl Tryz.isAgg49 Tryz.sizeOf49 ?_ (hv := own_at (tdc_2 xs) (tdc_get hx) sp)
    refine .p (i := 5) rfl (by kernel_rfl) .none (q_eqS2 td_stood td_guard Tryz.runUnderlying49 (fun f hf => by
      simp only [List.mem_cons, List.not_mem_nil, or_false] at hf
      rcases hf with rfl | rfl <;> exact ⟨by decide, Tryz.runUnderlying3, Tryz.isAgg3⟩) rfl rfl) ?_
    refine .done (by kernel_rfl) hs ?_
    refine (.cond rfl (fun hc16 => ?_) (fun hc16 => ?_))
    · refine .regSeq (.z zm (.z zg (.nil ?_)))
      refine .ret (rB (rT (rB (rT (Fin.ret1 Tryz.results89 rfl ?_)))))
      have e : x = t := td_eq.1 (by have := of_decide_eq_true hc16; exact ⟨this.1.symm, this.2.symm⟩)
      subst e
      exact ⟨by rw [tdIdx_hit hx fun j hj h => hno j hj _ h rfl], hs.tail⟩
    · refine .skip ?_
      refine nB (nT ?_)
      exact .mk ⟨rfl, upto_succ hno hx (fun e => by subst e; simp at hc16), hs⟩
  · rintro fr w ⟨rfl, hno, hs⟩
    refine nT ?_
    refine .regSeq (.z zg (.nil ?_))
    refine .ret (Fin.ret1 Tryz.results89 rfl ?_)
    exact ⟨by rw [tdIdx_no hno], hs.tail⟩
end Go.Proofs.YtddaejgfjlneoaaGreat

namespace Go.Proofs.YtddaejgfjlneoaaGreat
open Go.MW
theorem maker_put_spec {H : Heap} {w : World} {σ : List Ent} {x0 x1 x2 x3 x4 x5 x6 x7 x8 vl : Value} {en : Ent} {bm : Nat} {ls : List Lim} {a b hi lo by_ : Int} (hs : St H w (.blk bm [x0, x1, x2, x3, x4, x5, x6, x7, x8, vl] :: en :: σ)) (hO : OwnS 4 vl (Lims ls) en) (hl : ls.length ≤ 100000) :
    Cl Tryz.prog 115 [.pointer (some ⟨bm, 0, none⟩), I a, I b, I hi, I lo, I by_] w fun _ w' => ∃ vl' en', OwnS 4 vl' (Lims (ls ++ two a b hi lo by_)) en' ∧ St H w' (.blk bm [x0, x1, x2, x3, x4, x5, x6, x7, x8, vl'] :: en' :: σ) := by
  obtain ⟨al, ll, cl, rfl, h⟩ := hO.shape
  refine Cl.of Tryz.func115 rfl Tryz.ntmps115 (by simp) (args_cons (k := 0) rfl (args_cons (k := 1) rfl (args_cons (k := 2) rfl (args_cons (k := 3) rfl (args_cons (k := 4) rfl (args_cons (k := 5) rfl (args0))))))) ?_
  refine .region (.z zm (.z zm (.z znc (.z (zfa fa_offsets_maker_2) (.y hs (zld Tryz.isAgg68) (.z zm (.z zm (.z zm (.z zm ?_)))))))))
  refine .z (zbd [_, _, _, _] bld_api_Limit) (.z zm (.z zm (.z zm (.z zm (.z (zbd [_, _, _, _] bld_api_Limit) ?_)))))
  refine .o (.buildSlice (cells := Lims (two a b hi lo by_)) hs bls_sl_api_Limit_2 rfl (by kernel_rfl) ?_); intro b27 w hs
  refine .o (.append (ys := Lims (two a b hi lo by_)) hs app_sl_api_Limit_api_Limit rfl rfl hO (.own .here rfl rfl) (Lims_cell _) (fun l h => by rw [Lims_length] at h; omega) ?_); intro v28 en28 w hO2 hs
  rw [← Lims_append] at hO2
  obtain ⟨a28, l28, c28, rfl, h28⟩ := hO2.shape
  refine .z znc (.z (zfa fa_offsets_maker_2) ?_)
  refine .o (.store hs rfl rfl Tryz.sizeOf68 ?_); intro w hs
  refine .nil ?_
  exact Fin.end0 Tryz.results115 ⟨_, _, hO2, hs.sub (by repeat (first | exact Sub.refl _ | constructor | apply Sub.weaken))⟩
theorem maker_tape_spec {H : Heap} {w : World} {σ : List Ent} {s : Spc} {vst vwa x6 x7 x8 vl : Value} {bm : Nat} {j : Int} (hs : St H w σ) (hm : Mem σ (.blk bm [I s.id, I s.src, vst, vwa, I s.al, I s.up, x6, x7, x8, vl])) (h1 : RI H vst s.st) (h2 : RI H vwa s.wa) (hb : s.st.length ≤ 1000 ∧ s.wa.length ≤ 1000) (hj : -1 ≤ j ∧ j ≤ 1000) :
    Cl Tryz.prog 116 [.pointer (some ⟨bm, 0, none⟩), I j] w fun u w' => u = I ((s.many : Int) + 1 + j) ∧ St H w' σ := by
  have hmm : s.many ≤ 1000000 := Nat.mul_le_mul hb.1 hb.2
  refine Cl.of Tryz.func116 rfl Tryz.ntmps116 (by simp) (args_cons (k := 0) rfl (args_cons (k := 1) rfl (args0))) ?_
  refine .regSeq (.z zg (.nil (.regSeq (.z zm (.z znc (.z (zfa fa_offsets_maker_0) (.z (zfa fa_api_Survey_0) ?_)))))))
  refine .q hs (q_loads (vs := [I s.id, I s.src, vst, vwa, I s.al, I s.up]) rfl Tryz.isAgg34 Tryz.sizeOf34 hm) ?_
  refine .o (.call Tryz.call91 rfl (offsets_many_spec (s := s) hs h1 h2 hb) ?_); rintro _ w ⟨rfl, hs⟩
  refine .z zadd (.z zm (.z zadd (.z zg (.nil ?_))))
  refine .ret (Fin.ret1 Tryz.results116 rfl ?_)
  exact ⟨rfl, hs⟩
theorem spc_small {s : Spc} (h : SpcOk s) : s.st.length ≤ 1000 ∧ s.wa.length ≤ 1000 ∧ 0 < s.wa.length ∧ s.many ≤ 63 := by
  have h1 := h.st.many; have h2 := h.wa.many; have h3 := h.wa.two
  have : s.many ≤ 9 * 7 := Nat.mul_le_mul h1 h2
  omega
theorem maker_breadths_spec {H : Heap} {w : World} {σ : List Ent} {s : Srv} {ts : List TD} {vst vwa vr vc vt vl : Value} {en : Ent} {bm : Nat} {ls : List Lim} (hs : St H w (.blk bm [I s.sp.id, I s.sp.src, vst, vwa, I s.sp.al, I s.sp.up, vr, vc, vt, vl] :: en :: σ)) (hk : MkK H s ts vst vwa vr vc vt) (hO : OwnS 4 vl (Lims ls) en) (hl : ls.length ≤ 10000) (hok : SpcOk s.sp) :
    Cl Tryz.prog 174 [.pointer (some ⟨bm, 0, none⟩)] w fun _ w' => ∃ H1 vl' en', HLe H H1 ∧ OwnS 4 vl' (Lims (ls ++ offsL (brdL s.sp) s.sp.wa.length s.sp.st.length)) en' ∧ St H1 w' (.blk bm [I s.sp.id, I s.sp.src, vst, vwa, I s.sp.al, I s.sp.up, vr, vc, vt, vl'] :: en' :: σ) := by
  have hsm := spc_small hok
  refine Cl.of Tryz.func174 rfl Tryz.ntmps174 (by simp) (args_cons (k := 0) rfl (args0)) ?_
  refine .regSeq ?_
  refine .o (.box hs rfl rfl ?_); intro b1 w hs
  refine .nil (.regSeq (.y hs (zld Tryz.isAgg170) (.z znc (.z (zfa fa_offsets_maker_0) (.z (zfa fa_api_Survey_0) (.y hs (zls [_, _, _, _, _, _] Tryz.isAgg34 Tryz.sizeOf34) ?_))))))
  refine .o (.call Tryz.call103 rfl (offsets_all_spec (s := s.sp) hs hk.st hk.wa ⟨by omega, by omega⟩) ?_); rintro _ w ⟨H1, ba, hle1, rfl, hit, hs⟩
  refine .nil (.block ?_)
  refine .rangeFunc (gf := 190) (cap := [.pointer (some ⟨ba, 0, none⟩)]) (xs := allV s.sp) (σb := [.blk bm [I s.sp.id, I s.sp.src, vst, vwa, I s.sp.al, I s.sp.up, vr, vc, vt, vl], en, .blk b1 [.pointer (some ⟨bm, 0, none⟩)]]) (σf := σ) (hs.sub (by repeat (first | exact Sub.refl _ | constructor | apply Sub.weaken))) trivial rfl hit Tryz.call190 (fun x hx => by
      simp only [allV, List.mem_map] at hx
      obtain ⟨j, _, rfl⟩ := hx; rfl) rfl
    (I := fun p H' σb => ∃ vl en, σb = [.blk bm [I s.sp.id, I s.sp.src, vst, vwa, I s.sp.al, I s.sp.up, vr, vc, vt, vl], en, .blk b1 [.pointer (some ⟨bm, 0, none⟩)]] ∧ OwnS 4 vl (Lims (ls ++ offsP (brdL s.sp) s.sp.wa.length p)) en) (Ix := fun _ _ _ => False)
    (fun j _ _ σ g1 g2 => g2) (fun _ _ _ _ _ h => h) ⟨vl, en, rfl, by rw [offsP_zero, List.append_nil]; exact hO⟩ ?_ ?_ (fun D c H' σb w _ h _ => h.elim)
  · rintro ly p hp H2 σb2 σf2 w hle2 ⟨vl, en, rfl, hO⟩ hs ⟨rr, hrr⟩
    have hpm : p < s.sp.many := by rw [allV_length] at hp; exact hp
    have hsucc := offsP_succ (brdL s.sp) (p := p) hsm.2.2.1
    have hpl := offsP_length (brdL_two s.sp) hsm.2.2.1 p
    have hin : p / s.sp.wa.length < s.sp.st.length := Nat.div_lt_of_lt_mul (by rw [Nat.mul_comm]; exact hpm)
    have hkm := Nat.mod_lt p hsm.2.2.1
    have hdm := Nat.div_add_mod p s.sp.wa.length
    rw [Nat.mul_comm] at hdm
    have hu : (s.sp.u (p / s.sp.wa.length) (p % s.sp.wa.length) : Int) = (p : Int) + 1 := by unfold Spc.u; omega
    rw [allV_get hp]
    obtain ⟨al, ll, cl, rfl, hll⟩ := hO.shape
    generalize p / s.sp.wa.length = i at *
    generalize p % s.sp.wa.length = k at *
    have hk2 := hk.mono (hle1.trans hle2)
    refine .region ?_
    refine .o (.alloc hs Tryz.zeroValue158 rfl ?_); intro b2 w hs
    refine .o (.stores (vs := [_, _, _]) hs rfl rfl Tryz.sizeOf158 ?_); intro w hs
    refine .nil ?_
    refine nT ?_
    refine ⟨H2, [.blk b2 [I (i : Int), I (k : Int), I ((p + 1 : Nat) : Int)], .blk bm [I s.sp.id, I s.sp.src, vst, vwa, I s.sp.al, I s.sp.up, vr, vc, vt, .slice al ll cl], en, .blk b1 [.pointer (some ⟨bm, 0, none⟩)]], HLe.refl _, hs, ?_⟩; rintro w σf4 - hs
    refine .block ?_
    refine .draw mix rfl hs ?_; intro w hs
    refine .y 0 rfl hs Tryz.isAgg170 ?_; refine .z 1 rfl (zfa fa_offsets_offset_2) ?_; refine .y 2 rfl hs Tryz.isAgg3 ?_; refine .y 3 rfl hs Tryz.isAgg170 ?_; refine .z 4 rfl znc ?_; refine .z 5 rfl (zfa fa_offsets_maker_0) ?_; refine .z 6 rfl (zfa fa_api_Survey_0) ?_; refine .z 7 rfl (zfa fa_api_Space_1) ?_; refine .y 8 rfl hs Tryz.isAgg3 ?_
    refine .e1 (i := 9) (by kernel_rfl) rfl rfl .none hs ?_
    refine .call Tryz.call115 rfl (maker_put_spec (ls := ls ++ offsP (brdL s.sp) s.sp.wa.length p) (hs.sub (by repeat (first | exact Sub.refl _ | constructor | apply Sub.weaken)) : St H2 w (.blk bm _ :: en :: .blk b1 _ :: σf4)) hO (by rw [List.length_append]; omega)) ?_; rintro _ w ⟨vl3, en3, hO3, hs⟩
    rw [show two 0 ((p + 1 : Nat) : Int) 20000 0 s.sp.src = brdL s.sp i k by unfold brdL; rw [hu]; rfl, List.append_assoc, ← hsucc] at hO3
    refine .go ?_
    refine .done (by kernel_rfl) hs ?_
    refine nB ?_
    exact ⟨H2, _, HLe.refl _, hs, _, _, rfl, hO3⟩
  · rintro D H2 σb2 w hle2 ⟨vl, en, rfl, hO⟩ hs
    rw [allV_length, show s.sp.many = s.sp.st.length * s.sp.wa.length from rfl, offsP_end _ hsm.2.2.1] at hO
    refine nB ?_
    exact Fin.endD [D] [] hs fun w hs => ⟨_, results0 Tryz.results174, H2, vl, en, hle1.trans hle2, hO, (hs.sub (by repeat (first | exact Sub.refl _ | constructor | apply Sub.weaken)) : St H2 w (.blk bm _ :: en :: σ))⟩
theorem maker_along_spec {H : Heap} {w : World} {σ : List Ent} {s : Srv} {ts : List TD} {vst vwa vr vc vt vl : Value} {en : Ent} {bm : Nat} {ls : List Lim} (hs : St H w (.blk bm [I s.sp.id, I s.sp.src, vst, vwa, I s.sp.al, I s.sp.up, vr, vc, vt, vl] :: en :: σ)) (hk : MkK H s ts vst vwa vr vc vt) (hO : OwnS 4 vl (Lims ls) en) (hl : ls.length ≤ 10000) (hok : SpcOk s.sp) :
    Cl Tryz.prog 175 [.pointer (some ⟨bm, 0, none⟩)] w fun _ w' => ∃ H1 vl' en', HLe H H1 ∧ OwnS 4 vl' (Lims (ls ++ offsL (alL s.sp) s.sp.wa.length s.sp.st.length)) en' ∧ St H1 w' (.blk bm [I s.sp.id, I s.sp.src, vst, vwa, I s.sp.al, I s.sp.up, vr, vc, vt, vl'] :: en' :: σ) := by
  have hsm := spc_small hok
  obtain ⟨ast, cst, rfl⟩ := RI.shape hk.st
  obtain ⟨awa, cwa, rfl⟩ := RI.shape hk.wa
  refine Cl.of Tryz.func175 rfl Tryz.ntmps175 (by simp) (args_cons (k := 0) rfl (args0)) ?_
  refine .regSeq ?_
  refine .o (.box hs rfl rfl ?_); intro b1 w hs
  refine .nil (.regSeq (.y hs (zld Tryz.isAgg170) (.z znc (.z (zfa fa_offsets_maker_0) (.z (zfa fa_api_Survey_0) (.y hs (zls [_, _, _, _, _, _] Tryz.isAgg34 Tryz.sizeOf34) ?_))))))
  refine .o (.alloc hs Tryz.zeroValue34 rfl ?_); intro b2 w hs
  refine .o (.stores (vs := [_, _, _, _, _, _]) hs rfl rfl Tryz.sizeOf34 ?_); intro w hs
  refine .nil (.regSeq (.y hs (zls [_, _, _, _, _, _] Tryz.isAgg34 Tryz.sizeOf34) ?_))
  refine .o (.call Tryz.call103 rfl (offsets_all_spec (s := s.sp) hs hk.st hk.wa ⟨by omega, by omega⟩) ?_); rintro _ w ⟨H1, ba, hle1, rfl, hit, hs⟩
  refine .nil (.block ?_)
  refine .rangeFunc (gf := 190) (cap := [.pointer (some ⟨ba, 0, none⟩)]) (xs := allV s.sp) (σb := [.blk bm [I s.sp.id, I s.sp.src, .slice ast s.sp.st.length cst, .slice awa s.sp.wa.length cwa, I s.sp.al, I s.sp.up, vr, vc, vt, vl], en, .blk b1 [.pointer (some ⟨bm, 0, none⟩)], .blk b2 [I s.sp.id, I s.sp.src, .slice ast s.sp.st.length cst, .slice awa s.sp.wa.length cwa, I s.sp.al, I s.sp.up]]) (σf := σ) (hs.sub (by repeat (first | exact Sub.refl _ | constructor | apply Sub.weaken))) trivial rfl hit Tryz.call190 (fun x hx => by
      simp only [allV, List.mem_map] at hx
      obtain ⟨j, _, rfl⟩ := hx; rfl) rfl
    (I := fun p H' σb => ∃ vl en, σb = [.blk bm [I s.sp.id, I s.sp.src, .slice ast s.sp.st.length cst, .slice awa s.sp.wa.length cwa, I s.sp.al, I s.sp.up, vr, vc, vt, vl], en, .blk b1 [.pointer (some ⟨bm, 0, none⟩)], .blk b2 [I s.sp.id, I s.sp.src, .slice ast s.sp.st.length cst, .slice awa s.sp.wa.length cwa, I s.sp.al, I s.sp.up]] ∧ OwnS 4 vl (Lims (ls ++ offsP (alL s.sp) s.sp.wa.length p)) en) (Ix := fun _ _ _ => False)
    (fun j _ _ σ g1 g2 => g2) (fun _ _ _ _ _ h => h) ⟨vl, en, rfl, by rw [offsP_zero, List.append_nil]; exact hO⟩ ?_ ?_ (fun D c H' σb w _ h _ => h.elim)
  · rintro ly p hp H2 σb2 σf2 w hle2 ⟨vl, en, rfl, hO⟩ hs ⟨rr, hrr⟩
    have hpm : p < s.sp.many := by rw [allV_length] at hp; exact hp
    have hsucc := offsP_succ (alL s.sp) (p := p) hsm.2.2.1
    have hpl := offsP_length (alL_two s.sp) hsm.2.2.1 p
    have hin : p / s.sp.wa.length < s.sp.st.length := Nat.div_lt_of_lt_mul (by rw [Nat.mul_comm]; exact hpm)
    have hkm := Nat.mod_lt p hsm.2.2.1
    have hdm := Nat.div_add_mod p s.sp.wa.length
    rw [Nat.mul_comm] at hdm
    have hu : (s.sp.u (p / s.sp.wa.length) (p % s.sp.wa.length) : Int) = (p : Int) + 1 := by unfold Spc.u; omega
    rw [allV_get hp]
    obtain ⟨al, ll, cl, rfl, hll⟩ := hO.shape
    generalize p / s.sp.wa.length = i at *
    generalize p % s.sp.wa.length = k at *
    have hk2 := hk.mono (hle1.trans hle2)
    refine .region ?_
    refine .o (.alloc hs Tryz.zeroValue158 rfl ?_); intro b3 w hs
    refine .o (.stores (vs := [_, _, _]) hs rfl rfl Tryz.sizeOf158 ?_); intro w hs
    refine .nil ?_
    refine nT ?_
    refine ⟨H2, [.blk b3 [I (i : Int), I (k : Int), I ((p + 1 : Nat) : Int)], .blk bm [I s.sp.id, I s.sp.src, .slice ast s.sp.st.length cst, .slice awa s.sp.wa.length cwa, I s.sp.al, I s.sp.up, vr, vc, vt, .slice al ll cl], en, .blk b1 [.pointer (some ⟨bm, 0, none⟩)], .blk b2 [I s.sp.id, I s.sp.src, .slice ast s.sp.st.length cst, .slice awa s.sp.wa.length cwa, I s.sp.al, I s.sp.up]], HLe.refl _, hs, ?_⟩; rintro w σf4 - hs
    refine .block (.regSeq (.z (zfa fa_offsets_offset_0) (.y hs (zld Tryz.isAgg3) (.z zadd (.z (zfa fa_api_Space_2) (.y hs (zld Tryz.isAgg22) (.z (zlen Tryz.runUnderlying22) (.z zlss (.nil ?_)))))))))
    refine (.condD rfl (fun hc19 => ?_) (fun hc19 => ?_))
    · refine .seq (.draw mix rfl hs ?_); intro w hs
      refine .z 0 rfl (zfa fa_api_Space_4) ?_; refine .z 1 rfl (zfa fa_api_Fair_0) ?_; refine .y 2 rfl hs Tryz.isAgg3 ?_; refine .z 3 rfl (zfa fa_api_Space_2) ?_; refine .y 4 rfl hs Tryz.isAgg22 ?_; refine .z 5 rfl (zfa fa_offsets_offset_0) ?_; refine .y 6 rfl hs Tryz.isAgg3 ?_; refine .z 7 rfl zadd ?_
      have hris := hok.st.rise i (by omega)
      have hq0 := hok.st.bd (i := i) (by omega)
      have hq1 := hok.st.bd (i := i + 1) (by omega)
      have hal := hok.al
      refine .ixX (enc := fun x => [I x]) (i := 8) hs rfl (by kernel_rfl) .none hk2.st rfl rfl Tryz.runUnderlying22 Tryz.sizeOf3 (gi_get (l := s.sp.st) (i := (i+1)) (by omega)) (by first | rfl | assumption | omega) ?_; intro b28 o28 hc28; replace hc28 := CellsAt.one hc28
      refine .r (i := 9) hs rfl (by kernel_rfl) .none (q_loadR rfl Tryz.isAgg3 hc28) ?_
      refine .z 10 rfl (zfa fa_api_Space_2) ?_; refine .y 11 rfl hs Tryz.isAgg22 ?_; refine .z 12 rfl (zfa fa_offsets_offset_0) ?_; refine .y 13 rfl hs Tryz.isAgg3 ?_
      refine .ixX (enc := fun x => [I x]) (i := 14) hs rfl (by kernel_rfl) .none hk2.st rfl rfl Tryz.runUnderlying22 Tryz.sizeOf3 (gi_get (l := s.sp.st) (i := i) (by omega)) (by first | rfl | assumption | omega) ?_; intro b34 o34 hc34; replace hc34 := CellsAt.one hc34
      refine .r (i := 15) hs rfl (by kernel_rfl) .none (q_loadR rfl Tryz.isAgg3 hc34) ?_
      refine .z 16 rfl zsub ?_
      refine .e1 (i := 17) (by kernel_rfl) rfl rfl .none hs ?_
      refine .call Tryz.call230 rfl (offsets_fair_spec hs (by omega) (by omega)) ?_; rintro _ w ⟨rfl, hs⟩
      refine .go ?_
      refine .z 18 rfl zg ?_; refine .done (by kernel_rfl) hs ?_
      refine .region (.y hs (zld Tryz.isAgg170) (.z (zfa fa_offsets_offset_2) (.y hs (zld Tryz.isAgg3) (.z (zfa fa_offsets_offset_2) (.y hs (zld Tryz.isAgg3) (.z (zfa fa_api_Space_3) (.y hs (zld Tryz.isAgg22) (.z (zlen Tryz.runUnderlying22) (.z zadd ?_)))))))))
      refine .z zm (.z zm (.z (zfa fa_api_Space_1) (.y hs (zld Tryz.isAgg3) ?_)))
      refine .o (.call Tryz.call115 rfl (maker_put_spec (ls := ls ++ offsP (alL s.sp) s.sp.wa.length p) (hs.sub (by repeat (first | exact Sub.refl _ | constructor | apply Sub.weaken)) : St H2 w (.blk bm _ :: en :: .blk b1 _ :: .blk b2 _ :: σf4)) hO (by rw [List.length_append]; omega)) ?_); rintro _ w ⟨vl3, en3, hO3, hs⟩
      have hu2 : (s.sp.u (i + 1) k : Int) = ((p + 1 : Nat) : Int) + (s.sp.wa.length : Int) := by unfold Spc.u at hu ⊢; rw [Nat.add_mul]; omega
      rw [show two ((p + 1 : Nat) : Int) (((p + 1 : Nat) : Int) + (s.sp.wa.length : Int)) (fairI s.sp.al (gi s.sp.st (i + 1) - gi s.sp.st i)) (fairI s.sp.al (gi s.sp.st (i + 1) - gi s.sp.st i)) s.sp.src = alL s.sp i k by unfold alL; rw [if_pos (by omega), hu, hu2]; rfl, List.append_assoc, ← hsucc] at hO3
      refine .nil ?_
      refine nB ?_
      exact ⟨H2, _, HLe.refl _, hs, _, _, rfl, hO3⟩
    · refine .skip ?_
      refine nB ?_
      rw [show alL s.sp i k = [] by unfold alL; rw [if_neg (by omega)], List.append_nil] at hsucc
      exact ⟨H2, _, HLe.refl _, (hs.sub (by repeat (first | exact Sub.refl _ | constructor | apply Sub.weaken)) : St H2 w (.blk bm _ :: en :: .blk b1 _ :: .blk b2 _ :: σf4)), _, _, rfl, by rw [hsucc]; exact hO⟩
  · rintro D H2 σb2 w hle2 ⟨vl, en, rfl, hO⟩ hs
    rw [allV_length, show s.sp.many = s.sp.st.length * s.sp.wa.length from rfl, offsP_end _ hsm.2.2.1] at hO
    refine nB ?_
    exact Fin.endD [D] [] hs fun w hs => ⟨_, results0 Tryz.results175, H2, vl, en, hle1.trans hle2, hO, (hs.sub (by repeat (first | exact Sub.refl _ | constructor | apply Sub.weaken)) : St H2 w (.blk bm _ :: en :: σ))⟩
theorem maker_up_spec {H : Heap} {w : World} {σ : List Ent} {s : Srv} {ts : List TD} {vst vwa vr vc vt vl : Value} {en : Ent} {bm : Nat} {ls : List Lim} (hs : St H w (.blk bm [I s.sp.id, I s.sp.src, vst, vwa, I s.sp.al, I s.sp.up, vr, vc, vt, vl] :: en :: σ)) (hk : MkK H s ts vst vwa vr vc vt) (hO : OwnS 4 vl (Lims ls) en) (hl : ls.length ≤ 10000) (hok : SpcOk s.sp) :
    Cl Tryz.prog 176 [.pointer (some ⟨bm, 0, none⟩)] w fun _ w' => ∃ H1 vl' en', HLe H H1 ∧ OwnS 4 vl' (Lims (ls ++ offsL (upL s.sp) s.sp.wa.length s.sp.st.length)) en' ∧ St H1 w' (.blk bm [I s.sp.id, I s.sp.src, vst, vwa, I s.sp.al, I s.sp.up, vr, vc, vt, vl'] :: en' :: σ) := by
  have hsm := spc_small hok
  obtain ⟨ast, cst, rfl⟩ := RI.shape hk.st
  obtain ⟨awa, cwa, rfl⟩ := RI.shape hk.wa
  refine Cl.of Tryz.func176 rfl Tryz.ntmps176 (by simp) (args_cons (k := 0) rfl (args0)) ?_
  refine .regSeq ?_
  refine .o (.box hs rfl rfl ?_); intro b1 w hs
  refine .nil (.regSeq (.y hs (zld Tryz.isAgg170) (.z znc (.z (zfa fa_offsets_maker_0) (.z (zfa fa_api_Survey_0) (.y hs (zls [_, _, _, _, _, _] Tryz.isAgg34 Tryz.sizeOf34) ?_))))))
  refine .o (.alloc hs Tryz.zeroValue34 rfl ?_); intro b2 w hs
  refine .o (.stores (vs := [_, _, _, _, _, _]) hs rfl rfl Tryz.sizeOf34 ?_); intro w hs
  refine .nil (.regSeq (.y hs (zls [_, _, _, _, _, _] Tryz.isAgg34 Tryz.sizeOf34) ?_))
  refine .o (.call Tryz.call103 rfl (offsets_all_spec (s := s.sp) hs hk.st hk.wa ⟨by omega, by omega⟩) ?_); rintro _ w ⟨H1, ba, hle1, rfl, hit, hs⟩
  refine .nil (.block ?_)
  refine .rangeFunc (gf := 190) (cap := [.pointer (some ⟨ba, 0, none⟩)]) (xs := allV s.sp) (σb := [.blk bm [I s.sp.id, I s.sp.src, .slice ast s.sp.st.length cst, .slice awa s.sp.wa.length cwa, I s.sp.al, I s.sp.up, vr, vc, vt, vl], en, .blk b1 [.pointer (some ⟨bm, 0, none⟩)], .blk b2 [I s.sp.id, I s.sp.src, .slice ast s.sp.st.length cst, .slice awa s.sp.wa.length cwa, I s.sp.al, I s.sp.up]]) (σf := σ) (hs.sub (by repeat (first | exact Sub.refl _ | constructor | apply Sub.weaken))) trivial rfl hit Tryz.call190 (fun x hx => by
      simp only [allV, List.mem_map] at hx
      obtain ⟨j, _, rfl⟩ := hx; rfl) rfl
    (I := fun p H' σb => ∃ vl en, σb = [.blk bm [I s.sp.id, I s.sp.src, .slice ast s.sp.st.length cst, .slice awa s.sp.wa.length cwa, I s.sp.al, I s.sp.up, vr, vc, vt, vl], en, .blk b1 [.pointer (some ⟨bm, 0, none⟩)], .blk b2 [I s.sp.id, I s.sp.src, .slice ast s.sp.st.length cst, .slice awa s.sp.wa.length cwa, I s.sp.al, I s.sp.up]] ∧ OwnS 4 vl (Lims (ls ++ offsP (upL s.sp) s.sp.wa.length p)) en) (Ix := fun _ _ _ => False)
    (fun j _ _ σ g1 g2 => g2) (fun _ _ _ _ _ h => h) ⟨vl, en, rfl, by rw [offsP_zero, List.append_nil]; exact hO⟩ ?_ ?_ (fun D c H' σb w _ h _ => h.elim)
  · rintro ly p hp H2 σb2 σf2 w hle2 ⟨vl, en, rfl, hO⟩ hs ⟨rr, hrr⟩
    have hpm : p < s.sp.many := by rw [allV_length] at hp; exact hp
    have hsucc := offsP_succ (upL s.sp) (p := p) hsm.2.2.1
    have hpl := offsP_length (upL_two s.sp) hsm.2.2.1 p
    have hin : p / s.sp.wa.length < s.sp.st.length := Nat.div_lt_of_lt_mul (by rw [Nat.mul_comm]; exact hpm)
    have hkm := Nat.mod_lt p hsm.2.2.1
    have hdm := Nat.div_add_mod p s.sp.wa.length
    rw [Nat.mul_comm] at hdm
    have hu : (s.sp.u (p / s.sp.wa.length) (p % s.sp.wa.length) : Int) = (p : Int) + 1 := by unfold Spc.u; omega
    rw [allV_get hp]
    obtain ⟨al, ll, cl, rfl, hll⟩ := hO.shape
    generalize p / s.sp.wa.length = i at *
    generalize p % s.sp.wa.length = k at *
    have hk2 := hk.mono (hle1.trans hle2)
    refine .region ?_
    refine .o (.alloc hs Tryz.zeroValue158 rfl ?_); intro b3 w hs
    refine .o (.stores (vs := [_, _, _]) hs rfl rfl Tryz.sizeOf158 ?_); intro w hs
    refine .nil ?_
    refine nT ?_
    refine ⟨H2, [.blk b3 [I (i : Int), I (k : Int), I ((p + 1 : Nat) : Int)], .blk bm [I s.sp.id, I s.sp.src, .slice ast s.sp.st.length cst, .slice awa s.sp.wa.length cwa, I s.sp.al, I s.sp.up, vr, vc, vt, .slice al ll cl], en, .blk b1 [.pointer (some ⟨bm, 0, none⟩)], .blk b2 [I s.sp.id, I s.sp.src, .slice ast s.sp.st.length cst, .slice awa s.sp.wa.length cwa, I s.sp.al, I s.sp.up]], HLe.refl _, hs, ?_⟩; rintro w σf4 - hs
    refine .block (.regSeq (.z (zfa fa_offsets_offset_1) (.y hs (zld Tryz.isAgg3) (.z zadd (.z (zfa fa_api_Space_3) (.y hs (zld Tryz.isAgg22) (.z (zlen Tryz.runUnderlying22) (.z zlss (.nil ?_)))))))))
    refine (.condD rfl (fun hc19 => ?_) (fun hc19 => ?_))
    · refine .seq (.draw mix rfl hs ?_); intro w hs
      refine .z 0 rfl (zfa fa_api_Space_4) ?_; refine .z 1 rfl (zfa fa_api_Fair_1) ?_; refine .y 2 rfl hs Tryz.isAgg3 ?_; refine .z 3 rfl (zfa fa_api_Space_3) ?_; refine .y 4 rfl hs Tryz.isAgg22 ?_; refine .z 5 rfl (zfa fa_offsets_offset_1) ?_; refine .y 6 rfl hs Tryz.isAgg3 ?_; refine .z 7 rfl zadd ?_
      have hris := hok.wa.rise k (by omega)
      have hq0 := hok.wa.bd (i := k) (by omega)
      have hq1 := hok.wa.bd (i := k + 1) (by omega)
      have hal := hok.up
      refine .ixX (enc := fun x => [I x]) (i := 8) hs rfl (by kernel_rfl) .none hk2.wa rfl rfl Tryz.runUnderlying22 Tryz.sizeOf3 (gi_get (l := s.sp.wa) (i := (k+1)) (by omega)) (by first | rfl | assumption | omega) ?_; intro b28 o28 hc28; replace hc28 := CellsAt.one hc28
      refine .r (i := 9) hs rfl (by kernel_rfl) .none (q_loadR rfl Tryz.isAgg3 hc28) ?_
      refine .z 10 rfl (zfa fa_api_Space_3) ?_; refine .y 11 rfl hs Tryz.isAgg22 ?_; refine .z 12 rfl (zfa fa_offsets_offset_1) ?_; refine .y 13 rfl hs Tryz.isAgg3 ?_
      refine .ixX (enc := fun x => [I x]) (i := 14) hs rfl (by kernel_rfl) .none hk2.wa rfl rfl Tryz.runUnderlying22 Tryz.sizeOf3 (gi_get (l := s.sp.wa) (i := k) (by omega)) (by first | rfl | assumption | omega) ?_; intro b34 o34 hc34; replace hc34 := CellsAt.one hc34
      refine .r (i := 15) hs rfl (by kernel_rfl) .none (q_loadR rfl Tryz.isAgg3 hc34) ?_
      refine .z 16 rfl zsub ?_
      refine .e1 (i := 17) (by kernel_rfl) rfl rfl .none hs ?_
      refine .call Tryz.call230 rfl (offsets_fair_spec hs (by omega) (by omega)) ?_; rintro _ w ⟨rfl, hs⟩
      refine .go ?_
      refine .z 18 rfl zg ?_; refine .done (by kernel_rfl) hs ?_
      refine .region (.y hs (zld Tryz.isAgg170) (.z (zfa fa_offsets_offset_2) (.y hs (zld Tryz.isAgg3) (.z (zfa fa_offsets_offset_2) (.y hs (zld Tryz.isAgg3) (.z zadd (.z zm (.z zm (.z (zfa fa_api_Space_1) ?_)))))))))
      refine .y hs (zld Tryz.isAgg3) ?_
      refine .o (.call Tryz.call115 rfl (maker_put_spec (ls := ls ++ offsP (upL s.sp) s.sp.wa.length p) (hs.sub (by repeat (first | exact Sub.refl _ | constructor | apply Sub.weaken)) : St H2 w (.blk bm _ :: en :: .blk b1 _ :: .blk b2 _ :: σf4)) hO (by rw [List.length_append]; omega)) ?_); rintro _ w ⟨vl3, en3, hO3, hs⟩
      have hu2 : (s.sp.u i (k + 1) : Int) = ((p + 1 : Nat) : Int) + 1 := by unfold Spc.u at hu ⊢; omega
      rw [show two ((p + 1 : Nat) : Int) (((p + 1 : Nat) : Int) + 1) (fairI s.sp.up (gi s.sp.wa (k + 1) - gi s.sp.wa k)) (fairI s.sp.up (gi s.sp.wa (k + 1) - gi s.sp.wa k)) s.sp.src = upL s.sp i k by unfold upL; rw [if_pos (by omega), hu, hu2]; rfl, List.append_assoc, ← hsucc] at hO3
      refine .nil ?_
      refine nB ?_
      exact ⟨H2, _, HLe.refl _, hs, _, _, rfl, hO3⟩
    · refine .skip ?_
      refine nB ?_
      rw [show upL s.sp i k = [] by unfold upL; rw [if_neg (by omega)], List.append_nil] at hsucc
      exact ⟨H2, _, HLe.refl _, (hs.sub (by repeat (first | exact Sub.refl _ | constructor | apply Sub.weaken)) : St H2 w (.blk bm _ :: en :: .blk b1 _ :: .blk b2 _ :: σf4)), _, _, rfl, by rw [hsucc]; exact hO⟩
  · rintro D H2 σb2 w hle2 ⟨vl, en, rfl, hO⟩ hs
    rw [allV_length, show s.sp.many = s.sp.st.length * s.sp.wa.length from rfl, offsP_end _ hsm.2.2.1] at hO
    refine nB ?_
    exact Fin.endD [D] [] hs fun w hs => ⟨_, results0 Tryz.results176, H2, vl, en, hle1.trans hle2, hO, (hs.sub (by repeat (first | exact Sub.refl _ | constructor | apply Sub.weaken)) : St H2 w (.blk bm _ :: en :: σ))⟩
theorem maker_errors_spec {H : Heap} {w : World} {σ : List Ent} {s : Srv} {ts : List TD} {vst vwa vr vc vt vl : Value} {en : Ent} {bm : Nat} {ls : List Lim} (hs : St H w (.blk bm [I s.sp.id, I s.sp.src, vst, vwa, I s.sp.al, I s.sp.up, vr, vc, vt, vl] :: en :: σ)) (hk : MkK H s ts vst vwa vr vc vt) (hO : OwnS 4 vl (Lims ls) en) (hl : ls.length ≤ 10000) (hok : SpcOk s.sp) (htl : ts.length ≤ 100) :
    Cl Tryz.prog 177 [.pointer (some ⟨bm, 0, none⟩)] w fun _ w' => ∃ H1 vl' en', HLe H H1 ∧ OwnS 4 vl' (Lims (ls ++ errL s.sp ts.length)) en' ∧ St H1 w' (.blk bm [I s.sp.id, I s.sp.src, vst, vwa, I s.sp.al, I s.sp.up, vr, vc, vt, vl'] :: en' :: σ) := by
  have hsm := spc_small hok
  obtain ⟨at_, ct, rfl⟩ := RTd.shape hk.ts
  refine Cl.of Tryz.func177 rfl Tryz.ntmps177 (by simp) (args_cons (k := 0) rfl (args0)) ?_
  refine .regSeq (.z zm (.z znc (.z (zfa fa_offsets_maker_1) (.y hs (zld Tryz.isAgg51) (.z (zlen Tryz.runUnderlying51) (.z zm (.nil ?_)))))))
  refine .for (N := ts.length) (J := fun j fr w => fr = [(0, .pointer (some ⟨bm, 0, none⟩))] ∧ ∃ vl en, OwnS 4 vl (Lims (ls ++ errL s.sp j)) en ∧ St H w (.blk bm [I s.sp.id, I s.sp.src, vst, vwa, I s.sp.al, I s.sp.up, vr, vc, .slice at_ ts.length ct, vl] :: en :: σ)) (by omega) ?_ ?_ ?_
  · exact .mk ⟨rfl, vl, en, by show OwnS 4 vl (Lims (ls ++ [])) en; rw [List.append_nil]; exact hO, hs⟩
  · rintro j fr w hj ⟨rfl, vl, en, hO, hs⟩
    have hel := errL_length s.sp j
    obtain ⟨al, ll, cl, rfl, hll⟩ := hO.shape
    refine .block (.regSeq (.z zm (.z zg (.nil ?_))))
    refine .draw mix rfl hs ?_; intro w hs
    refine .z 0 rfl zm ?_; refine .z 1 rfl zm ?_; refine .z 2 rfl zm ?_; refine .z 4 rfl zm ?_; refine .z 5 rfl znc ?_; refine .z 6 rfl (zfa fa_offsets_maker_0) ?_; refine .z 7 rfl (zfa fa_api_Survey_0) ?_; refine .z 8 rfl (zfa fa_api_Space_1) ?_; refine .y 9 rfl hs Tryz.isAgg3 ?_
    refine .e1 (i := 3) (by kernel_rfl) rfl rfl .none hs ?_
    refine .call Tryz.call116 rfl (maker_tape_spec (s := s.sp) hs .here hk.st hk.wa ⟨by omega, by omega⟩ ⟨by omega, by omega⟩) ?_; rintro _ w ⟨rfl, hs⟩
    refine .go ?_
    refine .e1 (i := 10) (by kernel_rfl) rfl rfl .none hs ?_
    refine .call Tryz.call115 rfl (maker_put_spec (ls := ls ++ errL s.sp j) hs hO (by rw [List.length_append]; omega)) ?_; rintro _ w ⟨vl3, en3, hO3, hs⟩
    rw [show (s.sp.many : Int) + 1 + (j : Int) = ((s.sp.many + 1 + j : Nat) : Int) by omega, List.append_assoc] at hO3
    refine .go ?_
    refine .done (by kernel_rfl) hs ?_
    refine nB (nT ?_)
    exact .mk ⟨rfl, vl3, en3, hO3, hs⟩
  · rintro fr w ⟨rfl, vl, en, hO, hs⟩
    exact Fin.end0 Tryz.results177 ⟨H, vl, en, HLe.refl _, hO, hs⟩
set_option maxHeartbeats 1000000 in
theorem maker_compares_spec {H : Heap} {w : World} {σ : List Ent} {s : Srv} {ts : List TD} {vst vwa vr vc vt vl : Value} {en : Ent} {bm : Nat} {ls : List Lim} (hs : St H w (.blk bm [I s.sp.id, I s.sp.src, vst, vwa, I s.sp.al, I s.sp.up, vr, vc, vt, vl] :: en :: σ)) (hk : MkK H s ts vst vwa vr vc vt) (hO : OwnS 4 vl (Lims ls) en) (hl : ls.length ≤ 10000) (hok : SpcOk s.sp) (htl : ts.length ≤ 100) (hcl : s.cs.length ≤ 20) (hc : ∀ c ∈ s.cs, CmpOk c) {j0 : Nat} (hj0 : j0 ≤ ts.length) :
    Cl Tryz.prog 117 [.pointer (some ⟨bm, 0, none⟩), I (j0 : Int)] w fun _ w' => ∃ H1 vl' en', HLe H H1 ∧ OwnS 4 vl' (Lims (ls ++ cmpL s.sp ts s.cs j0 s.cs.length)) en' ∧ St H1 w' (.blk bm [I s.sp.id, I s.sp.src, vst, vwa, I s.sp.al, I s.sp.up, vr, vc, vt, vl'] :: en' :: σ) := by
  have hsm := spc_small hok
  obtain ⟨at_, ct, rfl⟩ := RTd.shape hk.ts
  obtain ⟨ac, cc, rfl⟩ := RCm.shape hk.cs
  refine Cl.of Tryz.func117 rfl Tryz.ntmps117 (by simp) (args_cons (k := 0) rfl (args_cons (k := 1) rfl (args0))) ?_
  refine .regSeq (.z zm (.z znc (.z (zfa fa_offsets_maker_0) (.z (zfa fa_api_Survey_2) (.y hs (zld Tryz.isAgg36) (.z (zlen Tryz.runUnderlying36) (.z zm (.nil ?_))))))))
  refine .for (N := s.cs.length) (J := fun i fr w => fr = [(12, .slice ac s.cs.length cc), (0, .pointer (some ⟨bm, 0, none⟩)), (1, I (j0 : Int))] ∧ ∃ vl en, OwnS 4 vl (Lims (ls ++ cmpL s.sp ts s.cs j0 i)) en ∧ St H w (.blk bm [I s.sp.id, I s.sp.src, vst, vwa, I s.sp.al, I s.sp.up, vr, .slice ac s.cs.length cc, .slice at_ ts.length ct, vl] :: en :: σ)) (by omega) ?_ ?_ ?_
  · exact .mk ⟨rfl, vl, en, by show OwnS 4 vl (Lims (ls ++ [])) en; rw [List.append_nil]; exact hO, hs⟩
  · rintro i fr w hi ⟨rfl, vl, en, hO, hs⟩
    obtain ⟨c, hx⟩ := nth hi
    obtain ⟨g1, g2, g3, g4, g5, g6⟩ := hc c (List.mem_of_getElem? hx)
    have hcl1 := cmpL_length s.sp ts s.cs j0 i
    have hcl2 : i * (2 * (ts.length - j0)) ≤ 20 * (2 * 100) := Nat.mul_le_mul (by omega) (by omega)
    refine .block (.regSeq ?_)
    refine .ixX (enc := Cmp.c) hs hk.cs rfl rfl Tryz.runUnderlying36 Tryz.sizeOf108 hx (by first | rfl | assumption | omega) ?_; intro b16 o16 hc16
    refine .q hs (q_loadsR (vs := (Cmp.c c)) rfl Tryz.isAgg108 Tryz.sizeOf108 hc16) ?_
    refine .o (.alloc hs Tryz.zeroValue108 rfl ?_); intro b5 w hs
    refine .o (.stores (vs := c.c) hs rfl rfl Tryz.sizeOf108 ?_); intro w hs
    replace hs : St H w (.blk bm [I s.sp.id, I s.sp.src, vst, vwa, I s.sp.al, I s.sp.up, vr, .slice ac s.cs.length cc, .slice at_ ts.length ct, vl] :: en :: .blk b5 [I c.src, I c.tape, I c.fr, I c.to, I c.lo, I c.hi] :: σ) := hs.sub (by repeat (first | exact Sub.refl _ | constructor | apply Sub.weaken))
    refine .nil (.regSeq (.z zm (.z zg (.nil (.block ?_)))))
    refine .loop (fun j : Nat => ⟨62, [], [(6, I ((j0 + j : Nat) : Int)), (5, .pointer (some ⟨b5, 0, none⟩)), (14, I (i : Int)), (13, I (s.cs.length : Int)), (12, .slice ac s.cs.length cc), (0, .pointer (some ⟨bm, 0, none⟩)), (1, I (j0 : Int))]⟩)
      (fun j w => j0 + j ≤ ts.length ∧ ∃ vl en, OwnS 4 vl (Lims (ls ++ cmpL s.sp ts s.cs j0 i ++ cmpL1 s.sp ts c j0 j)) en ∧ St H w (.blk bm [I s.sp.id, I s.sp.src, vst, vwa, I s.sp.al, I s.sp.up, vr, .slice ac s.cs.length cc, .slice at_ ts.length ct, vl] :: en :: .blk b5 [I c.src, I c.tape, I c.fr, I c.to, I c.lo, I c.hi] :: σ)) (fun j => ts.length - (j0 + j)) 0 (by repeat (first | exact .nil rfl rfl | refine .cons rfl ?_))
      ⟨by omega, vl, en, by show OwnS 4 vl (Lims (_ ++ [])) en; rw [List.append_nil]; exact hO, hs⟩ ?_
    clear hO hs
    rintro j w ⟨hj, vl, en, hO, hs⟩
    have hl1 := cmpL1_length s.sp ts c j0 j
    obtain ⟨al, ll, cl, rfl, hll⟩ := hO.shape
    refine .seq (.regSeq (.z zm (.z zm (.z znc (.z (zfa fa_offsets_maker_1) (.y hs (zld Tryz.isAgg51) (.z (zlen Tryz.runUnderlying51) (.z zlss (.nil ?_)))))))))
    refine (.condD rfl (fun hc25 => ?_) (fun hc25 => ?_))
    · refine .skip ?_
      refine nT ?_
      refine .seq (.block (.regSeq (.z zm (.z znc (.z (zfa fa_offsets_maker_1) (.y hs (zld Tryz.isAgg51) (.z zm ?_)))))))
      obtain ⟨t, ht⟩ := nth (l := ts) (k := j0 + j) (by omega)
      have ht0 := td0_of ht
      refine .ixX (enc := TD.c) hs hk.ts rfl rfl Tryz.runUnderlying51 Tryz.sizeOf49 ht (by first | rfl | assumption | omega) ?_; intro b33 o33 hc33
      refine .q hs (q_loadsR (vs := (TD.c t)) rfl Tryz.isAgg49 Tryz.sizeOf49 hc33) ?_
      refine .o (.alloc hs Tryz.zeroValue49 rfl ?_); intro b7 w hs
      refine .o (.stores (vs := t.c) hs rfl rfl Tryz.sizeOf49 ?_); intro w hs
      change St _ _ (.blk b7 [I t.tape, I t.day] :: _) at hs
      refine .nil (.regSeq (.z (zfa fa_api_TapeDay_0) (.y hs (zld Tryz.isAgg3) (.z (zfa fa_api_Compare_1) (.y hs (zld Tryz.isAgg3) (.z zeql (.z zm ?_)))))))
      refine .bifD (t' := 40) rfl (fun hb40 => ?_) (fun hb40 => ?_)
      · refine .gT rfl rfl ?_
        refine .z (zfa fa_api_TapeDay_1) ?_
        refine .gT rfl rfl ?_
        refine .y hs (zld Tryz.isAgg3) ?_
        refine .gT rfl rfl ?_
        refine .z (zfa fa_api_Compare_2) ?_
        refine .gT rfl rfl ?_
        refine .y hs (zld Tryz.isAgg3) ?_
        refine .gT rfl rfl ?_
        refine .z (zfa fa_api_Compare_3) ?_
        refine .gT rfl rfl ?_
        refine .y hs (zld Tryz.isAgg3) ?_
        refine .gT rfl rfl ?_
        refine .o (.call Tryz.call105 rfl (offsets_within_spec hs) ?_); rintro _ w ⟨rfl, hs⟩
        refine .z zpT (.nil ?_)
        refine (.cond rfl (fun hc48 => ?_) (fun hc48 => ?_))
        · refine .draw mix rfl hs ?_; intro w hs
          refine .z 0 rfl zm ?_; refine .z 1 rfl zm ?_; refine .z 2 rfl zm ?_; refine .z 4 rfl (zfa fa_api_Compare_4) ?_; refine .y 5 rfl hs Tryz.isAgg3 ?_; refine .z 6 rfl zneg ?_; refine .z 7 rfl (zfa fa_api_Compare_5) ?_; refine .y 8 rfl hs Tryz.isAgg3 ?_; refine .z 9 rfl (zfa fa_api_Compare_0) ?_; refine .y 10 rfl hs Tryz.isAgg3 ?_
          refine .e1 (i := 3) (by kernel_rfl) rfl rfl .none hs ?_
          refine .call Tryz.call116 rfl (maker_tape_spec (s := s.sp) hs (.there .here) hk.st hk.wa ⟨by omega, by omega⟩ ⟨by omega, by omega⟩) ?_; rintro _ w ⟨rfl, hs⟩
          refine .go ?_
          refine .e1 (i := 11) (by kernel_rfl) rfl rfl .none hs ?_
          refine .call Tryz.call115 rfl (maker_put_spec (ls := ls ++ cmpL s.sp ts s.cs j0 i ++ cmpL1 s.sp ts c j0 j) (hs.tail : St H w (.blk bm _ :: en :: .blk b5 _ :: σ)) hO (by rw [List.length_append, List.length_append]; omega)) ?_; rintro _ w ⟨vl3, en3, hO3, hs⟩
          refine .go ?_
          refine .done (by kernel_rfl) hs ?_
          refine nB (nT ?_)
          refine .region (.z zm (.z zadd (.z zg (.nil ?_))))
          refine nT ?_
          have e : cmpL1 s.sp ts c j0 (j + 1) = cmpL1 s.sp ts c j0 j ++ two 0 ((s.sp.many : Int) + 1 + ((j0 + j : Nat) : Int)) (-c.lo) c.hi c.src := by
            show _ ++ toldL c (td0 ts (j0 + j)) _ = _
            rw [ht0]; unfold toldL; rw [if_pos (by simp at hc48; omega)]
            rw [show ((s.sp.many + 1 + (j0 + j) : Nat) : Int) = (s.sp.many : Int) + 1 + ((j0 + j : Nat) : Int) by omega]
          rw [List.append_assoc _ (cmpL1 _ _ _ _ _), ← e] at hO3
          exact ⟨j + 1, .consI rfl (by simp; omega) (by repeat (first | exact .nil rfl rfl | refine .cons rfl ?_)), ⟨by omega, vl3, en3, hO3, hs⟩, by omega⟩
        · refine .skip ?_
          refine nB (nT ?_)
          refine .region (.z zm (.z zadd (.z zg (.nil ?_))))
          refine nT ?_
          have e : cmpL1 s.sp ts c j0 (j + 1) = cmpL1 s.sp ts c j0 j := by
            show _ ++ toldL c (td0 ts (j0 + j)) _ = _
            rw [ht0]; unfold toldL; rw [if_neg (by simp at hc48; omega), List.append_nil]
          exact ⟨j + 1, .consI rfl (by simp; omega) (by repeat (first | exact .nil rfl rfl | refine .cons rfl ?_)), ⟨by omega, _, en, by rw [e]; exact hO, hs.tail⟩, by omega⟩
      · refine .gFs 7 5 true rfl rfl rfl ?_
        refine .z zpF (.nil ?_)
        refine (.condF rfl rfl ?_)
        refine .skip ?_
        refine nB (nT ?_)
        refine .region (.z zm (.z zadd (.z zg (.nil ?_))))
        refine nT ?_
        have e : cmpL1 s.sp ts c j0 (j + 1) = cmpL1 s.sp ts c j0 j := by
          show _ ++ toldL c (td0 ts (j0 + j)) _ = _
          rw [ht0]; unfold toldL; rw [if_neg (by omega), List.append_nil]
        exact ⟨j + 1, .consI rfl (by simp; omega) (by repeat (first | exact .nil rfl rfl | refine .cons rfl ?_)), ⟨by omega, _, en, by rw [e]; exact hO, hs.tail⟩, by omega⟩
    · refine .exit ?_
      refine xT (xT (xB (nB (nT ?_))))
      obtain rfl : j = ts.length - j0 := by omega
      rw [List.append_assoc, show cmpL s.sp ts s.cs j0 i ++ cmpL1 s.sp ts c j0 (ts.length - j0) = cmpL s.sp ts s.cs j0 (i + 1) by rw [← cmp0_of hx]; rfl] at hO
      exact .mk ⟨rfl, _, en, hO, hs.sub (by repeat (first | exact Sub.refl _ | constructor | apply Sub.weaken))⟩
  · rintro fr w ⟨rfl, vl, en, hO, hs⟩
    exact Fin.end0 Tryz.results117 ⟨H, vl, en, HLe.refl _, hO, hs⟩
end Go.Proofs.YtddaejgfjlneoaaGreat

namespace Go.Proofs.YtddaejgfjlneoaaGreat
open Go.MW
theorem maker_comparisons_spec {H : Heap} {w : World} {σ : List Ent} {s : Srv} {ts : List TD} {vst vwa vr vc vt vl : Value} {en : Ent} {bm : Nat} {ls : List Lim} (hs : St H w (.blk bm [I s.sp.id, I s.sp.src, vst, vwa, I s.sp.al, I s.sp.up, vr, vc, vt, vl] :: en :: σ)) (hk : MkK H s ts vst vwa vr vc vt) (hO : OwnS 4 vl (Lims ls) en) (hl : ls.length ≤ 10000) (hok : SpcOk s.sp) (htl : ts.length ≤ 100) (hcl : s.cs.length ≤ 20) (hc : ∀ c ∈ s.cs, CmpOk c) :
    Cl Tryz.prog 178 [.pointer (some ⟨bm, 0, none⟩)] w fun _ w' => ∃ H1 vl' en', HLe H H1 ∧ OwnS 4 vl' (Lims (ls ++ cmpL s.sp ts s.cs 0 s.cs.length)) en' ∧ St H1 w' (.blk bm [I s.sp.id, I s.sp.src, vst, vwa, I s.sp.al, I s.sp.up, vr, vc, vt, vl'] :: en' :: σ) := by
  refine Cl.of Tryz.func178 rfl Tryz.ntmps178 (by simp) (args_cons (k := 0) rfl (args0)) ?_
  refine .region (.z zm ?_)
  refine .o (.call Tryz.call117 rfl (maker_compares_spec (s := s) (ts := ts) (j0 := 0) hs hk hO hl hok htl hcl hc (by omega)) ?_); rintro _ w hs
  refine .nil ?_
  exact Fin.end0 Tryz.results178 hs
set_option maxHeartbeats 1000000 in
theorem maker_readings_spec {H : Heap} {w : World} {σ : List Ent} {s : Srv} {ts : List TD} {vst vwa vr vc vt vl : Value} {en : Ent} {bm : Nat} {ls : List Lim} (hs : St H w (.blk bm [I s.sp.id, I s.sp.src, vst, vwa, I s.sp.al, I s.sp.up, vr, vc, vt, vl] :: en :: σ)) (hk : MkK H s ts vst vwa vr vc vt) (hO : OwnS 4 vl (Lims ls) en) (hl : ls.length ≤ 10000) (hok : SpcOk s.sp) (htl : ts.length ≤ 100) (hrl : s.rs.length ≤ 60) (hr : ∀ r ∈ s.rs, RdgOk s.sp r) (hmem : ∀ r ∈ s.rs, r.td ∈ ts) :
    Cl Tryz.prog 179 [.pointer (some ⟨bm, 0, none⟩)] w fun _ w' => ∃ H1 vl' en', HLe H H1 ∧ OwnS 4 vl' (Lims (ls ++ rdgL s.sp ts s.rs s.rs.length)) en' ∧ St H1 w' (.blk bm [I s.sp.id, I s.sp.src, vst, vwa, I s.sp.al, I s.sp.up, vr, vc, vt, vl'] :: en' :: σ) := by
  have hsm := spc_small hok
  obtain ⟨at_, ct, rfl⟩ := RTd.shape hk.ts
  obtain ⟨ar, cr, rfl⟩ := RRd.shape hk.rs
  refine Cl.of Tryz.func179 rfl Tryz.ntmps179 (by simp) (args_cons (k := 0) rfl (args0)) ?_
  refine .regSeq (.z zm (.z znc (.z (zfa fa_offsets_maker_0) (.z (zfa fa_api_Survey_1) (.y hs (zld Tryz.isAgg35) (.z (zlen Tryz.runUnderlying35) (.z zm (.nil ?_))))))))
  refine .for (N := s.rs.length) (J := fun i fr w => fr = [(9, .slice ar s.rs.length cr), (0, .pointer (some ⟨bm, 0, none⟩))] ∧ ∃ vl en, OwnS 4 vl (Lims (ls ++ rdgL s.sp ts s.rs i)) en ∧ St H w (.blk bm [I s.sp.id, I s.sp.src, vst, vwa, I s.sp.al, I s.sp.up, .slice ar s.rs.length cr, vc, .slice at_ ts.length ct, vl] :: en :: σ)) (by omega) ?_ ?_ ?_
  · exact .mk ⟨rfl, vl, en, by show OwnS 4 vl (Lims (ls ++ [])) en; rw [List.append_nil]; exact hO, hs⟩
  · rintro i fr w hi ⟨rfl, vl, en, hO, hs⟩
    obtain ⟨r, hx⟩ := nth hi
    obtain ⟨g1, g2, g3, g4, g5, g6, g7⟩ := hr r (List.mem_of_getElem? hx)
    obtain ⟨k, k1, k2, k3⟩ := tdIdx_mem (hmem r (List.mem_of_getElem? hx))
    have hrl1 := rdgL_length s.sp ts s.rs i
    obtain ⟨al, ll, cl, rfl, hll⟩ := hO.shape
    refine .block (.regSeq ?_)
    refine .ixX (enc := Rdg.c) hs hk.rs rfl rfl Tryz.runUnderlying35 Tryz.sizeOf80 hx (by first | rfl | assumption | omega) ?_; intro b13 o13 hc13
    refine .q hs (q_loadsR (vs := (Rdg.c r)) rfl Tryz.isAgg80 Tryz.sizeOf80 hc13) ?_
    refine .o (.alloc hs Tryz.zeroValue80 rfl ?_); intro b3 w hs
    refine .o (.stores (vs := r.c) hs rfl rfl Tryz.sizeOf80 ?_); intro w hs
    change St _ _ (.blk b3 [I r.src, I r.st, I r.wa, I r.val, I r.tol, I r.tape, I r.day] :: _) at hs
    refine .nil ?_
    refine .seq (.draw mix rfl hs ?_); intro w hs
    refine .z 0 rfl zm ?_; refine .z 1 rfl znc ?_; refine .z 2 rfl (zfa fa_offsets_maker_1) ?_; refine .y 3 rfl hs Tryz.isAgg51 ?_; refine .ys 4 rfl hs [_, _, _, _, _, _, _] Tryz.isAgg80 Tryz.sizeOf80 ?_
    refine .e1 (i := 5) (by kernel_rfl) rfl rfl .none hs ?_
    refine .call Tryz.call114 rfl (offsets_tapeOf_spec hs) ?_; rintro _ w ⟨rfl, hs⟩
    refine .go ?_
    refine .e1 (i := 6) (by kernel_rfl) rfl rfl .none hs ?_
    refine .call Tryz.call89 rfl (slices_Index_td (t := r.td) hs hk.ts (by omega)) ?_; rintro _ w ⟨rfl, hs⟩
    refine .go ?_
    refine .z 7 rfl zg ?_; refine .done (by kernel_rfl) hs ?_
    refine .draw mix rfl hs ?_; intro w hs
    refine .z 0 rfl zm ?_; refine .z 1 rfl zm ?_; refine .z 2 rfl zm ?_; refine .z 4 rfl zm ?_; refine .z 5 rfl znc ?_; refine .z 6 rfl (zfa fa_offsets_maker_0) ?_; refine .z 7 rfl (zfa fa_api_Survey_0) ?_; refine .ys 8 rfl hs [_, _, _, _, _, _] Tryz.isAgg34 Tryz.sizeOf34 ?_; refine .z 9 rfl (zfa fa_api_Reading_1) ?_; refine .y 10 rfl hs Tryz.isAgg3 ?_
    refine .z 11 rfl (zfa fa_api_Reading_2) ?_; refine .y 12 rfl hs Tryz.isAgg3 ?_; refine .z 14 rfl (zfa fa_api_Reading_3) ?_; refine .y 15 rfl hs Tryz.isAgg3 ?_; refine .z 16 rfl (zfa fa_api_Reading_4) ?_; refine .y 17 rfl hs Tryz.isAgg3 ?_; refine .z 18 rfl zadd ?_; refine .z 19 rfl (zfa fa_api_Reading_4) ?_; refine .y 20 rfl hs Tryz.isAgg3 ?_; refine .z 21 rfl (zfa fa_api_Reading_3) ?_
    refine .y 22 rfl hs Tryz.isAgg3 ?_; refine .z 23 rfl zsub ?_; refine .z 24 rfl (zfa fa_api_Reading_0) ?_; refine .y 25 rfl hs Tryz.isAgg3 ?_
    refine .e1 (i := 3) (by kernel_rfl) rfl rfl .none hs ?_
    refine .call Tryz.call116 rfl (maker_tape_spec (s := s.sp) hs (.there .here) hk.st hk.wa ⟨by omega, by omega⟩ ⟨by omega, by omega⟩) ?_; rintro _ w ⟨rfl, hs⟩
    refine .go ?_
    refine .e1 (i := 13) (by kernel_rfl) rfl rfl .none hs ?_
    refine .call Tryz.call118 rfl (offsets_unknown_spec (s := s.sp) hs hk.wa (by omega) ⟨by omega, by omega⟩ ⟨by omega, by omega⟩) ?_; rintro _ w ⟨rfl, hs⟩
    refine .go ?_
    refine .e1 (i := 26) (by kernel_rfl) rfl rfl .none hs ?_
    refine .call Tryz.call115 rfl (maker_put_spec (ls := ls ++ rdgL s.sp ts s.rs i) (hs.sub (by repeat (first | exact Sub.refl _ | constructor | apply Sub.weaken)) : St H w (.blk bm _ :: en :: .blk b3 _ :: σ)) hO (by rw [List.length_append]; omega)) ?_; rintro _ w ⟨vl3, en3, hO3, hs⟩
    refine .go ?_
    refine .done (by kernel_rfl) hs ?_
    refine nB (nT ?_)
    rw [List.append_assoc, show rdgL s.sp ts s.rs i ++ two ((s.sp.many : Int) + 1 + tdIdx ts r.td) (1 + r.st * s.sp.wa.length + r.wa) (r.val + r.tol) (r.tol - r.val) r.src = rdgL s.sp ts s.rs (i + 1) by rw [← rdg0_of hx]; rfl] at hO3
    exact .mk ⟨rfl, vl3, en3, hO3, hs.sub (by repeat (first | exact Sub.refl _ | constructor | apply Sub.weaken))⟩
  · rintro fr w ⟨rfl, vl, en, hO, hs⟩
    exact Fin.end0 Tryz.results179 ⟨H, vl, en, HLe.refl _, hO, hs⟩
def fnK : Nat → Nat
  | 0 => 174
  | 1 => 175
  | 2 => 176
  | 3 => 177
  | 4 => 178
  | _ => 179
theorem fnK_call {k : Nat} (hk : k < 6) : ∀ args w, (callFunc (fnK k) args).run Tryz.prog w = .ok (.enter (fnK k) args) w := by
  have h : k = 0 ∨ k = 1 ∨ k = 2 ∨ k = 3 ∨ k = 4 ∨ k = 5 := by omega
  rcases h with rfl | rfl | rfl | rfl | rfl | rfl
  · exact Tryz.call174
  · exact Tryz.call175
  · exact Tryz.call176
  · exact Tryz.call177
  · exact Tryz.call178
  · exact Tryz.call179
theorem part_spec {H : Heap} {w : World} {σ : List Ent} {s : Srv} {vst vwa vr vc vt vl : Value} {en : Ent} {bm k : Nat} (hs : St H w (.blk bm [I s.sp.id, I s.sp.src, vst, vwa, I s.sp.al, I s.sp.up, vr, vc, vt, vl] :: en :: σ)) (hk : MkK H s s.tapes vst vwa vr vc vt) (hO : OwnS 4 vl (Lims (s.parts k)) en) (he : s.early) (hk6 : k < 6) :
    Cl Tryz.prog (fnK k) [.pointer (some ⟨bm, 0, none⟩)] w fun _ w' => ∃ H1 vl' en', HLe H H1 ∧ OwnS 4 vl' (Lims (s.parts (k + 1))) en' ∧ St H1 w' (.blk bm [I s.sp.id, I s.sp.src, vst, vwa, I s.sp.al, I s.sp.up, vr, vc, vt, vl'] :: en' :: σ) := by
  have hl := parts_length he k (by omega)
  obtain ⟨hok, h1, h2, h3, h4⟩ := he
  have htl : s.tapes.length ≤ 100 := by have := tapesOf_length s.rs; unfold Srv.tapes; omega
  have h : k = 0 ∨ k = 1 ∨ k = 2 ∨ k = 3 ∨ k = 4 ∨ k = 5 := by omega
  rcases h with rfl | rfl | rfl | rfl | rfl | rfl
  · exact maker_breadths_spec hs hk hO (Nat.le_trans hl (by decide)) hok
  · exact maker_along_spec hs hk hO (Nat.le_trans hl (by decide)) hok
  · exact maker_up_spec hs hk hO (Nat.le_trans hl (by decide)) hok
  · exact maker_errors_spec hs hk hO (Nat.le_trans hl (by decide)) hok htl
  · exact maker_comparisons_spec hs hk hO (Nat.le_trans hl (by decide)) hok htl h2 h4
  · exact maker_readings_spec hs hk hO (Nat.le_trans hl (by decide)) hok htl h1 h3 fun r hr => mem_tapesOf.2 ⟨r, hr, rfl⟩
def fnV (b : Nat) (k : Nat) : Value := .func (.func (fnK k)) #[.pointer (some ⟨b, 0, none⟩)] #[]
theorem fnV_get (b : Nat) {k : Nat} (hk : k < 6) : [fnV b 0, fnV b 1, fnV b 2, fnV b 3, fnV b 4, fnV b 5][k]? = some (fnV b k) := by
  have h : k = 0 ∨ k = 1 ∨ k = 2 ∨ k = 3 ∨ k = 4 ∨ k = 5 := by omega
  rcases h with rfl | rfl | rfl | rfl | rfl | rfl <;> rfl
set_option maxHeartbeats 1000000 in
theorem offsets_system_own {H : Heap} {w : World} {σ : List Ent} {s : Srv} {vst vwa vr vc : Value} (hs : St H w σ) (h1 : RI H vst s.sp.st) (h2 : RI H vwa s.sp.wa) (h3 : RRd H vr s.rs) (h4 : RCm H vc s.cs) (he : s.early) :
    Cl Tryz.prog 92 [.agg #[I s.sp.id, I s.sp.src, vst, vwa, I s.sp.al, I s.sp.up, vr, vc]] w fun u w' => ∃ H1 vl en, HLe H H1 ∧ u = .agg #[I s.sys.many, vl] ∧ OwnS 4 vl (Lims s.lims) en ∧ St H1 w' (en :: σ) := by
  have hsm := spc_small he.1
  have htl : s.tapes.length ≤ 60 := by have := tapesOf_length s.rs; have := he.2.1; unfold Srv.tapes; omega
  refine Cl.of Tryz.func92 rfl Tryz.ntmps92 (by simp) (args_cons (k := 0) rfl (args0)) ?_
  refine .regSeq ?_
  refine .o (.box hs rfl rfl ?_); intro b1 w hs
  refine .o (.alloc hs Tryz.zeroValue70 rfl ?_); intro b2 w hs
  refine .nil ?_
  refine .seq (.draw mix rfl hs ?_); intro w hs
  refine .ys 0 rfl hs [_, _, _, _, _, _, _, _] Tryz.isAgg38 Tryz.sizeOf38 ?_; refine .ys 1 rfl hs [_, _, _, _, _, _, _, _] Tryz.isAgg38 Tryz.sizeOf38 ?_
  refine .e1 (i := 2) (by kernel_rfl) rfl rfl .none hs ?_
  refine .call Tryz.call90 rfl (offsets_tapes_spec hs h3 (by have := he.2.1; omega)) ?_; rintro v8 w ⟨H1, hle1, hT, hs⟩
  obtain ⟨at_, ct, rfl⟩ := RTd.shape hT
  have hk0 : MkK H1 s s.tapes vst vwa vr vc (.slice at_ s.tapes.length ct) := ⟨h1.mono hle1, h2.mono hle1, h3.mono hle1, h4.mono hle1, hT⟩
  refine .go ?_
  refine .z 3 rfl (zbd (vs := [(0, .agg #[I s.sp.id, I s.sp.src, vst, vwa, I s.sp.al, I s.sp.up, vr, vc]), (1, .slice at_ s.tapes.length ct)]) [I s.sp.id, I s.sp.src, vst, vwa, I s.sp.al, I s.sp.up, vr, vc, .slice at_ s.tapes.length ct, .slice none 0 0] bld_offsets_maker rfl (by kernel_rfl)) ?_
  refine .e1 (i := 4) (by kernel_rfl) rfl rfl .none hs ?_
  refine .box hs rfl rfl ?_; intro b10 w hs
  refine .go ?_
  refine .z 5 rfl zg ?_; refine .done (by kernel_rfl) hs ?_
  refine .seq (.regSeq (.z zm ?_))
  refine .q hs (q_makeFunc (f := [_]) (c := []) rfl rfl) ?_
  refine .z zm ?_
  refine .q hs (q_makeFunc (f := [_]) (c := []) rfl rfl) ?_
  refine .z zm ?_
  refine .q hs (q_makeFunc (f := [_]) (c := []) rfl rfl) ?_
  refine .z zm ?_
  refine .q hs (q_makeFunc (f := [_]) (c := []) rfl rfl) ?_
  refine .z zm ?_
  refine .q hs (q_makeFunc (f := [_]) (c := []) rfl rfl) ?_
  refine .z zm ?_
  refine .q hs (q_makeFunc (f := [_]) (c := []) rfl rfl) ?_
  refine .o (.buildSlice (cells := [fnV b10 0, fnV b10 1, fnV b10 2, fnV b10 3, fnV b10 4, fnV b10 5]) hs bls_sl_func_6 rfl (by kernel_rfl) ?_); intro b23 w hs
  refine .z (zlen Tryz.runUnderlying223) ?_
  refine .z zm (.nil ?_)
  refine .for (N := 6) (J := fun k fr w => fr = [(23, .slice (some ⟨b23, 0, none⟩) 6 6), (3, .pointer (some ⟨b10, 0, none⟩)), (2, .pointer (some ⟨b2, 0, none⟩)), (1, .pointer (some ⟨b1, 0, none⟩))] ∧ ∃ H2 vl en, HLe H1 H2 ∧ OwnS 4 vl (Lims (s.parts k)) en ∧ St H2 w (.blk b10 [I s.sp.id, I s.sp.src, vst, vwa, I s.sp.al, I s.sp.up, vr, vc, .slice at_ s.tapes.length ct, vl] :: en :: .blk b23 [fnV b10 0, fnV b10 1, fnV b10 2, fnV b10 3, fnV b10 4, fnV b10 5] :: .blk b2 [I 0, .slice none 0 0] :: .blk b1 [I s.sp.id, I s.sp.src, vst, vwa, I s.sp.al, I s.sp.up, vr, vc] :: σ)) (by omega) ?_ ?_ ?_
  · exact .mk ⟨rfl, H1, .slice none 0 0, .nul, HLe.refl _, .nil 4 none, hs.nul.sub (by repeat (first | exact Sub.refl _ | constructor | apply Sub.weaken))⟩
  · rintro k fr w hk ⟨rfl, H2, vl, en, hle2, hO, hs⟩
    refine .block (.regSeq ?_)
    refine .z (zix Tryz.runUnderlying223 Tryz.sizeOf1) ?_
    refine .q hs (q_load rfl Tryz.isAgg1 (hv := fnV_get b10 hk)) ?_
    refine .z zg (.nil (.region (.z zm ?_)))
    refine .o (.callG (first := [.pointer (some ⟨b10, 0, none⟩)]) (cap := []) rfl rfl (fnK_call hk) (part_spec hs (hk0.mono hle2) hO he hk) ?_); rintro _ w ⟨H3, vl3, en3, hle3, hO3, hs⟩
    refine .nil ?_
    refine nB (nT ?_)
    exact .mk ⟨rfl, H3, vl3, en3, hle2.trans hle3, hO3, hs⟩
  · rintro fr w ⟨rfl, H2, vl, en, hle2, hO, hs⟩
    rw [s.parts_6] at hO
    obtain ⟨al, ll, cl, rfl, hll⟩ := hO.shape
    refine nT ?_
    refine .seq (.draw mix rfl hs ?_); intro w hs
    refine .z 0 rfl (zfa fa_api_Survey_0) ?_; refine .ys 1 rfl hs [_, _, _, _, _, _] Tryz.isAgg34 Tryz.sizeOf34 ?_; refine .z 3 rfl zm ?_; refine .z 4 rfl znc ?_; refine .z 5 rfl (zfa fa_offsets_maker_1) ?_; refine .y 6 rfl hs Tryz.isAgg51 ?_; refine .z 7 rfl (zlen Tryz.runUnderlying51) ?_; refine .z 9 rfl zm ?_; refine .z 10 rfl znc ?_; refine .z 11 rfl (zfa fa_offsets_maker_2) ?_
    refine .y 12 rfl hs Tryz.isAgg68 ?_
    refine .e1 (i := 2) (by kernel_rfl) rfl rfl .none hs ?_
    refine .call Tryz.call91 rfl (offsets_many_spec (s := s.sp) hs (h1.mono (hle1.trans hle2)) (h2.mono (hle1.trans hle2)) ⟨by omega, by omega⟩) ?_; rintro _ w ⟨rfl, hs⟩
    refine .go ?_
    refine .z 8 rfl zadd ?_; refine .z 13 rfl (zbd [_, _] bld_api_System) ?_
    refine .e1 (i := 14) (by kernel_rfl) rfl rfl .none hs ?_
    refine .stores (vs := [_, _]) hs rfl rfl Tryz.sizeOf70 ?_; intro w hs
    refine .go ?_
    refine .done (by kernel_rfl) hs ?_
    refine .ret ?_
    replace hs : St H2 w (.blk b2 [I ((s.sp.many : Int) + (s.tapes.length : Int)), .slice al ll cl] :: en :: σ) := hs.sub (by repeat (first | exact Sub.refl _ | constructor | apply Sub.weaken))
    exact Fin.retD [] [] hs fun w hs => ⟨_, results1 Tryz.results92 (rcells (vs := [_, _]) hs rfl Tryz.isAgg70 Tryz.sizeOf70), H2, _, en, hle1.trans hle2, by show _ = Value.agg #[I ((s.sp.many + s.tapes.length : Nat) : Int), _]; rw [Int.natCast_add], hO, hs.tail⟩
theorem offsets_system_spec {H : Heap} {w : World} {σ : List Ent} {s : Srv} {vst vwa vr vc : Value} (hs : St H w σ) (h1 : RI H vst s.sp.st) (h2 : RI H vwa s.sp.wa) (h3 : RRd H vr s.rs) (h4 : RCm H vc s.cs) (he : s.early) :
    Cl Tryz.prog 92 [.agg #[I s.sp.id, I s.sp.src, vst, vwa, I s.sp.al, I s.sp.up, vr, vc]] w fun u w' => ∃ H1, HLe H H1 ∧ RSy H1 u s.sys ∧ St H1 w' σ := by
  refine (offsets_system_own hs h1 h2 h3 h4 he).mono ?_
  rintro u w' ⟨H1, vl, en, hle, rfl, hO, hs⟩
  have hl := parts_length he 6 (by omega)
  rw [s.parts_6] at hl
  obtain ⟨H2, hle2, hR, hs⟩ := OwnS.publish (m := 4) (cs := s.lims.map Lim.c) hO (fun c hc => by simp only [List.mem_map] at hc; obtain ⟨x, _, rfl⟩ := hc; rfl) (by omega) (by rw [List.length_map]; omega) hs .here
  exact ⟨H2, hle.trans hle2, ⟨vl, rfl, hR⟩, hs⟩
set_option maxHeartbeats 1000000 in
theorem offsets_Check_spec {H : Heap} {w : World} {σ : List Ent} {s : Srv} {vst vwa vr vc : Value} (hs : St H w σ) (h1 : RI H vst s.sp.st) (h2 : RI H vwa s.sp.wa) (h3 : RRd H vr s.rs) (h4 : RCm H vc s.cs) :
    Cl Tryz.prog 42 [.agg #[I s.sp.id, I s.sp.src, vst, vwa, I s.sp.al, I s.sp.up, vr, vc]] w fun u w' => ∃ H1 e, HLe H H1 ∧ u = I e ∧ SrvR s e ∧ St H1 w' σ := by
  obtain ⟨ast, cst, rfl⟩ := RI.shape h1
  obtain ⟨awa, cwa, rfl⟩ := RI.shape h2
  obtain ⟨ar, cr, rfl⟩ := RRd.shape h3
  obtain ⟨ac, cc, rfl⟩ := RCm.shape h4
  refine Cl.of Tryz.func42 rfl Tryz.ntmps42 (by simp) (args_cons (k := 0) rfl (args0)) ?_
  refine .regSeq ?_
  refine .o (.box hs rfl rfl ?_); intro b1 w hs
  refine .z zg (.nil (.seq (.regSeq (.z (zfa fa_api_Survey_0) (.y hs (zls [_, _, _, _, _, _] Tryz.isAgg34 Tryz.sizeOf34) ?_)))))
  refine .o (.call Tryz.call41 rfl (offsets_CheckSpace_spec (s := s.sp) hs h1 h2) ?_); rintro _ w ⟨H1, e, hle1, rfl, he, hs⟩
  refine .z zg (.nil (.regSeq (.z zm (.z zneq (.nil ?_)))))
  refine (.condN rfl (fun hc13 => ?_) (fun hc13 => ?_))
  · refine .regSeq (.z zm (.z zg (.nil ?_)))
    refine .ret (rT (Fin.ret1 Tryz.results42 rfl ?_))
    have hq : ¬ SpcOk s.sp ∧ e = 30 := he.resolve_left fun h => hc13 h.2
    exact ⟨H1, _, hle1, rfl, by rw [hq.2]; exact .space hq.1, hs.out⟩
  · refine .skip ?_
    refine nT ?_
    refine .seq (.regSeq (.z (zfa fa_api_Survey_1) ?_))
    have hok : SpcOk s.sp := (he.resolve_right fun h => by omega).1
    refine .y hs (zld Tryz.isAgg35) (.z (zlen Tryz.runUnderlying35) (.z zgtr (.z zm ?_)))
    refine .bifD (t' := 19) rfl (fun hb19 => ?_) (fun hb19 => ?_)
    · refine .gFs 4 4 false rfl rfl rfl ?_
      refine .z zpT (.nil ?_)
      refine (.condT rfl rfl ?_)
      refine .regSeq (.z zg (.nil ?_))
      refine .ret (rT (Fin.ret1 Tryz.results42 rfl ?_))
      exact ⟨H1, _, hle1, rfl, .long hok (by omega), hs.out⟩
    · refine .gT rfl rfl ?_
      refine .z (zfa fa_api_Survey_2) ?_
      refine .gT rfl rfl ?_
      refine .y hs (zld Tryz.isAgg36) ?_
      refine .gT rfl rfl ?_
      refine .z (zlen Tryz.runUnderlying36) ?_
      refine .gT rfl rfl ?_
      refine .z zgtr (.z zpF (.nil ?_))
      refine (.condD rfl (fun hc24 => ?_) (fun hc24 => ?_))
      · refine .regSeq (.z zg (.nil ?_))
        refine .ret (rT (Fin.ret1 Tryz.results42 rfl ?_))
        exact ⟨H1, _, hle1, rfl, .long hok (by omega), hs.out⟩
      · refine .skip ?_
        refine nT ?_
        refine .seq (.regSeq (.z (zfa fa_api_Survey_1) (.y hs (zld Tryz.isAgg35) (.z (zlen Tryz.runUnderlying35) (.z zm (.nil ?_))))))
        refine .for (N := s.rs.length) (J := fun k fr w => fr = [(26, .slice ar s.rs.length cr), (1, .pointer (some ⟨b1, 0, none⟩))] ∧ (∀ j < k, ∀ y, s.rs[j]? = some y → RdgOk s.sp y) ∧ St H1 w (.blk b1 [I s.sp.id, I s.sp.src, .slice ast s.sp.st.length cst, .slice awa s.sp.wa.length cwa, I s.sp.al, I s.sp.up, .slice ar s.rs.length cr, .slice ac s.cs.length cc] :: σ)) (by omega) ?_ ?_ ?_
        · exact .mk ⟨rfl, fun j hj => by omega, hs⟩
        · rintro k fr w hk ⟨rfl, hno, hs⟩
          obtain ⟨r, hx⟩ := nth hk
          refine .block (.regSeq ?_)
          refine .ixX (enc := Rdg.c) hs (h3.mono hle1) rfl rfl Tryz.runUnderlying35 Tryz.sizeOf80 hx (by first | rfl | assumption | omega) ?_; intro b30 o30 hc30
          refine .q hs (q_loadsR (vs := (Rdg.c r)) rfl Tryz.isAgg80 Tryz.sizeOf80 hc30) ?_
          refine .o (.alloc hs Tryz.zeroValue80 rfl ?_); intro b5 w hs
          refine .o (.stores (vs := r.c) hs rfl rfl Tryz.sizeOf80 ?_); intro w hs
          change St _ _ (.blk b5 [I r.src, I r.st, I r.wa, I r.val, I r.tol, I r.tape, I r.day] :: _) at hs
          refine .nil (.regSeq (.z (zfa fa_api_Survey_0) (.y hs (zls [_, _, _, _, _, _] Tryz.isAgg34 Tryz.sizeOf34) (.y hs (zls [_, _, _, _, _, _, _] Tryz.isAgg80 Tryz.sizeOf80) ?_))))
          refine .o (.call Tryz.call107 rfl (offsets_isReading_spec (s := s.sp) (r := r) hs (h1.mono hle1) (h2.mono hle1)) ?_); rintro _ w ⟨b35, rfl, hb35, hs⟩
          refine .z znot (.nil ?_)
          refine (.cond rfl (fun hc36 => ?_) (fun hc36 => ?_))
          · refine .regSeq (.z zg (.nil ?_))
            refine .ret (rB (rT (rB (rT (Fin.ret1 Tryz.results42 rfl ?_)))))
            exact ⟨H1, _, hle1, rfl, .rdg hok (by omega) (fun h => by rw [hb35.2 (h r (List.mem_of_getElem? hx))] at hc36; cases hc36), hs.out⟩
          · refine .skip ?_
            refine nB (nT ?_)
            exact .mk ⟨rfl, upto_succ hno hx (hb35.1 (by simpa using hc36)), hs.tail⟩
        · rintro fr w ⟨rfl, hno, hs⟩
          have hrs : ∀ r ∈ s.rs, RdgOk s.sp r := fun r hr => by
            obtain ⟨j, hj⟩ := List.getElem?_of_mem hr
            exact hno j (List.getElem?_eq_some_iff.1 hj).1 r hj
          clear hno
          refine nT ?_
          refine .seq (.regSeq (.z (zfa fa_api_Survey_2) (.y hs (zld Tryz.isAgg36) (.z (zlen Tryz.runUnderlying36) (.z zm (.nil ?_))))))
          refine .for (N := s.cs.length) (J := fun k fr w => fr = [(39, .slice ac s.cs.length cc), (1, .pointer (some ⟨b1, 0, none⟩))] ∧ (∀ j < k, ∀ y, s.cs[j]? = some y → CmpOk y) ∧ St H1 w (.blk b1 [I s.sp.id, I s.sp.src, .slice ast s.sp.st.length cst, .slice awa s.sp.wa.length cwa, I s.sp.al, I s.sp.up, .slice ar s.rs.length cr, .slice ac s.cs.length cc] :: σ)) (by omega) ?_ ?_ ?_
          · exact .mk ⟨rfl, fun j hj => by omega, hs⟩
          · rintro k fr w hk ⟨rfl, hno, hs⟩
            obtain ⟨c, hx⟩ := nth hk
            refine .block (.regSeq ?_)
            refine .ixX (enc := Cmp.c) hs (h4.mono hle1) rfl rfl Tryz.runUnderlying36 Tryz.sizeOf108 hx (by first | rfl | assumption | omega) ?_; intro b43 o43 hc43
            refine .q hs (q_loadsR (vs := (Cmp.c c)) rfl Tryz.isAgg108 Tryz.sizeOf108 hc43) ?_
            refine .o (.alloc hs Tryz.zeroValue108 rfl ?_); intro b7 w hs
            refine .o (.stores (vs := c.c) hs rfl rfl Tryz.sizeOf108 ?_); intro w hs
            change St _ _ (.blk b7 [I c.src, I c.tape, I c.fr, I c.to, I c.lo, I c.hi] :: _) at hs
            refine .nil (.regSeq (.y hs (zls [_, _, _, _, _, _] Tryz.isAgg108 Tryz.sizeOf108) ?_))
            refine .o (.call Tryz.call108 rfl (offsets_isCompare_spec (c := c) hs) ?_); rintro _ w ⟨b46, rfl, hb46, hs⟩
            refine .z znot (.nil ?_)
            refine (.cond rfl (fun hc47 => ?_) (fun hc47 => ?_))
            · refine .regSeq (.z zg (.nil ?_))
              refine .ret (rB (rT (rB (rT (Fin.ret1 Tryz.results42 rfl ?_)))))
              exact ⟨H1, _, hle1, rfl, .cmp hok (by omega) hrs (fun h => by rw [hb46.2 (h c (List.mem_of_getElem? hx))] at hc47; cases hc47), hs.out⟩
            · refine .skip ?_
              refine nB (nT ?_)
              exact .mk ⟨rfl, upto_succ hno hx (hb46.1 (by simpa using hc47)), hs.tail⟩
          · rintro fr w ⟨rfl, hno, hs⟩
            have hcs : ∀ c ∈ s.cs, CmpOk c := fun c hc => by
              obtain ⟨j, hj⟩ := List.getElem?_of_mem hc
              exact hno j (List.getElem?_eq_some_iff.1 hj).1 c hj
            have hea : s.early := ⟨hok, by omega, by omega, hrs, hcs⟩
            have hsm := spc_small hok
            have htl : s.tapes.length ≤ 60 := by have := tapesOf_length s.rs; have := hea.2.1; unfold Srv.tapes; omega
            have hll := parts_length hea 6 (by omega)
            rw [s.parts_6] at hll
            have hsm2 : s.sys.many = ((s.sp.many + s.tapes.length : Nat) : Int) := rfl
            refine nT ?_
            refine .seq (.regSeq (.y hs (zls [_, _, _, _, _, _, _, _] Tryz.isAgg38 Tryz.sizeOf38) ?_))
            refine .o (.call Tryz.call92 rfl (offsets_system_spec (s := s) hs (h1.mono hle1) (h2.mono hle1) (h3.mono hle1) (h4.mono hle1) hea) ?_); rintro _ w ⟨H2, hle2, ⟨ul, rfl, hL⟩, hs⟩
            obtain ⟨al, cl, rfl⟩ := RL.shape hL
            have hsl : s.sys.lims.length = s.lims.length := rfl
            refine .o (.alloc hs Tryz.zeroValue70 rfl ?_); intro b8 w hs
            refine .o (.stores (vs := [_, _]) hs rfl rfl Tryz.sizeOf70 ?_); intro w hs
            refine .nil (.regSeq (.z (zfa fa_api_System_0) (.y hs (zld Tryz.isAgg3) (.z zgtr (.z zm ?_)))))
            refine .bifD (t' := 54) rfl (fun hb54 => ?_) (fun hb54 => ?_)
            · refine .gFs 4 3 false rfl rfl rfl ?_
              refine .z zpT (.nil ?_)
              refine (.condT rfl rfl ?_)
              refine .regSeq (.z zg (.nil ?_))
              refine .ret (rT (Fin.ret1 Tryz.results42 rfl ?_))
              exact ⟨H2, _, hle1.trans hle2, rfl, .big hea (by omega), hs.out⟩
            · refine .gT rfl rfl ?_
              refine .z (zfa fa_api_System_1) ?_
              refine .gT rfl rfl ?_
              refine .y hs (zld Tryz.isAgg68) ?_
              refine .gT rfl rfl ?_
              refine .z (zlen Tryz.runUnderlying68) ?_
              refine .gT rfl rfl ?_
              refine .z zgtr (.z zpF (.nil ?_))
              refine (.condD rfl (fun hc59 => ?_) (fun hc59 => ?_))
              · refine .regSeq (.z zg (.nil ?_))
                refine .ret (rT (Fin.ret1 Tryz.results42 rfl ?_))
                exact ⟨H2, _, hle1.trans hle2, rfl, .big hea (by omega), hs.out⟩
              · refine .skip ?_
                refine nT ?_
                refine .regSeq (.z zg (.nil ?_))
                refine .ret (Fin.ret1 Tryz.results42 rfl ?_)
                exact ⟨H2, _, hle1.trans hle2, rfl, .ok hea ⟨by omega, by omega⟩, hs.out⟩
end Go.Proofs.YtddaejgfjlneoaaGreat

namespace Go.Proofs.YtddaejgfjlneoaaGreat
open Go.MW
theorem ref03_In_spec {H : Heap} {w : World} {σ : List Ent} {a0 a1 a2 : Int} (hs : St H w σ) : Cl Tryz.prog 83 [I a0, I a1, I a2] w fun v w' => v = .bool (decide (a1 ≤ a0 ∧ a0 ≤ a2)) ∧ St H w' σ := by
  refine Cl.of Tryz.func83 rfl Tryz.ntmps83 (by simp) (args_cons (k := 0) rfl (args_cons (k := 1) rfl (args_cons (k := 2) rfl (args0)))) ?_
  refine .regSeq (.z zg (.nil (.regSeq (.z zm (.z zm (.z zgeq (.z zm ?_)))))))
  refine .bifD (t' := 10) rfl (fun hb10 => ?_) (fun hb10 => ?_)
  · refine .gT rfl rfl ?_
    refine .z zm ?_
    refine .gT rfl rfl ?_
    refine .z zm ?_
    refine .gT rfl rfl ?_
    refine .z zleq (.z zpT (.z zg (.nil ?_)))
    refine .ret (Fin.ret1 Tryz.results83 rfl ?_)
    exact ⟨by simp [*], hs.out⟩
  · refine .gFs 3 3 true rfl rfl rfl ?_
    refine .z zpF (.z zg (.nil ?_))
    refine .ret (Fin.ret1 Tryz.results83 rfl ?_)
    exact ⟨by simp [*], hs.out⟩
theorem spc_of {s : Spc} (h1 : PlcOk 9 100000 s.st) (h2 : PlcOk 9 100000 s.wa) (h3 : s.wa.length ≤ 7) (h4 : gi s.wa (s.wa.length - 1) ≤ 15000) (h5 : 1 ≤ s.id ∧ s.id ≤ 99999) (h6 : 1 ≤ s.src ∧ s.src ≤ 99999) (h7 : 0 ≤ s.al ∧ s.al ≤ 100000) (h8 : 0 ≤ s.up ∧ s.up ≤ 100000) : SpcOk s :=
  ⟨h1, ⟨h2.two, h3, h2.low, h4, h2.rise⟩, h5, h6, h7, h8⟩
theorem spc_wa9 {s : Spc} (h : SpcOk s) : PlcOk 9 100000 s.wa := ⟨h.wa.two, by have := h.wa.many; omega, h.wa.low, by have := h.wa.high; omega, h.wa.rise⟩
theorem ref03_CheckSpace_spec {H : Heap} {w : World} {σ : List Ent} {s : Spc} {vst vwa : Value} (hs : St H w σ) (h1 : RI H vst s.st) (h2 : RI H vwa s.wa) :
    Cl Tryz.prog 24 [.agg #[I s.id, I s.src, vst, vwa, I s.al, I s.up]] w fun v w' => ∃ e, v = I e ∧ ((SpcOk s ∧ e = 0) ∨ (¬ SpcOk s ∧ e = 30)) ∧ St H w' σ := by
  obtain ⟨ast, cst, rfl⟩ := RI.shape h1
  obtain ⟨awa, cwa, rfl⟩ := RI.shape h2
  have l2 := (RI.len h2).2.2
  refine Cl.of Tryz.func24 rfl Tryz.ntmps24 (by simp) (args_cons (k := 0) rfl (args0)) ?_
  refine .regSeq ?_
  refine .o (.box hs rfl rfl ?_); intro b1 w hs
  refine .z zg (.nil (.seq (.regSeq (.z (zfa fa_api_Space_0) (.y hs (zld Tryz.isAgg3) ?_)))))
  refine .o (.call Tryz.call83 rfl (ref03_In_spec hs) ?_); rintro _ w ⟨rfl, hs⟩
  refine .z znot (.z zm ?_)
  refine .bif (t' := 7) rfl (fun hb7 => ?_) (fun hb7 => ?_)
  · refine .gFs 4 4 false rfl rfl rfl ?_
    refine .z zpT (.z zm ?_)
    refine .gFs 5 10 false rfl rfl rfl ?_
    refine .z zpT (.z zm ?_)
    refine .gFs 5 17 false rfl rfl rfl ?_
    refine .z zpT (.nil ?_)
    refine (.condT rfl rfl ?_)
    refine .regSeq (.z zg (.nil ?_))
    refine .ret (rT (Fin.ret1 Tryz.results24 rfl ?_))
    exact ⟨_, rfl, .inr ⟨fun h => by have := h.id; simp_all, rfl⟩, hs.out⟩
  · refine .gT rfl rfl ?_
    refine .z (zfa fa_api_Space_1) ?_
    refine .gT rfl rfl ?_
    refine .y hs (zld Tryz.isAgg3) ?_
    refine .gT rfl rfl ?_
    refine .o (.call Tryz.call83 rfl (ref03_In_spec hs) ?_); rintro _ w ⟨rfl, hs⟩
    refine .gT rfl rfl ?_
    refine .z znot (.z zpF (.z zm ?_))
    refine .bif (t' := 13) rfl (fun hb13 => ?_) (fun hb13 => ?_)
    · refine .gFs 5 10 false rfl rfl rfl ?_
      refine .z zpT (.z zm ?_)
      refine .gFs 5 17 false rfl rfl rfl ?_
      refine .z zpT (.nil ?_)
      refine (.condT rfl rfl ?_)
      refine .regSeq (.z zg (.nil ?_))
      refine .ret (rT (Fin.ret1 Tryz.results24 rfl ?_))
      exact ⟨_, rfl, .inr ⟨fun h => by have := h.src; simp_all, rfl⟩, hs.out⟩
    · refine .gT rfl rfl ?_
      refine .z (zfa fa_api_Space_4) ?_
      refine .gT rfl rfl ?_
      refine .z (zfa fa_api_Fair_0) ?_
      refine .gT rfl rfl ?_
      refine .y hs (zld Tryz.isAgg3) ?_
      refine .gT rfl rfl ?_
      refine .o (.call Tryz.call83 rfl (ref03_In_spec hs) ?_); rintro _ w ⟨rfl, hs⟩
      refine .gT rfl rfl ?_
      refine .z znot (.z zpF (.z zm ?_))
      refine .bif (t' := 20) rfl (fun hb20 => ?_) (fun hb20 => ?_)
      · refine .gFs 5 17 false rfl rfl rfl ?_
        refine .z zpT (.nil ?_)
        refine (.condT rfl rfl ?_)
        refine .regSeq (.z zg (.nil ?_))
        refine .ret (rT (Fin.ret1 Tryz.results24 rfl ?_))
        exact ⟨_, rfl, .inr ⟨fun h => by have := h.al; simp_all, rfl⟩, hs.out⟩
      · refine .gT rfl rfl ?_
        refine .z (zfa fa_api_Space_4) ?_
        refine .gT rfl rfl ?_
        refine .z (zfa fa_api_Fair_1) ?_
        refine .gT rfl rfl ?_
        refine .y hs (zld Tryz.isAgg3) ?_
        refine .gT rfl rfl ?_
        refine .o (.call Tryz.call83 rfl (ref03_In_spec hs) ?_); rintro _ w ⟨rfl, hs⟩
        refine .gT rfl rfl ?_
        refine .z znot (.z zpF (.nil ?_))
        refine (.cond rfl (fun hc26 => ?_) (fun hc26 => ?_))
        · refine .regSeq (.z zg (.nil ?_))
          refine .ret (rT (Fin.ret1 Tryz.results24 rfl ?_))
          exact ⟨_, rfl, .inr ⟨fun h => by have := h.up; simp_all, rfl⟩, hs.out⟩
        · refine .skip ?_
          refine nT ?_
          refine .seq (.regSeq (.z (zfa fa_api_Space_2) (.y hs (zld Tryz.isAgg22) ?_)))
          refine .o (.call Tryz.call84 rfl (ref01_CheckPlaces_spec hs h1) ?_); rintro _ w ⟨e1, rfl, he1, hs⟩
          refine .z zneq (.z zm ?_)
          refine .bifN (t' := 31) rfl (fun hb31 => ?_) (fun hb31 => ?_)
          · refine .gFs 4 4 false rfl rfl rfl ?_
            refine .z zpT (.z zm ?_)
            refine .gFs 4 10 false rfl rfl rfl ?_
            refine .z zpT (.z zm ?_)
            refine .gFs 9 16 false rfl rfl rfl ?_
            refine .z zpT (.nil ?_)
            refine (.condT rfl rfl ?_)
            refine .regSeq (.z zg (.nil ?_))
            refine .ret (rT (Fin.ret1 Tryz.results24 rfl ?_))
            exact ⟨_, rfl, .inr ⟨fun h => hb31 (he1.elim (fun g => g.2) fun g => (g.1 h.st).elim), rfl⟩, hs.out⟩
          · refine .gT rfl rfl ?_
            refine .z (zfa fa_api_Space_3) ?_
            refine .gT rfl rfl ?_
            refine .y hs (zld Tryz.isAgg22) ?_
            refine .gT rfl rfl ?_
            refine .o (.call Tryz.call84 rfl (ref01_CheckPlaces_spec hs h2) ?_); rintro _ w ⟨e2, rfl, he2, hs⟩
            refine .gT rfl rfl ?_
            refine .z zneq (.z zpF (.z zm ?_))
            refine .bifN (t' := 37) rfl (fun hb37 => ?_) (fun hb37 => ?_)
            · refine .gFs 4 10 false rfl rfl rfl ?_
              refine .z zpT (.z zm ?_)
              refine .gFs 9 16 false rfl rfl rfl ?_
              refine .z zpT (.nil ?_)
              refine (.condT rfl rfl ?_)
              refine .regSeq (.z zg (.nil ?_))
              refine .ret (rT (Fin.ret1 Tryz.results24 rfl ?_))
              exact ⟨_, rfl, .inr ⟨fun h => hb37 (he2.elim (fun g => g.2) fun g => (g.1 (spc_wa9 h)).elim), rfl⟩, hs.out⟩
            · refine .gT rfl rfl ?_
              refine .z (zfa fa_api_Space_3) ?_
              refine .gT rfl rfl ?_
              have hw : PlcOk 9 100000 s.wa := he2.elim (fun g => g.1) fun g => (g.2 (by omega)).elim
              have hw2 := hw.two
              refine .y hs (zld Tryz.isAgg22) ?_
              refine .gT rfl rfl ?_
              refine .z (zlen Tryz.runUnderlying22) ?_
              refine .gT rfl rfl ?_
              refine .z zgtr (.z zpF (.z zm ?_))
              refine .bifD (t' := 43) rfl (fun hb43 => ?_) (fun hb43 => ?_)
              · refine .gFs 9 16 false rfl rfl rfl ?_
                refine .z zpT (.nil ?_)
                refine (.condT rfl rfl ?_)
                refine .regSeq (.z zg (.nil ?_))
                refine .ret (rT (Fin.ret1 Tryz.results24 rfl ?_))
                exact ⟨_, rfl, .inr ⟨fun h => by have := h.wa.many; omega, rfl⟩, hs.out⟩
              · refine .gT rfl rfl ?_
                refine .z (zfa fa_api_Space_3) ?_
                refine .gT rfl rfl ?_
                refine .y hs (zld Tryz.isAgg22) ?_
                refine .gT rfl rfl ?_
                refine .z (zfa fa_api_Space_3) ?_
                refine .gT rfl rfl ?_
                refine .y hs (zld Tryz.isAgg22) ?_
                refine .gT rfl rfl ?_
                refine .z (zlen Tryz.runUnderlying22) ?_
                refine .gT rfl rfl ?_
                refine .z zsub ?_
                refine .gT rfl rfl ?_
                refine .ixY hs h2 rfl rfl Tryz.runUnderlying22 Tryz.sizeOf3 (gi_get (l := s.wa) (i := (s.wa.length-1)) (by omega)) (by first | rfl | assumption | omega) ?_; intro b50 o50 hc50
                refine .gT rfl rfl ?_
                refine .q hs (q_loadR rfl Tryz.isAgg3 hc50) ?_
                refine .gT rfl rfl ?_
                refine .z zgtr (.z zpF (.nil ?_))
                refine (.condD rfl (fun hc53 => ?_) (fun hc53 => ?_))
                · refine .regSeq (.z zg (.nil ?_))
                  refine .ret (rT (Fin.ret1 Tryz.results24 rfl ?_))
                  exact ⟨_, rfl, .inr ⟨fun h => by have := h.wa.high; omega, rfl⟩, hs.out⟩
                · refine .skip ?_
                  refine nT ?_
                  refine .regSeq (.z zg (.nil ?_))
                  refine .ret (Fin.ret1 Tryz.results24 rfl ?_)
                  exact ⟨_, rfl, .inl ⟨spc_of (he1.elim (fun g => g.1) fun g => (g.2 (by omega)).elim) hw (by omega) (by omega) (by simp_all) (by simp_all) (by simp_all) (by simp_all), rfl⟩, hs.out⟩
theorem ref03_offsets_spec {H : Heap} {w : World} {σ : List Ent} {s : Spc} {vst vwa : Value} (hs : St H w σ) (h1 : RI H vst s.st) (h2 : RI H vwa s.wa) (hb : s.st.length ≤ 1000 ∧ s.wa.length ≤ 1000) :
    Cl Tryz.prog 97 [.agg #[I s.id, I s.src, vst, vwa, I s.al, I s.up]] w fun v w' => v = I (s.many : Int) ∧ St H w' σ := by
  obtain ⟨ast, cst, rfl⟩ := RI.shape h1
  obtain ⟨awa, cwa, rfl⟩ := RI.shape h2
  have hm := mul_bd (a := (s.st.length : Int)) (b := (s.wa.length : Int)) (A := 1000) (B := 1000) (by omega) (by omega)
  refine Cl.of Tryz.func97 rfl Tryz.ntmps97 (by simp) (args_cons (k := 0) rfl (args0)) ?_
  refine .regSeq ?_
  refine .o (.box hs rfl rfl ?_); intro b1 w hs
  refine .z zg (.nil (.regSeq (.z (zfa fa_api_Space_2) (.y hs (zld Tryz.isAgg22) (.z (zlen Tryz.runUnderlying22) (.z (zfa fa_api_Space_3) (.y hs (zld Tryz.isAgg22) (.z (zlen Tryz.runUnderlying22) (.z zmul ?_)))))))))
  refine .z zg (.nil ?_)
  refine .ret (Fin.ret1 Tryz.results97 rfl ?_)
  exact ⟨by unfold Spc.many; rw [Int.natCast_mul], hs.out⟩
theorem ref03_number_spec {H : Heap} {w : World} {σ : List Ent} {s : Spc} {vst vwa : Value} {a b : Int} (hs : St H w σ) (h2 : RI H vwa s.wa) (hb : s.wa.length ≤ 1000) (ha : -1000 ≤ a ∧ a ≤ 1000) (hb' : -1000 ≤ b ∧ b ≤ 1000) :
    Cl Tryz.prog 121 [.agg #[I s.id, I s.src, vst, vwa, I s.al, I s.up], I a, I b] w fun v w' => v = I (1 + a * s.wa.length + b) ∧ St H w' σ := by
  obtain ⟨awa, cwa, rfl⟩ := RI.shape h2
  have hm := mul_bd (a := a) (b := (s.wa.length : Int)) (A := 1000) (B := 1000) (by omega) (by omega)
  refine Cl.of Tryz.func121 rfl Tryz.ntmps121 (by simp) (args_cons (k := 0) rfl (args_cons (k := 1) rfl (args_cons (k := 2) rfl (args0)))) ?_
  refine .regSeq ?_
  refine .o (.box hs rfl rfl ?_); intro b3 w hs
  refine .z zg (.nil (.regSeq (.z zm (.z (zfa fa_api_Space_3) (.y hs (zld Tryz.isAgg22) (.z (zlen Tryz.runUnderlying22) (.z zmul (.z zadd (.z zm ?_)))))))))
  refine .z zadd (.z zg (.nil ?_))
  refine .ret (Fin.ret1 Tryz.results121 rfl ?_)
  exact ⟨rfl, hs.out⟩
end Go.Proofs.YtddaejgfjlneoaaGreat

namespace Go.Proofs.YtddaejgfjlneoaaGreat
open Go.MW
theorem u_int (s : Spc) (i k : Nat) : 1 + (i : Int) * (s.wa.length : Int) + (k : Int) = (s.u i k : Int) := by
  unfold Spc.u; rw [Int.natCast_add, Int.natCast_add, Int.natCast_mul]; rfl
end Go.Proofs.YtddaejgfjlneoaaGreat

namespace Go.Proofs.YtddaejgfjlneoaaGreat
open Go.MW
theorem what_isWater_spec {H : Heap} {w : World} {σ : List Ent} {s : Spc} {q : Wht} {vst vwa : Value} (hs : St H w σ) (h2 : RI H vwa s.wa) :
    Cl Tryz.prog 238 [.agg #[I q.kind, I q.st, I q.wa, I s.id, I s.src, vst, vwa, I s.al, I s.up]] w fun v w' => v = .bool (decide (0 ≤ q.wa ∧ q.wa ≤ (s.wa.length : Int) - 1)) ∧ St H w' σ := by
  obtain ⟨awa, cwa, rfl⟩ := RI.shape h2
  have l2 := (RI.len h2).2.2
  refine Cl.of Tryz.func238 rfl Tryz.ntmps238 (by simp) (args_cons (k := 0) rfl (args0)) ?_
  refine .regSeq ?_
  refine .o (.box hs rfl rfl ?_); intro b1 w hs
  refine .z zg (.nil (.regSeq (.z (zfa fa_offsets_what_0) (.z (zfa fa_api_What_2) (.y hs (zld Tryz.isAgg3) (.z (zfa fa_offsets_what_1) (.z (zfa fa_api_Space_3) (.y hs (zld Tryz.isAgg22) (.z (zlen Tryz.runUnderlying22) ?_)))))))))
  refine .z zsub ?_
  refine .o (.call Tryz.call105 rfl (offsets_within_spec hs) ?_); rintro _ w ⟨rfl, hs⟩
  refine .z zg (.nil ?_)
  refine .ret (Fin.ret1 Tryz.results238 rfl ?_)
  exact ⟨rfl, hs.out⟩
theorem what_isStation_spec {H : Heap} {w : World} {σ : List Ent} {s : Spc} {q : Wht} {vst vwa : Value} (hs : St H w σ) (h1 : RI H vst s.st) :
    Cl Tryz.prog 243 [.agg #[I q.kind, I q.st, I q.wa, I s.id, I s.src, vst, vwa, I s.al, I s.up]] w fun v w' => v = .bool (decide (0 ≤ q.st ∧ q.st ≤ (s.st.length : Int) - 1)) ∧ St H w' σ := by
  obtain ⟨ast, cst, rfl⟩ := RI.shape h1
  have l1 := (RI.len h1).2.2
  refine Cl.of Tryz.func243 rfl Tryz.ntmps243 (by simp) (args_cons (k := 0) rfl (args0)) ?_
  refine .regSeq ?_
  refine .o (.box hs rfl rfl ?_); intro b1 w hs
  refine .z zg (.nil (.regSeq (.z (zfa fa_offsets_what_0) (.z (zfa fa_api_What_1) (.y hs (zld Tryz.isAgg3) (.z (zfa fa_offsets_what_1) (.z (zfa fa_api_Space_2) (.y hs (zld Tryz.isAgg22) (.z (zlen Tryz.runUnderlying22) ?_)))))))))
  refine .z zsub ?_
  refine .o (.call Tryz.call105 rfl (offsets_within_spec hs) ?_); rintro _ w ⟨rfl, hs⟩
  refine .z zg (.nil ?_)
  refine .ret (Fin.ret1 Tryz.results243 rfl ?_)
  exact ⟨rfl, hs.out⟩
theorem wht_iff {s : Spc} {q : Wht} : WhtOk s q ↔ (q.kind = 1 ∧ q.st = 0 ∧ s.isW q ∧ 0 < q.wa) ∨ (q.kind = 2 ∧ q.st = 0 ∧ s.isW q) ∨ (q.kind = 3 ∧ q.wa = 0 ∧ s.isS q) ∨ (q.kind = 4 ∧ s.isS q ∧ s.isW q) := by
  constructor
  · intro h
    cases h with
    | litres a b c d => exact .inl ⟨a, b, c, d⟩
    | plane a b c => exact .inr (.inl ⟨a, b, c⟩)
    | section_ a b c => exact .inr (.inr (.inl ⟨a, b, c⟩))
    | offset a b c => exact .inr (.inr (.inr ⟨a, b, c⟩))
  · rintro (⟨a, b, c, d⟩ | ⟨a, b, c⟩ | ⟨a, b, c⟩ | ⟨a, b, c⟩)
    · exact .litres a b c d
    · exact .plane a b c
    · exact .section_ a b c
    · exact .offset a b c
theorem kinds_1_spec {H : Heap} {w : World} {σ : List Ent} {s : Spc} {q : Wht} {vst vwa : Value} (hs : St H w σ) (h2 : RI H vwa s.wa) (hk : q.kind = 1) :
    Cl Tryz.prog 237 [.agg #[I q.kind, I q.st, I q.wa, I s.id, I s.src, vst, vwa, I s.al, I s.up]] w fun v w' => ∃ b : Bool, v = .bool b ∧ (b = true ↔ WhtOk s q) ∧ St H w' σ := by
  have hi := wht_iff (s := s) (q := q)
  simp only [Spc.isW, Spc.isS] at hi
  refine Cl.of Tryz.func237 rfl Tryz.ntmps237 (by simp) (args_cons (k := 0) rfl (args0)) ?_
  refine .regSeq ?_
  refine .o (.box hs rfl rfl ?_); intro b1 w hs
  refine .z zg (.nil (.regSeq (.y hs (zls [_, _, _, _, _, _, _, _, _] Tryz.isAgg236 Tryz.sizeOf236) ?_)))
  refine .o (.call Tryz.call238 rfl (what_isWater_spec hs h2) ?_); rintro _ w ⟨rfl, hs⟩
  refine .z zm ?_
  refine .bif (t' := 5) rfl (fun hb5 => ?_) (fun hb5 => ?_)
  · refine .gT rfl rfl ?_
    refine .z (zfa fa_offsets_what_0) ?_
    refine .gT rfl rfl ?_
    refine .z (zfa fa_api_What_2) ?_
    refine .gT rfl rfl ?_
    refine .y hs (zld Tryz.isAgg3) ?_
    refine .gT rfl rfl ?_
    refine .z zgtr (.z zpT (.z zm ?_))
    refine .bifD (t' := 11) rfl (fun hb11 => ?_) (fun hb11 => ?_)
    · refine .gT rfl rfl ?_
      refine .z (zfa fa_offsets_what_0) ?_
      refine .gT rfl rfl ?_
      refine .z (zfa fa_api_What_1) ?_
      refine .gT rfl rfl ?_
      refine .y hs (zld Tryz.isAgg3) ?_
      refine .gT rfl rfl ?_
      refine .z zeql (.z zpT (.z zg (.nil ?_)))
      refine .ret (Fin.ret1 Tryz.results237 rfl ?_)
      exact ⟨_, rfl, by rw [hi]; simp_all <;> omega, hs.out⟩
    · refine .gFs 4 8 true rfl rfl rfl ?_
      refine .z zpF (.z zg (.nil ?_))
      refine .ret (Fin.ret1 Tryz.results237 rfl ?_)
      exact ⟨_, rfl, by rw [hi]; simp_all <;> omega, hs.out⟩
  · refine .gFs 4 2 true rfl rfl rfl ?_
    refine .z zpF (.z zm ?_)
    refine .gFs 4 8 true rfl rfl rfl ?_
    refine .z zpF (.z zg (.nil ?_))
    refine .ret (Fin.ret1 Tryz.results237 rfl ?_)
    exact ⟨_, rfl, by rw [hi]; simp_all <;> omega, hs.out⟩
theorem kinds_2_spec {H : Heap} {w : World} {σ : List Ent} {s : Spc} {q : Wht} {vst vwa : Value} (hs : St H w σ) (h2 : RI H vwa s.wa) (hk : q.kind = 2) :
    Cl Tryz.prog 240 [.agg #[I q.kind, I q.st, I q.wa, I s.id, I s.src, vst, vwa, I s.al, I s.up]] w fun v w' => ∃ b : Bool, v = .bool b ∧ (b = true ↔ WhtOk s q) ∧ St H w' σ := by
  have hi := wht_iff (s := s) (q := q)
  simp only [Spc.isW, Spc.isS] at hi
  refine Cl.of Tryz.func240 rfl Tryz.ntmps240 (by simp) (args_cons (k := 0) rfl (args0)) ?_
  refine .regSeq ?_
  refine .o (.box hs rfl rfl ?_); intro b1 w hs
  refine .z zg (.nil (.regSeq (.y hs (zls [_, _, _, _, _, _, _, _, _] Tryz.isAgg236 Tryz.sizeOf236) ?_)))
  refine .o (.call Tryz.call238 rfl (what_isWater_spec hs h2) ?_); rintro _ w ⟨rfl, hs⟩
  refine .z zm ?_
  refine .bif (t' := 5) rfl (fun hb5 => ?_) (fun hb5 => ?_)
  · refine .gT rfl rfl ?_
    refine .z (zfa fa_offsets_what_0) ?_
    refine .gT rfl rfl ?_
    refine .z (zfa fa_api_What_1) ?_
    refine .gT rfl rfl ?_
    refine .y hs (zld Tryz.isAgg3) ?_
    refine .gT rfl rfl ?_
    refine .z zeql (.z zpT (.z zg (.nil ?_)))
    refine .ret (Fin.ret1 Tryz.results240 rfl ?_)
    exact ⟨_, rfl, by rw [hi]; simp_all <;> omega, hs.out⟩
  · refine .gFs 4 2 true rfl rfl rfl ?_
    refine .z zpF (.z zg (.nil ?_))
    refine .ret (Fin.ret1 Tryz.results240 rfl ?_)
    exact ⟨_, rfl, by rw [hi]; simp_all <;> omega, hs.out⟩
theorem kinds_3_spec {H : Heap} {w : World} {σ : List Ent} {s : Spc} {q : Wht} {vst vwa : Value} (hs : St H w σ) (h1 : RI H vst s.st) (hk : q.kind = 3) :
    Cl Tryz.prog 242 [.agg #[I q.kind, I q.st, I q.wa, I s.id, I s.src, vst, vwa, I s.al, I s.up]] w fun v w' => ∃ b : Bool, v = .bool b ∧ (b = true ↔ WhtOk s q) ∧ St H w' σ := by
  have hi := wht_iff (s := s) (q := q)
  simp only [Spc.isW, Spc.isS] at hi
  refine Cl.of Tryz.func242 rfl Tryz.ntmps242 (by simp) (args_cons (k := 0) rfl (args0)) ?_
  refine .regSeq ?_
  refine .o (.box hs rfl rfl ?_); intro b1 w hs
  refine .z zg (.nil (.regSeq (.y hs (zls [_, _, _, _, _, _, _, _, _] Tryz.isAgg236 Tryz.sizeOf236) ?_)))
  refine .o (.call Tryz.call243 rfl (what_isStation_spec hs h1) ?_); rintro _ w ⟨rfl, hs⟩
  refine .z zm ?_
  refine .bif (t' := 5) rfl (fun hb5 => ?_) (fun hb5 => ?_)
  · refine .gT rfl rfl ?_
    refine .z (zfa fa_offsets_what_0) ?_
    refine .gT rfl rfl ?_
    refine .z (zfa fa_api_What_2) ?_
    refine .gT rfl rfl ?_
    refine .y hs (zld Tryz.isAgg3) ?_
    refine .gT rfl rfl ?_
    refine .z zeql (.z zpT (.z zg (.nil ?_)))
    refine .ret (Fin.ret1 Tryz.results242 rfl ?_)
    exact ⟨_, rfl, by rw [hi]; simp_all <;> omega, hs.out⟩
  · refine .gFs 4 2 true rfl rfl rfl ?_
    refine .z zpF (.z zg (.nil ?_))
    refine .ret (Fin.ret1 Tryz.results242 rfl ?_)
    exact ⟨_, rfl, by rw [hi]; simp_all <;> omega, hs.out⟩
theorem kinds_4_spec {H : Heap} {w : World} {σ : List Ent} {s : Spc} {q : Wht} {vst vwa : Value} (hs : St H w σ) (h1 : RI H vst s.st) (h2 : RI H vwa s.wa) (hk : q.kind = 4) :
    Cl Tryz.prog 245 [.agg #[I q.kind, I q.st, I q.wa, I s.id, I s.src, vst, vwa, I s.al, I s.up]] w fun v w' => ∃ b : Bool, v = .bool b ∧ (b = true ↔ WhtOk s q) ∧ St H w' σ := by
  have hi := wht_iff (s := s) (q := q)
  simp only [Spc.isW, Spc.isS] at hi
  refine Cl.of Tryz.func245 rfl Tryz.ntmps245 (by simp) (args_cons (k := 0) rfl (args0)) ?_
  refine .regSeq ?_
  refine .o (.box hs rfl rfl ?_); intro b1 w hs
  refine .z zg (.nil (.regSeq (.y hs (zls [_, _, _, _, _, _, _, _, _] Tryz.isAgg236 Tryz.sizeOf236) ?_)))
  refine .o (.call Tryz.call243 rfl (what_isStation_spec hs h1) ?_); rintro _ w ⟨rfl, hs⟩
  refine .z zm ?_
  refine .bif (t' := 5) rfl (fun hb5 => ?_) (fun hb5 => ?_)
  · refine .gT rfl rfl ?_
    refine .y hs (zls [_, _, _, _, _, _, _, _, _] Tryz.isAgg236 Tryz.sizeOf236) ?_
    refine .gT rfl rfl ?_
    refine .o (.call Tryz.call238 rfl (what_isWater_spec hs h2) ?_); rintro _ w ⟨rfl, hs⟩
    refine .z zpT (.z zg (.nil ?_))
    refine .ret (Fin.ret1 Tryz.results245 rfl ?_)
    exact ⟨_, rfl, by rw [hi]; simp_all <;> omega, hs.out⟩
  · refine .gFs 2 2 true rfl rfl rfl ?_
    refine .z zpF (.z zg (.nil ?_))
    refine .ret (Fin.ret1 Tryz.results245 rfl ?_)
    exact ⟨_, rfl, by rw [hi]; simp_all <;> omega, hs.out⟩
theorem what_litres_spec {H : Heap} {w : World} {σ : List Ent} {s : Spc} {q : Wht} {vst vwa : Value} {i k : Nat} {u : Int} (hs : St H w σ) (h1 : RI H vst s.st) (h2 : RI H vwa s.wa) (hok : SpcOk s) (hq : WhtOk s q) (hk1 : q.kind = 1) (hi : i < s.st.length) :
    Cl Tryz.prog 239 [.agg #[I q.kind, I q.st, I q.wa, I s.id, I s.src, vst, vwa, I s.al, I s.up], .agg #[I (i : Int), I (k : Int), I u]] w fun v w' => ∃ H1, HLe H H1 ∧ v = I (whtW s q i k) ∧ St H1 w' σ := by
  obtain ⟨ast, cst, rfl⟩ := RI.shape h1
  obtain ⟨awa, cwa, rfl⟩ := RI.shape h2
  have hn := hok.wa.many
  have hcap := (RI.len h2).2.1
  obtain ⟨_, hw1, hw2, hw3⟩ : q.st = 0 ∧ 0 < q.wa ∧ 0 ≤ q.wa ∧ q.wa ≤ (s.wa.length : Int) - 1 := by
    rcases wht_iff.1 hq with h | h | h | h
    · exact ⟨h.2.1, h.2.2.2, h.2.2.1.1, h.2.2.1.2⟩
    all_goals omega
  obtain ⟨m, hm⟩ : ∃ m : Nat, q.wa = m := ⟨q.wa.toNat, by omega⟩
  have hW : whtW s q i k = if (k : Int) ≤ q.wa then gi (wts s.st) i * gi (wts (s.wa.take (q.wa.toNat + 1))) k else 0 := by unfold whtW; rw [if_pos hk1]
  have hmt : q.wa.toNat = m := by omega
  rw [hmt] at hW
  refine Cl.of Tryz.func239 rfl Tryz.ntmps239 (by simp) (args_cons (k := 0) rfl (args_cons (k := 1) rfl (args0))) ?_
  refine .regSeq ?_
  refine .o (.box hs rfl rfl ?_); intro b2 w hs
  refine .o (.box hs rfl rfl ?_); intro b3 w hs
  refine .z zg (.nil (.seq (.regSeq (.z (zfa fa_offsets_offset_1) (.y hs (zld Tryz.isAgg3) (.z (zfa fa_offsets_what_0) (.z (zfa fa_api_What_2) (.y hs (zld Tryz.isAgg3) (.z zgtr ?_)))))))))
  refine .nil ?_
  refine (.condD rfl (fun hc12 => ?_) (fun hc12 => ?_))
  · refine .regSeq (.z zg (.nil ?_))
    refine .ret (rT (Fin.ret1 Tryz.results239 rfl ?_))
    exact ⟨H, HLe.refl H, by rw [hW, if_neg (by omega)], hs.out⟩
  · refine .skip ?_
    refine nT ?_
    refine .seq (.draw mix rfl hs ?_); intro w hs
    refine .z 0 rfl (zfa fa_offsets_what_1) ?_; refine .z 1 rfl (zfa fa_api_Space_2) ?_; refine .y 2 rfl hs Tryz.isAgg22 ?_; refine .z 3 rfl (zfa fa_offsets_what_1) ?_; refine .z 4 rfl (zfa fa_api_Space_3) ?_; refine .y 5 rfl hs Tryz.isAgg22 ?_; refine .z 6 rfl (zfa fa_offsets_what_0) ?_; refine .z 7 rfl (zfa fa_api_What_2) ?_; refine .y 8 rfl hs Tryz.isAgg3 ?_; refine .z 9 rfl zadd ?_
    refine .p (i := 10) rfl (by kernel_rfl) .none (q_sliceHX (k := m + 1) rfl rfl Tryz.runUnderlying22 Tryz.sizeOf3 (by omega) (by omega)) ?_
    refine .e1 (i := 11) (by kernel_rfl) rfl rfl .none hs ?_
    have hP : PlcOk 7 15000 (s.wa.take (m + 1)) := hok.wa.take (by omega) (by omega)
    refine .call Tryz.call104 rfl (weigh_Grid_spec hs h1 (h2.head (k := m + 1) (by omega))) ?_; rintro _ w ⟨H1, vo, e, hle1, rfl, hGx, -, hs⟩
    obtain ⟨rfl, hG⟩ := hGx ⟨hok.st, hP⟩
    have hgl := gridP_length (wts s.st) (wts (s.wa.take (m + 1))) s.st.length
    have hyl : (wts (s.wa.take (m + 1))).length = m + 1 := by rw [wts_length, List.length_take]; omega
    have hgr := gridP_gr (X := wts s.st) (Y := wts (s.wa.take (m + 1))) (n := s.st.length) hi
    have hgt := gridP_gt (X := wts s.st) (Y := wts (s.wa.take (m + 1))) (n := s.st.length) (k := k) hi (by omega)
    have hrl := rowP_length (wts s.st) (wts (s.wa.take (m + 1))) i
    rw [← hgr] at hrl
    generalize gridP (wts s.st) (wts (s.wa.take (m + 1))) s.st.length = G at *
    obtain ⟨aG, cG, rfl⟩ := hG.shape
    refine .go ?_
    refine .z 12 rfl zm ?_; refine .z 13 rfl zex ?_; refine .z 14 rfl zex ?_; refine .z 15 rfl zg ?_; refine .z 16 rfl zg ?_; refine .done (by kernel_rfl) hs ?_
    refine .seq (.draw mix rfl hs ?_); intro w hs
    refine .z 0 rfl zm ?_; refine .z 1 rfl (zfa fa_offsets_offset_0) ?_; refine .y 2 rfl hs Tryz.isAgg3 ?_
    refine .ixT (i := 3) hs rfl (by kernel_rfl) .none hG rfl rfl Tryz.runUnderlying61 Tryz.sizeOf22 (show i < _ by omega) (by first | rfl | assumption | omega) ?_; intro b31 o31 a31 c31 hc31 hR31
    refine .r (i := 4) hs rfl (by kernel_rfl) .none (q_loadR rfl Tryz.isAgg22 hc31) ?_
    refine .z 5 rfl (zfa fa_offsets_offset_1) ?_; refine .y 6 rfl hs Tryz.isAgg3 ?_
    refine .ixX (enc := fun x => [I x]) (i := 7) hs rfl (by kernel_rfl) .none hR31 rfl rfl Tryz.runUnderlying22 Tryz.sizeOf3 (gi_get (l := (gr G i)) (i := k) (by omega)) (by first | rfl | assumption | omega) ?_; intro b35 o35 hc35; replace hc35 := CellsAt.one hc35
    refine .r (i := 8) hs rfl (by kernel_rfl) .none (q_loadR rfl Tryz.isAgg3 hc35) ?_
    refine .z 9 rfl zg ?_; refine .done (by kernel_rfl) hs ?_
    refine .ret (Fin.ret1 Tryz.results239 rfl ?_)
    exact ⟨H1, hle1, by rw [hW, if_pos (by omega), ← hgt]; rfl, hs.out⟩
theorem what_plane_spec {H : Heap} {w : World} {σ : List Ent} {s : Spc} {q : Wht} {vst vwa : Value} {i k : Nat} {u : Int} (hs : St H w σ) (h1 : RI H vst s.st) (hok : SpcOk s) (hk1 : q.kind = 2) (hi : i < s.st.length) :
    Cl Tryz.prog 241 [.agg #[I q.kind, I q.st, I q.wa, I s.id, I s.src, vst, vwa, I s.al, I s.up], .agg #[I (i : Int), I (k : Int), I u]] w fun v w' => ∃ H1, HLe H H1 ∧ v = I (whtW s q i k) ∧ St H1 w' σ := by
  have hW : whtW s q i k = if (k : Int) = q.wa then gi (wts s.st) i else 0 := by unfold whtW; rw [if_neg (by omega), if_pos hk1]
  have hl := wts_length s.st
  refine Cl.of Tryz.func241 rfl Tryz.ntmps241 (by simp) (args_cons (k := 0) rfl (args_cons (k := 1) rfl (args0))) ?_
  refine .regSeq ?_
  refine .o (.box hs rfl rfl ?_); intro b2 w hs
  refine .o (.box hs rfl rfl ?_); intro b3 w hs
  refine .z zg (.nil (.seq (.regSeq (.z (zfa fa_offsets_offset_1) (.y hs (zld Tryz.isAgg3) (.z (zfa fa_offsets_what_0) (.z (zfa fa_api_What_2) (.y hs (zld Tryz.isAgg3) (.z zneq ?_)))))))))
  refine .nil ?_
  refine (.condN rfl (fun hc12 => ?_) (fun hc12 => ?_))
  · refine .regSeq (.z zg (.nil ?_))
    refine .ret (rT (Fin.ret1 Tryz.results241 rfl ?_))
    exact ⟨H, HLe.refl H, by rw [hW, if_neg (by omega)], hs.out⟩
  · refine .skip ?_
    refine nT ?_
    refine .regSeq (.z (zfa fa_offsets_what_1) (.z (zfa fa_api_Space_2) (.y hs (zld Tryz.isAgg22) ?_)))
    refine .o (.call Tryz.call273 rfl (weigh_Weights_spec hs h1) ?_); rintro _ w ⟨H1, vo, e, hle1, rfl, hGx, hs⟩
    obtain ⟨rfl, hG⟩ := hGx hok.st
    obtain ⟨aG, cG, rfl⟩ := RI.shape hG
    refine .z zm (.z zex (.z zex (.z zg (.z zg (.nil (.regSeq (.z zm (.z (zfa fa_offsets_offset_0) (.y hs (zld Tryz.isAgg3) ?_)))))))))
    refine .ixY hs hG rfl rfl Tryz.runUnderlying22 Tryz.sizeOf3 (gi_get (l := (wts s.st)) (i := i) (by omega)) (by first | rfl | assumption | omega) ?_; intro b23 o23 hc23
    refine .q hs (q_loadR rfl Tryz.isAgg3 hc23) ?_
    refine .z zg (.nil ?_)
    refine .ret (Fin.ret1 Tryz.results241 rfl ?_)
    exact ⟨H1, hle1, by rw [hW, if_pos (by omega)], hs.out⟩
theorem what_section_spec {H : Heap} {w : World} {σ : List Ent} {s : Spc} {q : Wht} {vst vwa : Value} {i k : Nat} {u : Int} (hs : St H w σ) (h2 : RI H vwa s.wa) (hok : SpcOk s) (hk1 : q.kind = 3) (hk : k < s.wa.length) :
    Cl Tryz.prog 244 [.agg #[I q.kind, I q.st, I q.wa, I s.id, I s.src, vst, vwa, I s.al, I s.up], .agg #[I (i : Int), I (k : Int), I u]] w fun v w' => ∃ H1, HLe H H1 ∧ v = I (whtW s q i k) ∧ St H1 w' σ := by
  have hW : whtW s q i k = if (i : Int) = q.st then gi (wts s.wa) k else 0 := by unfold whtW; rw [if_neg (by omega), if_neg (by omega), if_pos hk1]
  have hl := wts_length s.wa
  refine Cl.of Tryz.func244 rfl Tryz.ntmps244 (by simp) (args_cons (k := 0) rfl (args_cons (k := 1) rfl (args0))) ?_
  refine .regSeq ?_
  refine .o (.box hs rfl rfl ?_); intro b2 w hs
  refine .o (.box hs rfl rfl ?_); intro b3 w hs
  refine .z zg (.nil (.seq (.regSeq (.z (zfa fa_offsets_offset_0) (.y hs (zld Tryz.isAgg3) (.z (zfa fa_offsets_what_0) (.z (zfa fa_api_What_1) (.y hs (zld Tryz.isAgg3) (.z zneq ?_)))))))))
  refine .nil ?_
  refine (.condN rfl (fun hc12 => ?_) (fun hc12 => ?_))
  · refine .regSeq (.z zg (.nil ?_))
    refine .ret (rT (Fin.ret1 Tryz.results244 rfl ?_))
    exact ⟨H, HLe.refl H, by rw [hW, if_neg (by omega)], hs.out⟩
  · refine .skip ?_
    refine nT ?_
    refine .regSeq (.z (zfa fa_offsets_what_1) (.z (zfa fa_api_Space_3) (.y hs (zld Tryz.isAgg22) ?_)))
    refine .o (.call Tryz.call273 rfl (weigh_Weights_spec hs h2) ?_); rintro _ w ⟨H1, vo, e, hle1, rfl, hGx, hs⟩
    obtain ⟨rfl, hG⟩ := hGx (spc_wa9 hok)
    obtain ⟨aG, cG, rfl⟩ := RI.shape hG
    refine .z zm (.z zex (.z zex (.z zg (.z zg (.nil (.regSeq (.z zm (.z (zfa fa_offsets_offset_1) (.y hs (zld Tryz.isAgg3) ?_)))))))))
    refine .ixY hs hG rfl rfl Tryz.runUnderlying22 Tryz.sizeOf3 (gi_get (l := (wts s.wa)) (i := k) (by omega)) (by first | rfl | assumption | omega) ?_; intro b23 o23 hc23
    refine .q hs (q_loadR rfl Tryz.isAgg3 hc23) ?_
    refine .z zg (.nil ?_)
    refine .ret (Fin.ret1 Tryz.results244 rfl ?_)
    exact ⟨H1, hle1, by rw [hW, if_pos (by omega)], hs.out⟩
theorem what_single_spec {H : Heap} {w : World} {σ : List Ent} {s : Spc} {q : Wht} {vst vwa : Value} {i k : Nat} {u : Int} (hs : St H w σ) (hk1 : q.kind = 4) :
    Cl Tryz.prog 246 [.agg #[I q.kind, I q.st, I q.wa, I s.id, I s.src, vst, vwa, I s.al, I s.up], .agg #[I (i : Int), I (k : Int), I u]] w fun v w' => ∃ H1, HLe H H1 ∧ v = I (whtW s q i k) ∧ St H1 w' σ := by
  have hW : whtW s q i k = if (i : Int) = q.st ∧ (k : Int) = q.wa then 1 else 0 := by unfold whtW; rw [if_neg (by omega), if_neg (by omega), if_neg (by omega)]
  refine Cl.of Tryz.func246 rfl Tryz.ntmps246 (by simp) (args_cons (k := 0) rfl (args_cons (k := 1) rfl (args0))) ?_
  refine .regSeq ?_
  refine .o (.box hs rfl rfl ?_); intro b2 w hs
  refine .o (.box hs rfl rfl ?_); intro b3 w hs
  refine .z zg (.nil (.seq (.regSeq (.z (zfa fa_offsets_offset_0) (.y hs (zld Tryz.isAgg3) (.z (zfa fa_offsets_what_0) (.z (zfa fa_api_What_1) (.y hs (zld Tryz.isAgg3) (.z zneq ?_)))))))))
  refine .z zm ?_
  refine .bifN (t' := 11) rfl (fun hb11 => ?_) (fun hb11 => ?_)
  · refine .gFs 6 6 false rfl rfl rfl ?_
    refine .z zpT (.nil ?_)
    refine (.condT rfl rfl ?_)
    refine .regSeq (.z zg (.nil ?_))
    refine .ret (rT (Fin.ret1 Tryz.results246 rfl ?_))
    first
    | exact ⟨H, HLe.refl H, by rw [hW, if_neg (by omega)], hs.out⟩
    | exact ⟨H, HLe.refl H, by rw [hW, if_pos (by omega)], hs.out⟩
  · refine .gT rfl rfl ?_
    refine .z (zfa fa_offsets_offset_1) ?_
    refine .gT rfl rfl ?_
    refine .y hs (zld Tryz.isAgg3) ?_
    refine .gT rfl rfl ?_
    refine .z (zfa fa_offsets_what_0) ?_
    refine .gT rfl rfl ?_
    refine .z (zfa fa_api_What_2) ?_
    refine .gT rfl rfl ?_
    refine .y hs (zld Tryz.isAgg3) ?_
    refine .gT rfl rfl ?_
    refine .z zneq (.z zpF (.nil ?_))
    refine (.condN rfl (fun hc18 => ?_) (fun hc18 => ?_))
    · refine .regSeq (.z zg (.nil ?_))
      refine .ret (rT (Fin.ret1 Tryz.results246 rfl ?_))
      first
      | exact ⟨H, HLe.refl H, by rw [hW, if_neg (by omega)], hs.out⟩
      | exact ⟨H, HLe.refl H, by rw [hW, if_pos (by omega)], hs.out⟩
    · refine .skip ?_
      refine nT ?_
      refine .regSeq (.z zg (.nil ?_))
      refine .ret (Fin.ret1 Tryz.results246 rfl ?_)
      first
      | exact ⟨H, HLe.refl H, by rw [hW, if_neg (by omega)], hs.out⟩
      | exact ⟨H, HLe.refl H, by rw [hW, if_pos (by omega)], hs.out⟩
end Go.Proofs.YtddaejgfjlneoaaGreat

namespace Go.Proofs.YtddaejgfjlneoaaGreat
open Go.MW
def rgtF (k : Int) : Nat := if k = 1 then 237 else if k = 2 then 240 else if k = 3 then 242 else 245
def wgtF (k : Int) : Nat := if k = 1 then 239 else if k = 2 then 241 else if k = 3 then 244 else 246
def kndV (k : Int) : Value := .agg #[.func (.func (rgtF k)) #[] #[], .func (.func (wgtF k)) #[] #[], I (divW ⟨k, 0, 0⟩)]
def kndM : List MapEntry := [{ key := I 1, val := kndV 1, born := 0 }, { key := I 2, val := kndV 2, born := 1 }, { key := I 3, val := kndV 3, born := 2 }, { key := I 4, val := kndV 4, born := 3 }]
theorem offsets_kinds_spec {H : Heap} {w : World} {σ : List Ent} (hs : St H w σ) :
    Cl Tryz.prog 189 [] w fun v w' => ∃ b, v = .map (some b) ∧ St H w' (.obj b (.map kndM.toArray 4) :: σ) := by
  refine Cl.of Tryz.func189 rfl Tryz.ntmps189 (by simp) (args0) ?_
  refine .regSeq (.z zg (.nil (.regSeq ?_)))
  refine .o (.makeMap hs ?_); intro b1 w hs
  refine .z (zbd [_, _, _] bld_offsets_kind) ?_
  refine .o (.insert (es := []) hs rfl rfl rfl Tryz.runUnderlying233 Tryz.runUnderlying3 rfl ?_); intro w hs
  refine .z (zbd [_, _, _] bld_offsets_kind) ?_
  refine .o (.insert (es := [{ key := I 1, val := kndV 1, born := 0 }]) hs rfl rfl rfl Tryz.runUnderlying233 Tryz.runUnderlying3 rfl ?_); intro w hs
  refine .z (zbd [_, _, _] bld_offsets_kind) ?_
  refine .o (.insert (es := [{ key := I 1, val := kndV 1, born := 0 }, { key := I 2, val := kndV 2, born := 1 }]) hs rfl rfl rfl Tryz.runUnderlying233 Tryz.runUnderlying3 rfl ?_); intro w hs
  refine .z (zbd [_, _, _] bld_offsets_kind) ?_
  refine .o (.insert (es := [{ key := I 1, val := kndV 1, born := 0 }, { key := I 2, val := kndV 2, born := 1 }, { key := I 3, val := kndV 3, born := 2 }]) hs rfl rfl rfl Tryz.runUnderlying233 Tryz.runUnderlying3 rfl ?_); intro w hs
  refine .z zm (.z zg (.nil ?_))
  refine .ret (Fin.ret1 Tryz.results189 rfl ?_)
  exact ⟨b1, rfl, hs⟩
def lF1 (k : Int) : Value := if 1 ≤ k ∧ k ≤ 4 then .func (.func (rgtF k)) #[] #[] else .nilFunc
def lF2 (k : Int) : Value := if 1 ≤ k ∧ k ≤ 4 then .func (.func (wgtF k)) #[] #[] else .nilFunc
def lD (k : Int) : Int := if 1 ≤ k ∧ k ≤ 4 then divW ⟨k, 0, 0⟩ else 0
theorem lF_cells (k : Int) : [lF1 k, lF2 k, I (lD k)].all Value.oneCell' = true := by
  unfold lF1 lF2; split <;> rfl
theorem q_kinds {H : Heap} {s : FS} {x y : Operand} {b : Nat} (k : Int) (hx : FS.ev s x = some (.map (some b))) (hy : FS.ev s y = some (I k)) :
    QJ Tryz.prog H [.obj b (.map kndM.toArray 4)] s (.lookup 233 x y true) (.tuple #[.agg #[lF1 k, lF2 k, I (lD k)], .bool (decide (1 ≤ k ∧ k ≤ 4))]) := by
  by_cases h : 1 ≤ k ∧ k ≤ 4
  · rw [decide_eq_true h]
    have h4 : k = 1 ∨ k = 2 ∨ k = 3 ∨ k = 4 := by omega
    rcases h4 with rfl | rfl | rfl | rfl
    · exact q_look (v := kndV 1) (j := 0) hx hy Tryz.runUnderlying233 Tryz.runUnderlying3 rfl .here
    · exact q_look (v := kndV 2) (j := 1) hx hy Tryz.runUnderlying233 Tryz.runUnderlying3 rfl .here
    · exact q_look (v := kndV 3) (j := 2) hx hy Tryz.runUnderlying233 Tryz.runUnderlying3 rfl .here
    · exact q_look (v := kndV 4) (j := 3) hx hy Tryz.runUnderlying233 Tryz.runUnderlying3 rfl .here
  · rw [decide_eq_false h]
    have e1 : lF1 k = .nilFunc := if_neg h
    have e2 : lF2 k = .nilFunc := if_neg h
    have e3 : lD k = 0 := if_neg h
    rw [e1, e2, e3]
    refine q_lookN (es := kndM) (c := 4) hx hy Tryz.runUnderlying233 Tryz.runUnderlying3 Tryz.zeroValue231 ?_ .here
    have n1 : (k == 1) = false := by simp only [beq_eq_false_iff_ne]; omega
    have n2 : (k == 2) = false := by simp only [beq_eq_false_iff_ne]; omega
    have n3 : (k == 3) = false := by simp only [beq_eq_false_iff_ne]; omega
    have n4 : (k == 4) = false := by simp only [beq_eq_false_iff_ne]; omega
    simp [Instr.findNow, Instr.sameNow, kndM, n1, n2, n3, n4]
theorem rgt_call (k : Int) : ∀ args w, (callFunc (rgtF k) args).run Tryz.prog w = .ok (.enter (rgtF k) args) w := by
  unfold rgtF
  split
  · exact Tryz.call237
  · split
    · exact Tryz.call240
    · split
      · exact Tryz.call242
      · exact Tryz.call245
theorem wgt_call (k : Int) : ∀ args w, (callFunc (wgtF k) args).run Tryz.prog w = .ok (.enter (wgtF k) args) w := by
  unfold wgtF
  split
  · exact Tryz.call239
  · split
    · exact Tryz.call241
    · split
      · exact Tryz.call244
      · exact Tryz.call246
theorem rgt_spec {H : Heap} {w : World} {σ : List Ent} {s : Spc} {q : Wht} {vst vwa : Value} (hs : St H w σ) (h1 : RI H vst s.st) (h2 : RI H vwa s.wa) (hk : 1 ≤ q.kind ∧ q.kind ≤ 4) :
    Cl Tryz.prog (rgtF q.kind) [.agg #[I q.kind, I q.st, I q.wa, I s.id, I s.src, vst, vwa, I s.al, I s.up]] w fun v w' => ∃ b : Bool, v = .bool b ∧ (b = true ↔ WhtOk s q) ∧ St H w' σ := by
  unfold rgtF
  split
  · exact kinds_1_spec hs h2 (by assumption)
  · split
    · exact kinds_2_spec hs h2 (by assumption)
    · split
      · exact kinds_3_spec hs h1 (by assumption)
      · exact kinds_4_spec hs h1 h2 (by omega)
theorem wgt_spec {H : Heap} {w : World} {σ : List Ent} {s : Spc} {q : Wht} {vst vwa : Value} {i k : Nat} {u : Int} (hs : St H w σ) (h1 : RI H vst s.st) (h2 : RI H vwa s.wa) (hok : SpcOk s) (hq : WhtOk s q) (hk : 1 ≤ q.kind ∧ q.kind ≤ 4) (hi : i < s.st.length) (hkw : k < s.wa.length) :
    Cl Tryz.prog (wgtF q.kind) [.agg #[I q.kind, I q.st, I q.wa, I s.id, I s.src, vst, vwa, I s.al, I s.up], .agg #[I (i : Int), I (k : Int), I u]] w fun v w' => ∃ H1, HLe H H1 ∧ v = I (whtW s q i k) ∧ St H1 w' σ := by
  unfold wgtF
  split
  · exact what_litres_spec hs h1 h2 hok hq (by assumption) hi
  · split
    · exact what_plane_spec hs h1 hok (by assumption) hi
    · split
      · exact what_section_spec hs h2 hok (by assumption) hkw
      · exact what_single_spec hs (by omega)
theorem lD_div {q : Wht} (h : 1 ≤ q.kind ∧ q.kind ≤ 4) : lD q.kind = divW q := by
  unfold lD; rw [if_pos h]; rfl
theorem wht_kind {s : Spc} {q : Wht} (h : WhtOk s q) : 1 ≤ q.kind ∧ q.kind ≤ 4 := by
  rcases wht_iff.1 h with h | h | h | h <;> omega
set_option maxHeartbeats 1000000 in
theorem offsets_weights_spec {H : Heap} {w : World} {σ : List Ent} {s : Spc} {q : Wht} {vst vwa : Value} (hs : St H w σ) (h1 : RI H vst s.st) (h2 : RI H vwa s.wa) (hok : SpcOk s) :
    Cl Tryz.prog 102 [.agg #[I s.id, I s.src, vst, vwa, I s.al, I s.up], .agg #[I q.kind, I q.st, I q.wa]] w fun u w' => ∃ H1 vl L d b en, HLe H H1 ∧ u = .tuple #[vl, I d, .bool b] ∧ OwnS 1 vl (Is L) en ∧ ((b = true ∧ WhtOk s q ∧ L = whtL s q ∧ d = divW q) ∨ (b = false ∧ ¬ WhtOk s q ∧ L = [] ∧ d = 0)) ∧ St H1 w' (en :: σ) := by
  have hsm := spc_small hok
  obtain ⟨ast, cst, rfl⟩ := RI.shape h1
  obtain ⟨awa, cwa, rfl⟩ := RI.shape h2
  refine Cl.of Tryz.func102 rfl Tryz.ntmps102 (by simp) (args_cons (k := 0) rfl (args_cons (k := 1) rfl (args0))) ?_
  refine .regSeq ?_
  refine .o (.box hs rfl rfl ?_); intro b2 w hs
  refine .o (.box hs rfl rfl ?_); intro b3 w hs
  refine .z zg (.z zg (.z zg (.nil ?_)))
  refine .cut (fun fs w => ∃ b7, FSub fs ⟨46, [], [(8, .bool (decide (1 ≤ q.kind ∧ q.kind ≤ 4))), (7, .pointer (some ⟨b7, 0, none⟩)), (2, .pointer (some ⟨b2, 0, none⟩)), (3, .pointer (some ⟨b3, 0, none⟩))]⟩ ∧ St H w (.blk b7 [lF1 q.kind, lF2 q.kind, I (lD q.kind)] :: .blk b3 [I q.kind, I q.st, I q.wa] :: .blk b2 [I s.id, I s.src, (.slice ast s.st.length cst), (.slice awa s.wa.length cwa), I s.al, I s.up] :: σ)) ?_ ?_
  · refine .draw mix rfl hs ?_; intro w hs
    refine .z 1 rfl (zfa fa_api_What_0) ?_; refine .y 2 rfl hs Tryz.isAgg3 ?_
    refine .e2 (i := 0) (j := 7) (by kernel_rfl) rfl rfl rfl rfl .none .none hs ?_ ?_
    · refine .call Tryz.call189 rfl (offsets_kinds_spec hs) ?_; rintro _ w ⟨b13, rfl, hs⟩
      refine .go ?_
      refine .q (i := 3) [.obj b13 (.map kndM.toArray 4)] rfl (by kernel_rfl) .none (q_kinds (H := .bot) q.kind rfl rfl) ?_
      refine .z 4 rfl zm ?_; refine .z 5 rfl zex ?_; refine .z 6 rfl zex ?_
      refine .e1 (i := 7) (by kernel_rfl) rfl rfl .none hs ?_
      refine .alloc hs Tryz.zeroValue231 rfl ?_; intro b7 w hs
      refine .go ?_
      refine .e1 (i := 8) (by kernel_rfl) rfl rfl .none hs ?_
      refine .stores (vs := [lF1 q.kind, lF2 q.kind, I (lD q.kind)]) hs rfl rfl Tryz.sizeOf231 ?_ (hv := lF_cells _); intro w hs
      refine .go ?_
      refine .z 9 rfl zg ?_; refine .done (by kernel_rfl) hs ?_
      exact nT ⟨b7, by repeat (first | exact .nil rfl rfl | refine .cons rfl ?_), hs.sub (by repeat (first | exact Sub.refl _ | constructor | apply Sub.weaken))⟩
    · refine .alloc hs Tryz.zeroValue231 rfl ?_; intro b7 w hs
      refine .go ?_
      refine .e1 (i := 0) (by kernel_rfl) rfl rfl .none hs ?_
      refine .call Tryz.call189 rfl (offsets_kinds_spec hs) ?_; rintro _ w ⟨b13, rfl, hs⟩
      refine .go ?_
      refine .q (i := 3) [.obj b13 (.map kndM.toArray 4)] rfl (by kernel_rfl) .none (q_kinds (H := .bot) q.kind rfl rfl) ?_
      refine .z 4 rfl zm ?_; refine .z 5 rfl zex ?_; refine .z 6 rfl zex ?_
      refine .e1 (i := 8) (by kernel_rfl) rfl rfl .none hs ?_
      refine .stores (vs := [lF1 q.kind, lF2 q.kind, I (lD q.kind)]) hs rfl rfl Tryz.sizeOf231 ?_ (hv := lF_cells _); intro w hs
      refine .go ?_
      refine .z 9 rfl zg ?_; refine .done (by kernel_rfl) hs ?_
      exact nT ⟨b7, by repeat (first | exact .nil rfl rfl | refine .cons rfl ?_), hs.sub (by repeat (first | exact Sub.refl _ | constructor | apply Sub.weaken))⟩
  · rintro fs w ⟨b7, hfs, hs⟩
    refine WE.sub ?_ hfs
    refine .regSeq (.y hs (zls [_, _, _] Tryz.isAgg29 Tryz.sizeOf29) (.y hs (zls [_, _, _, _, _, _] Tryz.isAgg34 Tryz.sizeOf34) (.z (zbd (vs := [(0, .agg #[I q.kind, I q.st, I q.wa]), (1, .agg #[I s.id, I s.src, (.slice ast s.st.length cst), (.slice awa s.wa.length cwa), I s.al, I s.up])]) [I q.kind, I q.st, I q.wa, I s.id, I s.src, (.slice ast s.st.length cst), (.slice awa s.wa.length cwa), I s.al, I s.up] bld_offsets_what rfl (by kernel_rfl)) ?_)))
    refine .o (.alloc hs Tryz.zeroValue236 rfl ?_); intro b9 w hs
    refine .o (.stores (vs := [_, _, _, _, _, _, _, _, _]) hs rfl rfl Tryz.sizeOf236 ?_); intro w hs
    refine .nil (.seq (.regSeq (.z zm (.z znot (.z zm ?_)))))
    refine .bif (t' := 24) rfl (fun hb24 => ?_) (fun hb24 => ?_)
    · refine .gFs 5 2 false rfl rfl rfl ?_
      refine .z zpT (.nil ?_)
      refine (.condT rfl rfl ?_)
      refine .regSeq (.z zg (.z zg (.z zg (.nil ?_))))
      refine .ret (rT (?_))
      have hn : ¬ WhtOk s q := fun h => by have := wht_kind h; simp [this] at hb24
      exact Fin.retD [] [] hs fun w hs => ⟨_, results3 Tryz.results102 rfl rfl rfl, H, _, [], _, _, .nul, HLe.refl H, rfl, .nil 1 none, .inr ⟨rfl, hn, rfl, rfl⟩, hs.out.nul⟩
    · refine .gT rfl rfl ?_
      have hk : 1 ≤ q.kind ∧ q.kind ≤ 4 := by simpa using hb24
      rw [show lF1 q.kind = .func (.func (rgtF q.kind)) #[] #[] from if_pos hk, show lF2 q.kind = .func (.func (wgtF q.kind)) #[] #[] from if_pos hk, lD_div hk] at hs
      refine .z (zfa fa_offsets_kind_0) ?_
      refine .gT rfl rfl ?_
      refine .y hs (zld Tryz.isAgg228) ?_
      refine .gT rfl rfl ?_
      refine .y hs (zls [_, _, _, _, _, _, _, _, _] Tryz.isAgg236 Tryz.sizeOf236) ?_
      refine .gT rfl rfl ?_
      refine .o (.callG (first := []) (cap := []) rfl rfl (rgt_call q.kind) (rgt_spec (s := s) hs h1 h2 hk) ?_); rintro _ w ⟨b28, rfl, hb28, hs⟩
      refine .gT rfl rfl ?_
      refine .z znot (.z zpF (.nil ?_))
      refine (.cond rfl (fun hc30 => ?_) (fun hc30 => ?_))
      · refine .regSeq (.z zg (.z zg (.z zg (.nil ?_))))
        refine .ret (rT (?_))
        have hn : ¬ WhtOk s q := fun h => by rw [hb28.2 h] at hc30; cases hc30
        exact Fin.retD [] [] hs fun w hs => ⟨_, results3 Tryz.results102 rfl rfl rfl, H, _, [], _, _, .nul, HLe.refl H, rfl, .nil 1 none, .inr ⟨rfl, hn, rfl, rfl⟩, hs.out.nul⟩
      · refine .skip ?_
        refine nT ?_
        refine .regSeq ?_
        refine .o (.buildSlice (cells := [_]) hs bls_sl_int_1 rfl rfl ?_); intro b31 w hs
        refine .o (.alloc hs Tryz.zeroValue22 rfl ?_); intro b10 w hs
        refine .o (.store hs rfl rfl Tryz.sizeOf22 ?_); intro w hs
        refine .nil (.seq (.regSeq (.y hs (zls [_, _, _, _, _, _] Tryz.isAgg34 Tryz.sizeOf34) ?_)))
        have hq : WhtOk s q := hb28.1 (by simpa using hc30)
        refine .o (.call Tryz.call103 rfl (offsets_all_spec (s := s) hs h1 h2 ⟨by omega, by omega⟩) ?_); rintro _ w ⟨H1, ba, hle1, rfl, hit, hs⟩
        have hwl := whtL_length s q
        refine .nil (.block ?_)
        refine .rangeFunc (gf := 190) (cap := [.pointer (some ⟨ba, 0, none⟩)]) (xs := allV s) (σb := [.blk b10 [.slice (some ⟨b31, 0, none⟩) 1 1], .blk b31 (Is [0]), .blk b7 [.func (.func (rgtF q.kind)) #[] #[], .func (.func (wgtF q.kind)) #[] #[], I (divW q)], .blk b9 [I q.kind, I q.st, I q.wa, I s.id, I s.src, (.slice ast s.st.length cst), (.slice awa s.wa.length cwa), I s.al, I s.up]]) (σf := σ) (hs.sub (by repeat (first | exact Sub.refl _ | constructor | apply Sub.weaken))) trivial rfl hit Tryz.call190 (fun x hx => by
            simp only [allV, List.mem_map] at hx
            obtain ⟨j, _, rfl⟩ := hx; rfl) rfl
          (I := fun p H' σb => ∃ vo en, σb = [.blk b10 [vo], en, .blk b7 [.func (.func (rgtF q.kind)) #[] #[], .func (.func (wgtF q.kind)) #[] #[], I (divW q)], .blk b9 [I q.kind, I q.st, I q.wa, I s.id, I s.src, (.slice ast s.st.length cst), (.slice awa s.wa.length cwa), I s.al, I s.up]] ∧ OwnS 1 vo (Is ((whtL s q).take (p + 1))) en) (Ix := fun _ _ _ => False)
          (fun j _ _ σ g1 g2 => g2) (fun _ _ _ _ _ h => h) ⟨_, _, rfl, .full rfl⟩ ?_ ?_ (fun D c H' σb w _ h _ => h.elim)
        · rintro ly p hp H2 σb2 σf2 w hle2 ⟨vo, en, rfl, hO⟩ hs ⟨rr, hrr⟩
          have hpm : p < s.many := by rw [allV_length] at hp; exact hp
          have hin : p / s.wa.length < s.st.length := Nat.div_lt_of_lt_mul (by rw [Nat.mul_comm]; exact hpm)
          have hkm := Nat.mod_lt p hsm.2.2.1
          have hws := whtL_succ s q hpm
          have hget : (whtL s q)[p + 1]? = some (whtW s q (p / s.wa.length) (p % s.wa.length)) := by rw [← hws]; exact gi_get (by omega)
          rw [allV_get hp]
          obtain ⟨al, ll, cl, rfl, hll⟩ := hO.shape
          generalize p / s.wa.length = i at *
          generalize p % s.wa.length = k at *
          refine .region ?_
          refine .o (.alloc hs Tryz.zeroValue158 rfl ?_); intro b11 w hs
          refine .o (.stores (vs := [_, _, _]) hs rfl rfl Tryz.sizeOf158 ?_); intro w hs
          refine .nil ?_
          refine nT ?_
          refine ⟨H2, [.blk b11 [I (i : Int), I (k : Int), I ((p + 1 : Nat) : Int)], .blk b10 [Value.slice al ll cl], en, .blk b7 [.func (.func (rgtF q.kind)) #[] #[], .func (.func (wgtF q.kind)) #[] #[], I (divW q)], .blk b9 [I q.kind, I q.st, I q.wa, I s.id, I s.src, (.slice ast s.st.length cst), (.slice awa s.wa.length cwa), I s.al, I s.up]], HLe.refl _, hs, ?_⟩; rintro w σf4 - hs
          refine .block ?_
          refine .draw mix rfl hs ?_; intro w hs
          refine .y 0 rfl hs Tryz.isAgg22 ?_; refine .z 1 rfl (zfa fa_offsets_kind_1) ?_
          refine .y 2 rfl hs Tryz.isAgg229 ?_
          refine .ys 3 rfl hs [_, _, _, _, _, _, _, _, _] Tryz.isAgg236 Tryz.sizeOf236 ?_; refine .ys 4 rfl hs [_, _, _] Tryz.isAgg158 Tryz.sizeOf158 ?_
          refine .e1 (i := 5) (by kernel_rfl) rfl rfl .none hs ?_
          refine .callG (first := []) (cap := []) rfl rfl (wgt_call q.kind) (wgt_spec (s := s) (q := q) (i := i) (k := k) hs (h1.mono (hle1.trans hle2)) (h2.mono (hle1.trans hle2)) hok hq hk hin hkm) ?_; rintro _ w ⟨H3, hle3, rfl, hs⟩
          refine .go ?_
          refine .e1 (i := 6) (by kernel_rfl) rfl rfl .none hs ?_
          refine .buildSlice (cells := [_]) hs bls_sl_int_1 rfl rfl ?_; intro b41 w hs
          refine .go ?_
          refine .e1 (i := 7) (by kernel_rfl) rfl rfl .none hs ?_
          refine .append (ys := Is [whtW s q i k]) hs app_sl_int_int rfl rfl hO (.own .here rfl rfl) (Is_cell _) (fun l h => by simp at h; omega) ?_; intro v42 en42 w hO2 hs
          rw [show Is ((whtL s q).take (p + 1)) ++ Is [whtW s q i k] = Is ((whtL s q).take (p + 1 + 1)) by rw [take_snoc hget]; simp [Is]] at hO2
          obtain ⟨a42, l42, c42, rfl, h42⟩ := hO2.shape
          refine .go ?_
          refine .e1 (i := 8) (by kernel_rfl) rfl rfl .none hs ?_
          refine .store hs rfl rfl Tryz.sizeOf22 ?_; intro w hs
          refine .go ?_
          refine .done (by kernel_rfl) hs ?_
          refine nB ?_
          exact ⟨H3, [.blk b10 [.slice a42 l42 c42], en42, .blk b7 [.func (.func (rgtF q.kind)) #[] #[], .func (.func (wgtF q.kind)) #[] #[], I (divW q)], .blk b9 [I q.kind, I q.st, I q.wa, I s.id, I s.src, (.slice ast s.st.length cst), (.slice awa s.wa.length cwa), I s.al, I s.up]], hle3, (hs.sub (by repeat (first | exact Sub.refl _ | constructor | apply Sub.weaken)) : St H3 w (.blk b10 _ :: en42 :: .blk b7 _ :: .blk b9 _ :: σf4)), _, _, rfl, hO2⟩
        · rintro D H2 σb2 w hle2 ⟨vo, en, rfl, hO⟩ hs
          rw [allV_length, ← hwl, List.take_length] at hO
          replace hs : St H2 w (.obj D (.deferred (some [])) :: .blk b10 [vo] :: en :: .blk b7 [.func (.func (rgtF q.kind)) #[] #[], .func (.func (wgtF q.kind)) #[] #[], I (divW q)] :: .blk b9 [I q.kind, I q.st, I q.wa, I s.id, I s.src, (.slice ast s.st.length cst), (.slice awa s.wa.length cwa), I s.al, I s.up] :: σ) := hs
          obtain ⟨al, ll, cl, rfl, hll⟩ := hO.shape
          refine nB (nT ?_)
          refine .seq (.draw mix rfl hs ?_); intro w hs
          refine .y 0 rfl hs Tryz.isAgg22 ?_; refine .z 1 rfl (zfa fa_offsets_kind_2) ?_; refine .y 2 rfl hs Tryz.isAgg3 ?_; refine .z 3 rfl zg ?_; refine .z 4 rfl zg ?_; refine .z 5 rfl zg ?_; refine .done (by kernel_rfl) hs ?_
          refine .ret ?_
          exact Fin.retD [D] [] hs fun w hs => ⟨_, results3 Tryz.results102 rfl rfl rfl, H2, _, _, _, _, en, hle1.trans hle2, rfl, hO, .inl ⟨rfl, hq, rfl, rfl⟩, hs.sub (by repeat (first | exact Sub.refl _ | constructor | apply Sub.weaken))⟩
end Go.Proofs.YtddaejgfjlneoaaGreat

namespace Go.Proofs.YtddaejgfjlneoaaGreat
open Go.MW
theorem offsets_down_spec {H : Heap} {w : World} {σ : List Ent} {a d : Int} (hs : St H w σ) (hd : 1 ≤ d) (ha : -4608000000000000000 ≤ a ∧ a ≤ 4608000000000000000) :
    Cl Tryz.prog 86 [I a, I d] w fun v w' => v = I (a / d) ∧ St H w' σ := by
  have hq : -4608000000000000000 ≤ a.tdiv d ∧ a.tdiv d ≤ 4608000000000000000 := by
    have h1 := floor_eq (n := a) (d := d) (by omega)
    have h2 : a / d ≤ 4608000000000000000 := Int.ediv_le_of_le_mul (by omega) (by
      have := Int.mul_le_mul_of_nonneg_left hd (show (0 : Int) ≤ 4608000000000000000 by omega); omega)
    have h3 : -4608000000000000000 ≤ a / d := Int.le_ediv_of_mul_le (by omega) (by
      have := Int.mul_le_mul_of_nonneg_left hd (show (0 : Int) ≤ 4608000000000000000 by omega); omega)
    by_cases h0 : 0 ≤ a
    · rw [Int.tdiv_eq_ediv_of_nonneg h0]; omega
    · split at h1
      · have : a / d < 0 := Int.ediv_neg_of_neg_of_pos (by omega) (by omega)
        omega
      · omega
  have hfl := floor_eq (n := a) (d := d) (by omega)
  refine Cl.of Tryz.func86 rfl Tryz.ntmps86 (by simp) (args_cons (k := 0) rfl (args_cons (k := 1) rfl (args0))) ?_
  refine .regSeq (.z zg (.nil (.regSeq (.z zm (.z zm ?_)))))
  refine .q hs (q_quoF rfl rfl (by omega) ⟨by omega, by omega⟩) ?_
  refine .z zg (.nil (.seq (.regSeq (.z zm (.z zm (.z zrem (.z zlss (.nil ?_))))))))
  refine (.condD rfl (fun hc12 => ?_) (fun hc12 => ?_))
  · refine .region (.z zm (.z zsub (.z zg (.nil ?_))))
    refine nT ?_
    refine .regSeq (.z zm (.z zg (.nil ?_)))
    refine .ret (Fin.ret1 Tryz.results86 rfl ?_)
    rw [if_pos hc12] at hfl
    exact ⟨by rw [hfl], hs⟩
  · refine .skip ?_
    refine nT ?_
    refine .regSeq (.z zm (.z zg (.nil ?_)))
    refine .ret (Fin.ret1 Tryz.results86 rfl ?_)
    rw [if_neg hc12, Int.sub_zero] at hfl
    exact ⟨by rw [hfl], hs⟩
theorem offsets_isTrue_spec {H : Heap} {w : World} {σ : List Ent} {s : Srv} {vst vwa vr vc : Value} (hs : St H w σ) (h1 : RI H vst s.sp.st) (h2 : RI H vwa s.sp.wa) (h3 : RRd H vr s.rs) (h4 : RCm H vc s.cs) (hok : SrvOk s) :
    Cl Tryz.prog 169 [.agg #[I s.sp.id, I s.sp.src, vst, vwa, I s.sp.al, I s.sp.up, vr, vc]] w fun u w' => ∃ H1, ∃ b : Bool, HLe H H1 ∧ u = .bool b ∧ (b = true ↔ s.sys.Sound) ∧ St H1 w' σ := by
  refine Cl.of Tryz.func169 rfl Tryz.ntmps169 (by simp) (args_cons (k := 0) rfl (args0)) ?_
  refine .regSeq ?_
  refine .o (.box hs rfl rfl ?_); intro b1 w hs
  refine .z zg (.nil (.regSeq (.y hs (zls [_, _, _, _, _, _, _, _] Tryz.isAgg38 Tryz.sizeOf38) ?_)))
  refine .o (.call Tryz.call92 rfl (offsets_system_spec (s := s) hs h1 h2 h3 h4 hok.early) ?_); rintro v7 w ⟨H1, hle1, hS, hs⟩
  refine .o (.call Tryz.call51 rfl (bound_Cycle_spec (s := s.sys) hs hS) ?_); rintro _ w ⟨H2, vx, xs, e, hle2, rfl, rx, hC, hs⟩
  obtain ⟨ax, cx, rfl⟩ := RI.shape rx
  have hchk : s.sys.check = 0 := s.sys.ok_iff.2 hok.sys
  obtain rfl : e = 0 := by
    cases hC with
    | bad h => exact (h hchk).elim
    | sound => rfl
    | chain => rfl
  have hiff := hC.sound_iff
  refine .z zm (.z zex (.z zex (.z zg (.z zg (.nil (.regSeq (.z zm (.z zeql (.z zm ?_)))))))))
  refine .bifD (t' := 13) rfl (fun hb13 => ?_) (fun hb13 => ?_)
  · refine .gT rfl rfl ?_
    refine .z zm ?_
    refine .gT rfl rfl ?_
    refine .z (zlen Tryz.runUnderlying22) ?_
    refine .gT rfl rfl ?_
    refine .z zeql (.z zpT (.z zg (.nil ?_)))
    refine .ret (Fin.ret1 Tryz.results169 rfl ?_)
    first
    | exact ⟨H2, _, hle1.trans hle2, rfl, by rw [← hiff, decide_eq_true_eq]; exact ⟨fun h => List.length_eq_zero_iff.1 (by omega), fun h => by rw [h]; rfl⟩, hs.out⟩
    | exact (hb13 rfl).elim
  · refine .gFs 3 2 true rfl rfl rfl ?_
    refine .z zpF (.z zg (.nil ?_))
    refine .ret (Fin.ret1 Tryz.results169 rfl ?_)
    first
    | exact ⟨H2, _, hle1.trans hle2, rfl, by rw [← hiff, decide_eq_true_eq]; exact ⟨fun h => List.length_eq_zero_iff.1 (by omega), fun h => by rw [h]; rfl⟩, hs.out⟩
    | exact (hb13 rfl).elim
theorem app_zero (L : List Int) (j : Nat) : L ++ List.replicate j 0 ++ [0] = L ++ List.replicate (j + 1) 0 := by
  rw [List.append_assoc, ← List.replicate_succ']
set_option maxHeartbeats 1000000 in
theorem offsets_ask_spec {H : Heap} {w : World} {σ : List Ent} {s : Srv} {q : Wht} {vst vwa vr vc : Value} (hs : St H w σ) (h1 : RI H vst s.sp.st) (h2 : RI H vwa s.sp.wa) (h3 : RRd H vr s.rs) (h4 : RCm H vc s.cs) (hok : SrvOk s) :
    Cl Tryz.prog 155 [.agg #[I s.sp.id, I s.sp.src, vst, vwa, I s.sp.al, I s.sp.up, vr, vc], .agg #[I q.kind, I q.st, I q.wa]] w fun u w' => ∃ H1 ul vw L d b, HLe H H1 ∧ u = .tuple #[.agg #[I s.sys.many, ul, vw, I d], .bool b] ∧ RL H1 ul s.lims ∧ RI H1 vw L ∧ L.length = s.sys.n ∧ ((b = true ∧ WhtOk s.sp q ∧ L = s.w q ∧ d = divW q) ∨ (b = false ∧ ¬ WhtOk s.sp q)) ∧ St H1 w' σ := by
  have hn := srv_n s
  have hm := hok.many
  have hsm : s.sys.many + 1 = (s.sys.n : Int) := by rw [hn]; show ((s.sp.many + s.tapes.length : Nat) : Int) + 1 = _; omega
  refine Cl.of Tryz.func155 rfl Tryz.ntmps155 (by simp) (args_cons (k := 0) rfl (args_cons (k := 1) rfl (args0))) ?_
  refine .regSeq ?_
  refine .o (.box hs rfl rfl ?_); intro b2 w hs
  refine .o (.box hs rfl rfl ?_); intro b3 w hs
  refine .o (.alloc hs Tryz.zeroValue140 rfl ?_); intro b4 w hs
  refine .z zg (.nil (.regSeq (.y hs (zls [_, _, _, _, _, _, _, _] Tryz.isAgg38 Tryz.sizeOf38) ?_)))
  refine .o (.call Tryz.call92 rfl (offsets_system_spec (s := s) hs h1 h2 h3 h4 hok.early) ?_); rintro _ w ⟨H1, hle1, ⟨ul, rfl, hL⟩, hs⟩
  obtain ⟨al, cl, rfl⟩ := RL.shape hL
  refine .o (.alloc hs Tryz.zeroValue70 rfl ?_); intro b6 w hs
  refine .o (.stores (vs := [_, _]) hs rfl rfl Tryz.sizeOf70 ?_); intro w hs
  refine .nil (.regSeq (.z (zfa fa_api_Survey_0) (.y hs (zls [_, _, _, _, _, _] Tryz.isAgg34 Tryz.sizeOf34) (.y hs (zls [_, _, _] Tryz.isAgg29 Tryz.sizeOf29) ?_))))
  refine .o (.call Tryz.call102 rfl (offsets_weights_spec (s := s.sp) (q := q) hs (h1.mono hle1) (h2.mono hle1) hok.early.1) ?_); rintro _ w ⟨H2, vl, L0, d, b, en, hle2, rfl, hO, hcase, hs⟩
  have hL0 : L0.length ≤ s.sys.n := by
    rcases hcase with ⟨_, _, rfl, _⟩ | ⟨_, _, rfl, _⟩
    · rw [whtL_length, hn]; omega
    · simp
  have hle02 := hle1.trans hle2
  refine .z zm (.z zex (.z zex (.z zex (.z zg (.z zg (.z zg (.nil (.seq (.block ?_)))))))))
  refine .loop (fun p : Nat × Value => ⟨34, [], [(7, p.2), (8, I d), (9, .bool b), (6, .pointer (some ⟨b6, 0, none⟩)), (4, .pointer (some ⟨b4, 0, none⟩))]⟩)
    (fun p w => L0.length + p.1 ≤ s.sys.n ∧ ∃ en, OwnS 1 p.2 (Is (L0 ++ List.replicate p.1 0)) en ∧ St H2 w (en :: .blk b6 [I s.sys.many, .slice al s.lims.length cl] :: .blk b4 [I 0, .slice none 0 0, .slice none 0 0, I 0] :: σ)) (fun p => s.sys.n - (L0.length + p.1)) (0, vl) (by repeat (first | exact .nil rfl rfl | refine .cons rfl ?_))
    ⟨by simpa using hL0, en, by simpa using hO, hs.sub (by repeat (first | exact Sub.refl _ | constructor | apply Sub.weaken))⟩ ?_
  clear hO hs
  rintro ⟨j, vo⟩ w ⟨hj, en, hO, hs⟩
  dsimp only at hj hO ⊢
  obtain ⟨ao, lo, co, rfl, hlo⟩ := hO.shape
  have hlo' : lo = L0.length + j := by simp [Is] at hlo; omega
  refine .seq (.regSeq (.z zm (.z (zlen Tryz.runUnderlying22) (.z (zfa fa_api_System_0) (.y hs (zld Tryz.isAgg3) (.z zadd (.z zlss (.nil ?_))))))))
  refine (.condD rfl (fun hc25 => ?_) (fun hc25 => ?_))
  · refine .skip ?_
    refine nT ?_
    refine .block (.region (.z zm ?_))
    refine .o (.buildSlice (cells := [_]) hs bls_sl_int_1 rfl rfl ?_); intro b27 w hs
    refine .o (.append (ys := Is [0]) hs app_sl_int_int rfl rfl hO (.own .here rfl rfl) (Is_cell _) (fun l' h => by simp [Is] at h; omega) ?_); intro v28 en28 w hO2 hs
    rw [show Is (L0 ++ List.replicate j 0) ++ Is [0] = Is (L0 ++ List.replicate (j + 1) 0) by rw [← app_zero]; simp [Is]] at hO2
    refine .z zg (.nil ?_)
    refine nB (nT ?_)
    exact ⟨(j + 1, v28), by repeat (first | exact .nil rfl rfl | refine .cons rfl ?_), ⟨by dsimp only; omega, _, hO2, hs.sub (by repeat (first | exact Sub.refl _ | constructor | apply Sub.weaken))⟩, by dsimp only; omega⟩
  · refine .exit ?_
    refine xT (xT (xB (nT ?_)))
    refine .regSeq (.y hs (zls [_, _] Tryz.isAgg70 Tryz.sizeOf70) (.z zm (.z zm (.z (zbd [_, _, _, _] bld_offsets_question) (.z zm ?_)))))
    refine .o (.stores (vs := [_, _, _, _]) hs rfl rfl Tryz.sizeOf140 ?_); intro w hs
    refine .z zg (.nil ?_)
    refine .ret ?_
    have hjn : L0.length + j = s.sys.n := by omega
    obtain ⟨H3, hle3, hR, hs⟩ := OwnS.publishI hO (by simp; omega) hs (by repeat constructor)
    exact Fin.retD [] [] hs fun w hs => ⟨_, results2 Tryz.results155 (rcells (vs := [_, _, _, _]) hs rfl Tryz.isAgg140 Tryz.sizeOf140) rfl, H3, _, _, _, d, b, hle02.trans hle3, rfl, hL.mono (hle2.trans hle3), hR, by simp; omega, by
      rcases hcase with ⟨g1, g2, rfl, g3⟩ | ⟨g1, g2, _, _⟩
      · refine .inl ⟨g1, g2, ?_, g3⟩
        rw [whtL_length, hn] at hjn
        unfold Srv.w; rw [show j = s.tapes.length by omega]
      · exact .inr ⟨g1, g2⟩, hs.out⟩
end Go.Proofs.YtddaejgfjlneoaaGreat

namespace Go.Proofs.YtddaejgfjlneoaaGreat
open Go.MW
inductive AskdR (v : Srv) (q : Wht) : Int → Prop
  | bad {e : Int} (h : SrvR v e) (he : e ≠ 0) : AskdR v q e
  | what (h : SrvOk v) (h1 : ¬ WhtOk v.sp q) : AskdR v q 33
  | fls (h : SrvOk v) (h1 : WhtOk v.sp q) (h2 : ¬ v.sys.Sound) : AskdR v q 35
  | ok (h : SrvOk v) (h1 : WhtOk v.sp q) (h2 : v.sys.Sound) : AskdR v q 0
theorem AskdR.zero {v : Srv} {q : Wht} (h : AskdR v q 0) : SrvOk v ∧ WhtOk v.sp q ∧ v.sys.Sound := by
  generalize hz : (0 : Int) = z at h
  cases h with
  | bad h he => exact (he hz.symm).elim
  | what => omega
  | fls => omega
  | ok h h1 h2 => exact ⟨h, h1, h2⟩
theorem AskdR.qty {v : Srv} {q : Wht} {e : Int} (h : AskdR v q e) (he : e ≠ 0) : QtyR v q 0 0 e := by
  cases h with
  | bad h he => exact .bad h he
  | what h h1 => exact .what h h1
  | fls h h1 h2 => exact .fls h h1 h2
  | ok => exact (he rfl).elim
set_option maxHeartbeats 1000000 in
theorem offsets_asked_spec {H : Heap} {w : World} {σ : List Ent} {s : Srv} {q : Wht} {vst vwa vr vc : Value} (hs : St H w σ) (h1 : RI H vst s.sp.st) (h2 : RI H vwa s.sp.wa) (h3 : RRd H vr s.rs) (h4 : RCm H vc s.cs) :
    Cl Tryz.prog 85 [.agg #[I s.sp.id, I s.sp.src, vst, vwa, I s.sp.al, I s.sp.up, vr, vc], .agg #[I q.kind, I q.st, I q.wa]] w fun u w' => ∃ H1 m ul vw d e, HLe H H1 ∧ u = .tuple #[.agg #[I m, ul, vw, I d], I e] ∧ (∃ a l c, ul = .slice a l c) ∧ (∃ a l c, vw = .slice a l c) ∧ AskdR s q e ∧ (e = 0 → m = s.sys.many ∧ RL H1 ul s.lims ∧ RI H1 vw (s.w q) ∧ d = divW q) ∧ St H1 w' σ := by
  refine Cl.of Tryz.func85 rfl Tryz.ntmps85 (by simp) (args_cons (k := 0) rfl (args_cons (k := 1) rfl (args0))) ?_
  refine .regSeq ?_
  refine .o (.box hs rfl rfl ?_); intro b2 w hs
  refine .o (.box hs rfl rfl ?_); intro b3 w hs
  refine .o (.alloc hs Tryz.zeroValue140 rfl ?_); intro b4 w hs
  refine .z zg (.nil (.seq (.regSeq (.y hs (zls [_, _, _, _, _, _, _, _] Tryz.isAgg38 Tryz.sizeOf38) ?_))))
  refine .o (.call Tryz.call42 rfl (offsets_Check_spec (s := s) hs h1 h2 h3 h4) ?_); rintro _ w ⟨H1, e, hle1, rfl, hC, hs⟩
  refine .z zg (.nil (.regSeq (.z zm (.z zneq (.nil ?_)))))
  refine (.condN rfl (fun hc12 => ?_) (fun hc12 => ?_))
  · refine .regSeq (.z (zbd [_, _, _, _] bld_offsets_question) (.z zm ?_))
    refine .o (.stores (vs := [_, _, _, _]) hs rfl rfl Tryz.sizeOf140 ?_); intro w hs
    refine .z zg (.nil ?_)
    refine .ret (rT (?_))
    exact Fin.retD [] [] hs fun w hs => ⟨_, results2 Tryz.results85 (rcells (vs := [_, _, _, _]) hs rfl Tryz.isAgg140 Tryz.sizeOf140) rfl, H1, _, _, _, _, e, hle1, rfl, ⟨_, _, _, rfl⟩, ⟨_, _, _, rfl⟩, .bad hC hc12, fun h => (hc12 h).elim, hs.out⟩
  · refine .skip ?_
    refine nT ?_
    refine .regSeq (.y hs (zls [_, _, _, _, _, _, _, _] Tryz.isAgg38 Tryz.sizeOf38) (.y hs (zls [_, _, _] Tryz.isAgg29 Tryz.sizeOf29) ?_))
    have hok : SrvOk s := hC.ok_iff.1 (by simpa using hc12)
    refine .o (.call Tryz.call155 rfl (offsets_ask_spec (s := s) (q := q) hs (h1.mono hle1) (h2.mono hle1) (h3.mono hle1) (h4.mono hle1) hok) ?_); rintro _ w ⟨H2, ul, vw, L, d, b, hle2, rfl, hL, hR, hLl, hcase, hs⟩
    have hle02 := hle1.trans hle2
    obtain ⟨al, cl, rfl⟩ := RL.shape hL
    obtain ⟨aw, cw, rfl⟩ := RI.shape hR
    refine .z zm (.z zex (.z zex ?_))
    refine .o (.alloc hs Tryz.zeroValue140 rfl ?_); intro b7 w hs
    refine .o (.stores (vs := [_, _, _, _]) hs rfl rfl Tryz.sizeOf140 ?_); intro w hs
    refine .z zg (.nil (.seq (.block (.regSeq (.z zm (.z znot (.z zg (.nil ?_))))))))
    refine (.cond rfl (fun hc21 => ?_) (fun hc21 => ?_))
    · refine .regSeq (.z (zbd [_, _, _, _] bld_offsets_question) ?_)
      refine .o (.stores (vs := [_, _, _, _]) hs rfl rfl Tryz.sizeOf140 ?_); intro w hs
      refine .z zg (.nil ?_)
      refine .ret (rB (rT (?_)))
      have hq : ¬ WhtOk s.sp q := by
        rcases hcase with ⟨g, _⟩ | ⟨_, g⟩
        · subst g; cases hc21
        · exact g
      exact Fin.retD [] [] hs fun w hs => ⟨_, results2 Tryz.results85 (rcells (vs := [_, _, _, _]) hs rfl Tryz.isAgg140 Tryz.sizeOf140) rfl, H2, _, _, _, _, _, hle02, rfl, ⟨_, _, _, rfl⟩, ⟨_, _, _, rfl⟩, .what hok hq, fun h => by omega, hs.out⟩
    · refine .regSeq (.y hs (zls [_, _, _, _, _, _, _, _] Tryz.isAgg38 Tryz.sizeOf38) ?_)
      obtain ⟨rfl, hq, rfl, rfl⟩ : b = true ∧ WhtOk s.sp q ∧ L = s.w q ∧ d = divW q := hcase.resolve_right fun h => by rw [h.1] at hc21; cases hc21
      refine .o (.call Tryz.call169 rfl (offsets_isTrue_spec (s := s) hs (h1.mono hle02) (h2.mono hle02) (h3.mono hle02) (h4.mono hle02) hok) ?_); rintro _ w ⟨H3, b27, hle3, rfl, hb27, hs⟩
      refine .z znot (.z zg (.nil ?_))
      refine (.cond rfl (fun hc25 => ?_) (fun hc25 => ?_))
      · refine .regSeq (.z (zbd [_, _, _, _] bld_offsets_question) ?_)
        refine .o (.stores (vs := [_, _, _, _]) hs rfl rfl Tryz.sizeOf140 ?_); intro w hs
        refine .z zg (.nil ?_)
        refine .ret (rB (rT (?_)))
        exact Fin.retD [] [] hs fun w hs => ⟨_, results2 Tryz.results85 (rcells (vs := [_, _, _, _]) hs rfl Tryz.isAgg140 Tryz.sizeOf140) rfl, H3, _, _, _, _, _, hle02.trans hle3, rfl, ⟨_, _, _, rfl⟩, ⟨_, _, _, rfl⟩, .fls hok hq (fun h => by rw [hb27.2 h] at hc25; cases hc25), fun h => by omega, hs.out⟩
      · refine .skip ?_
        refine nB (nT ?_)
        refine .regSeq (.y hs (zls [_, _, _, _] Tryz.isAgg140 Tryz.sizeOf140) ?_)
        refine .o (.stores (vs := [_, _, _, _]) hs rfl rfl Tryz.sizeOf140 ?_); intro w hs
        refine .z zg (.nil ?_)
        refine .ret ?_
        exact Fin.retD [] [] hs fun w hs => ⟨_, results2 Tryz.results85 (rcells (vs := [_, _, _, _]) hs rfl Tryz.isAgg140 Tryz.sizeOf140) rfl, H3, _, _, _, _, _, hle02.trans hle3, rfl, ⟨_, _, _, rfl⟩, ⟨_, _, _, rfl⟩, .ok hok hq (hb27.1 (by simpa using hc25)), fun _ => ⟨rfl, hL.mono hle3, hR.mono hle3, rfl⟩, hs.out⟩
set_option maxHeartbeats 1000000 in
theorem offsets_Bound_spec {H : Heap} {w : World} {σ : List Ent} {s : Srv} {q : Wht} {vst vwa vr vc : Value} (hs : St H w σ) (h1 : RI H vst s.sp.st) (h2 : RI H vwa s.sp.wa) (h3 : RRd H vr s.rs) (h4 : RCm H vc s.cs) :
    Cl Tryz.prog 26 [.agg #[I s.sp.id, I s.sp.src, vst, vwa, I s.sp.al, I s.sp.up, vr, vc], .agg #[I q.kind, I q.st, I q.wa]] w fun u w' => ∃ H1 lo hi e, HLe H H1 ∧ u = .tuple #[.agg #[I lo, I hi], I e] ∧ QtyR s q lo hi e ∧ St H1 w' σ := by
  refine Cl.of Tryz.func26 rfl Tryz.ntmps26 (by simp) (args_cons (k := 0) rfl (args_cons (k := 1) rfl (args0))) ?_
  refine .regSeq ?_
  refine .o (.box hs rfl rfl ?_); intro b2 w hs
  refine .o (.box hs rfl rfl ?_); intro b3 w hs
  refine .o (.alloc hs Tryz.zeroValue44 rfl ?_); intro b4 w hs
  refine .z zg (.nil (.regSeq (.y hs (zls [_, _, _, _, _, _, _, _] Tryz.isAgg38 Tryz.sizeOf38) (.y hs (zls [_, _, _] Tryz.isAgg29 Tryz.sizeOf29) ?_))))
  refine .o (.call Tryz.call85 rfl (offsets_asked_spec (s := s) (q := q) hs h1 h2 h3 h4) ?_); rintro _ w ⟨H1, m, ul, vw, d, e, hle1, rfl, ⟨al, ll, cl, rfl⟩, ⟨aw, lw, cw, rfl⟩, hA, hA0, hs⟩
  refine .z zm (.z zex (.z zex ?_))
  refine .o (.alloc hs Tryz.zeroValue140 rfl ?_); intro b6 w hs
  refine .o (.stores (vs := [_, _, _, _]) hs rfl rfl Tryz.sizeOf140 ?_); intro w hs
  refine .z zg (.nil (.seq (.regSeq (.z zm (.z zneq (.nil ?_))))))
  refine (.condN rfl (fun hc17 => ?_) (fun hc17 => ?_))
  · refine .regSeq (.z (zbd [_, _] bld_api_Range) (.z zm ?_))
    refine .o (.stores (vs := [_, _]) hs rfl rfl Tryz.sizeOf44 ?_); intro w hs
    refine .z zg (.nil ?_)
    refine .ret (rT (?_))
    exact Fin.retD [] [] hs fun w hs => ⟨_, results2 Tryz.results26 (rcells (vs := [_, _]) hs rfl Tryz.isAgg44 Tryz.sizeOf44) rfl, H1, _, _, _, hle1, rfl, hA.qty hc17, hs.out⟩
  · refine .skip ?_
    refine nT ?_
    refine .regSeq (.z (zfa fa_offsets_question_0) (.y hs (zls [_, _] Tryz.isAgg70 Tryz.sizeOf70) (.z (zfa fa_offsets_question_1) (.y hs (zld Tryz.isAgg22) ?_))))
    obtain rfl : e = 0 := by simpa using hc17
    obtain ⟨rfl, hL, hR, rfl⟩ := hA0 rfl
    obtain ⟨hok, hq, hsd⟩ := hA.zero
    refine .o (.call Tryz.call74 rfl (bound_Range_spec (s := s.sys) hs ⟨_, rfl, hL⟩ hR) ?_); rintro _ w ⟨H2, lo, hi, f, hle2, rfl, hRg, hs⟩
    obtain rfl := bounded_range (hok.ask hq) hsd (fun b => s.both) hRg
    have hbd := hRg.bd
    have hdp := divW_pos q
    refine .z zm (.z zex (.z zex (.z zex (.z zg (.z zg (.z zg (.nil (.seq (.regSeq ?_)))))))))
    refine .z zm (.z zneq (.nil ?_))
    refine (.condN rfl (fun hc30 => ?_) (fun hc30 => ?_))
    · refine .regSeq (.z (zbd [_, _] bld_api_Range) (.z zm ?_))
      refine .o (.stores (vs := [_, _]) hs rfl rfl Tryz.sizeOf44 ?_); intro w hs
      refine .z zg (.nil ?_)
      refine .ret (rT (?_))
      exact (hc30 rfl).elim
    · refine .skip ?_
      refine nT ?_
      refine .seq (.draw mix rfl hs ?_); intro w hs
      refine .z 0 rfl zm ?_; refine .z 1 rfl (zfa fa_offsets_question_2) ?_; refine .y 2 rfl hs Tryz.isAgg3 ?_; refine .z 4 rfl zm ?_; refine .z 5 rfl (zfa fa_offsets_question_2) ?_; refine .y 6 rfl hs Tryz.isAgg3 ?_
      refine .e1 (i := 3) (by kernel_rfl) rfl rfl .none hs ?_
      refine .call Tryz.call86 rfl (offsets_down_spec hs (by omega) (by omega)) ?_; rintro _ w ⟨rfl, hs⟩
      refine .go ?_
      refine .e1 (i := 7) (by kernel_rfl) rfl rfl .none hs ?_
      refine .call Tryz.call86 rfl (offsets_down_spec hs (by omega) (by omega)) ?_; rintro _ w ⟨rfl, hs⟩
      refine .go ?_
      refine .z 8 rfl (zbd [_, _] bld_api_Range) ?_
      refine .e1 (i := 9) (by kernel_rfl) rfl rfl .none hs ?_
      refine .stores (vs := [_, _]) hs rfl rfl Tryz.sizeOf44 ?_; intro w hs
      refine .go ?_
      refine .z 10 rfl zg ?_; refine .done (by kernel_rfl) hs ?_
      refine .ret ?_
      exact Fin.retD [] [] hs fun w hs => ⟨_, results2 Tryz.results26 (rcells (vs := [_, _]) hs rfl Tryz.isAgg44 Tryz.sizeOf44) rfl, H2, _, _, _, hle1.trans hle2, rfl, .ok hok hq hsd hRg, hs.out⟩
inductive ClashR (v : Srv) (out : List Int) : Int → Prop
  | bad {e : Int} (h : SrvR v e) (he : e ≠ 0) (h1 : out = []) : ClashR v out e
  | ok {e : Int} (h : SrvOk v) (h1 : ConfR v.sys out e) : ClashR v out e
theorem offsets_Clash_spec {H : Heap} {w : World} {σ : List Ent} {s : Srv} {vst vwa vr vc : Value} (hs : St H w σ) (h1 : RI H vst s.sp.st) (h2 : RI H vwa s.sp.wa) (h3 : RRd H vr s.rs) (h4 : RCm H vc s.cs) :
    Cl Tryz.prog 32 [.agg #[I s.sp.id, I s.sp.src, vst, vwa, I s.sp.al, I s.sp.up, vr, vc]] w fun u w' => ∃ H1 vx out e, HLe H H1 ∧ u = .tuple #[vx, I e] ∧ RI H1 vx out ∧ ClashR s out e ∧ St H1 w' σ := by
  refine Cl.of Tryz.func32 rfl Tryz.ntmps32 (by simp) (args_cons (k := 0) rfl (args0)) ?_
  refine .regSeq ?_
  refine .o (.box hs rfl rfl ?_); intro b1 w hs
  refine .z zg (.z zg (.nil (.seq (.regSeq (.y hs (zls [_, _, _, _, _, _, _, _] Tryz.isAgg38 Tryz.sizeOf38) ?_)))))
  refine .o (.call Tryz.call42 rfl (offsets_Check_spec (s := s) hs h1 h2 h3 h4) ?_); rintro _ w ⟨H1, e, hle1, rfl, hC, hs⟩
  refine .z zg (.nil (.regSeq (.z zm (.z zneq (.nil ?_)))))
  refine (.condN rfl (fun hc10 => ?_) (fun hc10 => ?_))
  · refine .regSeq (.z zm (.z zg (.z zg (.nil ?_))))
    refine .ret (rT (Fin.ret2 Tryz.results32 rfl rfl ?_))
    exact ⟨H1, _, [], _, hle1, rfl, RS.nil H1 1 none 0, .bad hC hc10 rfl, hs.out⟩
  · refine .skip ?_
    refine nT ?_
    refine .regSeq (.y hs (zls [_, _, _, _, _, _, _, _] Tryz.isAgg38 Tryz.sizeOf38) ?_)
    have hok : SrvOk s := hC.ok_iff.1 (by simpa using hc10)
    refine .o (.call Tryz.call92 rfl (offsets_system_spec (s := s) hs (h1.mono hle1) (h2.mono hle1) (h3.mono hle1) (h4.mono hle1) hok.early) ?_); rintro v14 w ⟨H2, hle2, hS, hs⟩
    refine .o (.call Tryz.call98 rfl (bound_Conflict_spec (s := s.sys) hs hS) ?_); rintro _ w ⟨H3, vx, out, f, hle3, rfl, hR, hCf, hs⟩
    refine .z zm (.z zex (.z zex (.z zg (.z zg (.nil (.regSeq (.z zm (.z zm (.z zg ?_)))))))))
    refine .z zg (.nil ?_)
    refine .ret (Fin.ret2 Tryz.results32 rfl rfl ?_)
    exact ⟨H3, _, out, _, hle1.trans (hle2.trans hle3), rfl, hR, .ok hok hCf, hs.out⟩
set_option maxHeartbeats 1000000 in
theorem offsets_Tape_spec {H : Heap} {w : World} {σ : List Ent} {s : Srv} {t : TD} {vst vwa vr vc : Value} (hs : St H w σ) (h1 : RI H vst s.sp.st) (h2 : RI H vwa s.sp.wa) (h3 : RRd H vr s.rs) (h4 : RCm H vc s.cs) :
    Cl Tryz.prog 28 [.agg #[I s.sp.id, I s.sp.src, vst, vwa, I s.sp.al, I s.sp.up, vr, vc], .agg #[I t.tape, I t.day]] w fun u w' => ∃ H1 lo hi e, HLe H H1 ∧ u = .tuple #[.agg #[I lo, I hi], I e] ∧ TapeR s t lo hi e ∧ St H1 w' σ := by
  refine Cl.of Tryz.func28 rfl Tryz.ntmps28 (by simp) (args_cons (k := 0) rfl (args_cons (k := 1) rfl (args0))) ?_
  refine .regSeq ?_
  refine .o (.box hs rfl rfl ?_); intro b2 w hs
  refine .o (.box hs rfl rfl ?_); intro b3 w hs
  refine .o (.alloc hs Tryz.zeroValue44 rfl ?_); intro b4 w hs
  refine .z zg (.nil (.seq (.regSeq (.y hs (zls [_, _, _, _, _, _, _, _] Tryz.isAgg38 Tryz.sizeOf38) ?_))))
  refine .o (.call Tryz.call42 rfl (offsets_Check_spec (s := s) hs h1 h2 h3 h4) ?_); rintro _ w ⟨H1, e, hle1, rfl, hC, hs⟩
  refine .z zg (.nil (.regSeq (.z zm (.z zneq (.nil ?_)))))
  refine (.condN rfl (fun hc15 => ?_) (fun hc15 => ?_))
  · refine .regSeq (.z (zbd [_, _] bld_api_Range) (.z zm ?_))
    refine .o (.stores (vs := [_, _]) hs rfl rfl Tryz.sizeOf44 ?_); intro w hs
    refine .z zg (.nil ?_)
    refine .ret (rT (?_))
    exact Fin.retD [] [] hs fun w hs => ⟨_, results2 Tryz.results28 (rcells (vs := [_, _]) hs rfl Tryz.isAgg44 Tryz.sizeOf44) rfl, H1, _, _, _, hle1, rfl, .bad hC hc15, hs.out⟩
  · refine .skip ?_
    refine nT ?_
    refine .seq (.draw mix rfl hs ?_); intro w hs
    refine .ys 0 rfl hs [_, _, _, _, _, _, _, _] Tryz.isAgg38 Tryz.sizeOf38 ?_; refine .ys 2 rfl hs [_, _] Tryz.isAgg49 Tryz.sizeOf49 ?_
    refine .e1 (i := 1) (by kernel_rfl) rfl rfl .none hs ?_
    have hok : SrvOk s := hC.ok_iff.1 (by simpa using hc15)
    have hsm := spc_small hok.early.1
    have hrl := hok.early.2.1
    have hn := srv_n s
    have htl : s.tapes.length ≤ 60 := by have := tapesOf_length s.rs; unfold Srv.tapes; omega
    refine .call Tryz.call90 rfl (offsets_tapes_spec (s := s) hs (h3.mono hle1) (by omega)) ?_; rintro v19 w ⟨H2, hle2, hT, hs⟩
    have hle02 := hle1.trans hle2
    refine .go ?_
    refine .e1 (i := 3) (by kernel_rfl) rfl rfl .none hs ?_
    refine .call Tryz.call89 rfl (slices_Index_td (t := t) hs hT (by omega)) ?_; rintro _ w ⟨rfl, hs⟩
    have hnn := tdIdx_nonneg (l := s.tapes) (t := t)
    refine .go ?_
    refine .z 4 rfl zg ?_; refine .done (by kernel_rfl) hs ?_
    refine .seq (.regSeq (.z zm (.z zlss (.nil ?_))))
    refine (.condD rfl (fun hc23 => ?_) (fun hc23 => ?_))
    · refine .regSeq (.z (zbd [_, _] bld_api_Range) ?_)
      refine .o (.stores (vs := [_, _]) hs rfl rfl Tryz.sizeOf44 ?_); intro w hs
      refine .z zg (.nil ?_)
      refine .ret (rT (?_))
      exact Fin.retD [] [] hs fun w hs => ⟨_, results2 Tryz.results28 (rcells (vs := [_, _]) hs rfl Tryz.isAgg44 Tryz.sizeOf44) rfl, H2, _, _, _, hle02, rfl, .none hok (fun h => by have := hnn.2 h; omega), hs.out⟩
    · refine .skip ?_
      refine nT ?_
      refine .seq (.draw mix rfl hs ?_); intro w hs
      refine .z 0 rfl (zfa fa_api_Survey_0) ?_; refine .ys 1 rfl hs [_, _, _, _, _, _] Tryz.isAgg34 Tryz.sizeOf34 ?_; refine .ys 4 rfl hs [_, _, _, _, _, _, _, _] Tryz.isAgg38 Tryz.sizeOf38 ?_
      refine .e1 (i := 2) (by kernel_rfl) rfl rfl .none hs ?_
      have hmem : t ∈ s.tapes := hnn.1 (by omega)
      obtain ⟨k, k1, k2, k3⟩ := tdIdx_mem hmem
      have hlt := SrvOk.tape_lt hmem
      rw [k1, Int.toNat_natCast] at hlt
      rw [k1] at hc23 ⊢
      refine .call Tryz.call91 rfl (offsets_many_spec (s := s.sp) hs (h1.mono hle02) (h2.mono hle02) ⟨by omega, by omega⟩) ?_; rintro _ w ⟨rfl, hs⟩
      refine .go ?_
      refine .z 3 rfl zadd ?_
      refine .e1 (i := 5) (by kernel_rfl) rfl rfl .none hs ?_
      refine .call Tryz.call90 rfl (offsets_tapes_spec (s := s) hs (h3.mono hle02) (by omega)) ?_; rintro v30 w ⟨H3, hle3, hT2, hs⟩
      have hle03 := hle02.trans hle3
      obtain ⟨at_, ct, rfl⟩ := RTd.shape hT2
      refine .go ?_
      refine .z 6 rfl (zlen Tryz.runUnderlying51) ?_; refine .z 7 rfl zadd ?_
      refine .e1 (i := 8) (by kernel_rfl) rfl rfl .none hs ?_
      refine .makeI s.sys.n hs (by show some (I _) = some (I _); congr 2; rw [hn]; show _ = ((s.sp.many + s.tapes.length + 1 : Nat) : Int); omega) (by show some (I _) = some (I _); congr 2; rw [hn]; show _ = ((s.sp.many + s.tapes.length + 1 : Nat) : Int); omega) Tryz.runUnderlying22 Tryz.typeInfo3 rfl Tryz.sizeOf3 Tryz.zeroValue3 (by omega) ?_; intro b33 w hs
      refine .go ?_
      refine .z 9 rfl zg ?_; refine .done (by kernel_rfl) hs ?_
      refine .regSeq (.z zm (.z (zfa fa_api_Survey_0) (.y hs (zls [_, _, _, _, _, _] Tryz.isAgg34 Tryz.sizeOf34) ?_)))
      refine .o (.call Tryz.call91 rfl (offsets_many_spec (s := s.sp) hs (h1.mono hle03) (h2.mono hle03) ⟨by omega, by omega⟩) ?_); rintro _ w ⟨rfl, hs⟩
      refine .z zadd (.z zm (.z zadd ?_))
      refine .q hs (q_ixO (k := s.sp.many + 1 + k) rfl rfl Tryz.runUnderlying22 Tryz.sizeOf3 (by omega) (by omega)) ?_
      refine .o (.store (c' := Is (unitL s.sys.n (s.sp.many + 1 + k) 1)) hs rfl rfl Tryz.sizeOf3 ?_ (by repeat constructor) (by simp [Is]; omega) (Is_set _ _ _)); intro w hs
      refine .nil (.regSeq (.y hs (zls [_, _, _, _, _, _, _, _] Tryz.isAgg38 Tryz.sizeOf38) ?_))
      obtain ⟨H4, hle4, hW, hs⟩ := OwnS.publishI (xs := unitL s.sys.n (s.sp.many + 1 + k) 1) (v := .slice (some ⟨b33, 0, none⟩) s.sys.n s.sys.n) (.full (by simp [Is, unitL_length])) (by rw [unitL_length]; omega) hs (by repeat constructor)
      have hle04 := hle03.trans hle4
      refine .o (.call Tryz.call92 rfl (offsets_system_spec (s := s) hs (h1.mono hle04) (h2.mono hle04) (h3.mono hle04) (h4.mono hle04) hok.early) ?_); rintro v44 w ⟨H5, hle5, hS, hs⟩
      refine .z zm ?_
      refine .o (.call Tryz.call74 rfl (bound_Range_spec (s := s.sys) hs hS (hW.mono hle5)) ?_); rintro _ w ⟨H6, lo, hi, f, hle6, rfl, hRg, hs⟩
      have hbd := hRg.bd
      have hleF := hle04.trans (hle5.trans hle6)
      have hA := hok.unit_ask hlt (x := 1) (by omega)
      refine .z zm (.z zex (.z zex (.z zex (.z zg (.z zg (.z zg (.nil (.seq (.regSeq ?_)))))))))
      refine .z zm (.z zneq (.nil ?_))
      refine (.condN rfl (fun hc51 => ?_) (fun hc51 => ?_))
      · refine .regSeq (.z (zbd [_, _] bld_api_Range) ?_)
        refine .o (.stores (vs := [_, _]) hs rfl rfl Tryz.sizeOf44 ?_); intro w hs
        refine .z zg (.nil ?_)
        refine .ret (rT (?_))
        have hns : ¬ s.sys.Sound := fun h => hc51 (bounded_range hA h (fun b => s.both) hRg)
        exact Fin.retD [] [] hs fun w hs => ⟨_, results2 Tryz.results28 (rcells (vs := [_, _]) hs rfl Tryz.isAgg44 Tryz.sizeOf44) rfl, H6, _, _, _, hleF, rfl, .fls hok hmem hns, hs.out⟩
      · refine .skip ?_
        refine nT ?_
        refine .regSeq (.z zm (.z zneg (.z zm (.z zneg (.z (zbd [_, _] bld_api_Range) ?_)))))
        refine .o (.stores (vs := [_, _]) hs rfl rfl Tryz.sizeOf44 ?_); intro w hs
        refine .z zg (.nil ?_)
        refine .ret ?_
        obtain rfl : f = 0 := by simpa using hc51
        have hsd : s.sys.Sound := Classical.byContradiction fun h => by have := clash_range hA h hRg; omega
        exact Fin.retD [] [] hs fun w hs => ⟨_, results2 Tryz.results28 (rcells (vs := [_, _]) hs rfl Tryz.isAgg44 Tryz.sizeOf44) rfl, H6, _, _, _, hleF, rfl, .ok hok hmem hsd (by rw [k1, Int.toNat_natCast]; exact hRg), hs.out⟩
end Go.Proofs.YtddaejgfjlneoaaGreat

namespace Go.Proofs.YtddaejgfjlneoaaGreat
open Go.MW
theorem slices_IndexFunc_rows {H : Heap} {w : World} {σ : List Ent} {v : Value} {rs : List (List Int)} {g : Nat} {cap : List Value} (q : List Int → Prop) (hs : St H w σ) (hR : RT H v rs) (hl : rs.length ≤ 9223372036854775807) (hc : ∀ args w, (callFunc g args).run Tryz.prog w = .ok (.enter g args) w)
    (hp : ∀ H' w σ r u, HLe H H' → RI H' u r → St H' w σ → Cl Tryz.prog g ([u] ++ cap) w fun z w' => ∃ H1 b, HLe H' H1 ∧ z = .bool b ∧ (b = true ↔ q r) ∧ St H1 w' σ) :
    Cl Tryz.prog 236 [v, .func (.func g) #[] cap.toArray] w fun u w' => ∃ H1 i, HLe H H1 ∧ u = I i ∧ (0 ≤ i ↔ ∃ x ∈ rs, q x) ∧ St H1 w' σ := by
  obtain ⟨a, c, rfl⟩ := hR.shape
  refine Cl.of Tryz.func236 rfl Tryz.ntmps236 (by simp) (args_cons (k := 0) rfl (args_cons (k := 1) rfl (args0))) ?_
  refine .regSeq (.z zg (.nil (.seq (.regSeq (.z zm (.z (zlen Tryz.runUnderlying61) (.z zm (.nil ?_))))))))
  refine .for (N := rs.length) (J := fun k fr w => fr = [(1, .func (.func g) #[] cap.toArray), (0, .slice a rs.length c)] ∧ ∃ H1, HLe H H1 ∧ (∀ j < k, ∀ y, rs[j]? = some y → ¬ q y) ∧ St H1 w σ) (by omega) ?_ ?_ ?_
  · exact .mk ⟨rfl, H, HLe.refl H, fun j hj => by omega, hs⟩
  · rintro k fr w hk ⟨rfl, H1, hle1, hno, hs⟩
    have hx := gr_get (rs := rs) hk
    refine .block (.regSeq (.z zm (.z zg (.nil (.regSeq (.z zm (.z zm (.z zm ?_))))))))
    refine .ixT hs (hR.mono hle1) rfl rfl Tryz.runUnderlying61 Tryz.sizeOf22 (show k < _ by omega) (by first | rfl | assumption | omega) ?_; intro b14 o14 a14 c14 hc14 hR14
    refine .q hs (q_loadR rfl Tryz.isAgg22 hc14) ?_
    refine .o (.callG (first := []) (cap := cap) rfl rfl hc (hp _ _ _ (gr rs k) _ hle1 hR14 hs) ?_); rintro _ w ⟨H2, b16, hle2, rfl, hb16, hs⟩
    refine .nil ?_
    refine (.cond rfl (fun hc16 => ?_) (fun hc16 => ?_))
    · refine .regSeq (.z zm (.z zg (.nil ?_)))
      refine .ret (rB (rT (rB (rT (Fin.ret1 Tryz.results236 rfl ?_)))))
      exact ⟨H2, _, hle1.trans hle2, rfl, ⟨fun _ => ⟨_, List.mem_of_getElem? hx, hb16.1 hc16⟩, fun _ => by omega⟩, hs⟩
    · refine .skip ?_
      refine nB (nT ?_)
      exact .mk ⟨rfl, H2, hle1.trans hle2, upto_succ hno hx (fun h => by rw [hb16.2 h] at hc16; cases hc16), hs⟩
  · rintro fr w ⟨rfl, H1, hle1, hno, hs⟩
    refine nT ?_
    refine .regSeq (.z zg (.nil ?_))
    refine .ret (Fin.ret1 Tryz.results236 rfl ?_)
    exact ⟨H1, _, hle1, rfl, ⟨fun h => by omega, fun ⟨x, h1, h2⟩ => by
      obtain ⟨j, hj⟩ := List.getElem?_of_mem h1
      exact (hno j (List.getElem?_eq_some_iff.1 hj).1 x hj h2).elim⟩, hs⟩
theorem slices_ContainsFunc_rows {H : Heap} {w : World} {σ : List Ent} {v : Value} {rs : List (List Int)} {g : Nat} {cap : List Value} (q : List Int → Prop) (hs : St H w σ) (hR : RT H v rs) (hl : rs.length ≤ 9223372036854775807) (hc : ∀ args w, (callFunc g args).run Tryz.prog w = .ok (.enter g args) w)
    (hp : ∀ H' w σ r u, HLe H H' → RI H' u r → St H' w σ → Cl Tryz.prog g ([u] ++ cap) w fun z w' => ∃ H1 b, HLe H' H1 ∧ z = .bool b ∧ (b = true ↔ q r) ∧ St H1 w' σ) :
    Cl Tryz.prog 186 [v, .func (.func g) #[] cap.toArray] w fun u w' => ∃ H1 b, HLe H H1 ∧ u = .bool b ∧ (b = true ↔ ∃ x ∈ rs, q x) ∧ St H1 w' σ := by
  refine Cl.of Tryz.func186 rfl Tryz.ntmps186 (by simp) (args_cons (k := 0) rfl (args_cons (k := 1) rfl (args0))) ?_
  refine .regSeq (.z zg (.nil (.regSeq (.z zm (.z zm ?_)))))
  refine .o (.call Tryz.call236 rfl (slices_IndexFunc_rows q hs hR hl hc hp) ?_); rintro _ w ⟨H1, i, hle1, rfl, hi, hs⟩
  refine .z zgeq (.z zg (.nil ?_))
  refine .ret (Fin.ret1 Tryz.results186 rfl ?_)
  exact ⟨H1, _, hle1, rfl, by simp only [decide_eq_true_eq]; exact hi, hs⟩
theorem isHull_1_1_spec {H : Heap} {w : World} {σ : List Ent} {n : Int} (hs : St H w σ) :
    Cl Tryz.prog 188 [I n] w fun u w' => u = .bool (!decide (0 ≤ n ∧ n ≤ 20000)) ∧ St H w' σ := by
  refine Cl.of Tryz.func188 rfl Tryz.ntmps188 (by simp) (args_cons (k := 0) rfl (args0)) ?_
  refine .regSeq (.z zg (.nil (.regSeq (.z zm ?_))))
  refine .o (.call Tryz.call105 rfl (offsets_within_spec hs) ?_); rintro _ w ⟨rfl, hs⟩
  refine .z znot (.z zg (.nil ?_))
  refine .ret (Fin.ret1 Tryz.results188 rfl ?_)
  exact ⟨rfl, hs⟩
theorem isHull_1_spec {H : Heap} {w : World} {σ : List Ent} {s : Spc} {v vst vwa : Value} {r : List Int} {b : Nat} (hs : St H w σ) (hb : Row H b [I s.id, I s.src, vst, vwa, I s.al, I s.up]) (h2 : RI H vwa s.wa) (hr : RI H v r) :
    Cl Tryz.prog 187 [v, .pointer (some ⟨b, 0, none⟩)] w fun u w' => ∃ H1 bb, HLe H H1 ∧ u = .bool bb ∧ (bb = true ↔ ¬ (r.length = s.wa.length ∧ ∀ x ∈ r, 0 ≤ x ∧ x ≤ 20000)) ∧ St H1 w' σ := by
  obtain ⟨a, c, rfl⟩ := RI.shape hr
  obtain ⟨awa, cwa, rfl⟩ := RI.shape h2
  have hb3 := hb.at 3
  refine Cl.of Tryz.func187 rfl Tryz.ntmps187 (by simp) (args_cons (k := 0) rfl (args_cons (k := 1) rfl (args0))) ?_
  refine .regSeq (.z zg (.nil (.regSeq (.z zm (.z (zlen Tryz.runUnderlying22) (.z (zfa fa_api_Space_3) (.y hs (zld Tryz.isAgg22) (.z (zlen Tryz.runUnderlying22) (.z zneq ?_)))))))))
  refine .z zm ?_
  refine .bifN (t' := 10) rfl (fun hb10 => ?_) (fun hb10 => ?_)
  · refine .gFs 2 6 false rfl rfl rfl ?_
    refine .z zpT (.z zg (.nil ?_))
    refine .ret (Fin.ret1 Tryz.results187 rfl ?_)
    exact ⟨H, true, HLe.refl H, rfl, ⟨fun _ h => by have := h.1; simp_all, fun _ => rfl⟩, hs⟩
  · refine .gT rfl rfl ?_
    refine .z zm ?_
    refine .gT rfl rfl ?_
    refine .o (.call Tryz.call134 rfl (slices_ContainsFunc_known (g := 188) (cap := []) (fun n => ¬ (0 ≤ n ∧ n ≤ 20000)) hs hr Tryz.call188 (fun H' w σ n _ _ hs => (isHull_1_1_spec hs).mono fun u w' ⟨g1, g2⟩ => ⟨H', _, HLe.refl _, g1, by simp; omega, g2⟩)) ?_); rintro _ w ⟨H1, b12, hle1, rfl, hb12, hs⟩
    refine .z zpF (.z zg (.nil ?_))
    refine .ret (Fin.ret1 Tryz.results187 rfl ?_)
    have hlen : r.length = s.wa.length := by simp_all; omega
    exact ⟨H1, _, hle1, rfl, by
      rw [hb12]
      constructor
      · rintro ⟨x, h1, h2⟩ h; exact h2 (h.2 x h1)
      · intro h
        refine Classical.byContradiction fun hn => h ⟨hlen, fun x hx => Classical.byContradiction fun hx' => hn ⟨x, hx, hx'⟩⟩, hs⟩
theorem hull_iff {s : Spc} {rows : List (List Int)} : HullOk s rows ↔ rows.length = s.st.length ∧ ∀ r ∈ rows, r.length = s.wa.length ∧ ∀ x ∈ r, 0 ≤ x ∧ x ≤ 20000 := by
  constructor
  · rintro ⟨h1, h2, h3⟩
    refine ⟨h1, fun r hr => ?_⟩
    obtain ⟨i, hi⟩ := List.getElem?_of_mem hr
    have hil := (List.getElem?_eq_some_iff.1 hi).1
    have hg := gr_get hil
    rw [hi] at hg
    obtain rfl := Option.some.inj hg
    have hl := h2 i (by omega)
    refine ⟨hl, fun x hx => ?_⟩
    obtain ⟨k, hk⟩ := List.getElem?_of_mem hx
    have hkl := (List.getElem?_eq_some_iff.1 hk).1
    have hgk := gi_get hkl
    rw [hk] at hgk
    obtain rfl := Option.some.inj hgk
    exact h3 i (by omega) k (by omega)
  · rintro ⟨h1, h2⟩
    have hm : ∀ i < s.st.length, gr rows i ∈ rows := fun i hi => List.mem_of_getElem? (gr_get (by omega))
    refine ⟨h1, fun i hi => (h2 _ (hm i hi)).1, fun i hi k hk => ?_⟩
    have hl := (h2 _ (hm i hi)).1
    exact (h2 _ (hm i hi)).2 _ (List.mem_of_getElem? (gi_get (by omega)))
theorem offsets_isHull_spec {H : Heap} {w : World} {σ : List Ent} {s : Spc} {vst vwa vh : Value} {rows : List (List Int)} (hs : St H w σ) (h1 : RI H vst s.st) (h2 : RI H vwa s.wa) (hr : RT H vh rows) :
    Cl Tryz.prog 101 [.agg #[I s.id, I s.src, vst, vwa, I s.al, I s.up], .agg #[vh]] w fun u w' => ∃ H1 b, HLe H H1 ∧ u = .bool b ∧ (b = true ↔ HullOk s rows) ∧ St H1 w' σ := by
  obtain ⟨ast, cst, rfl⟩ := RI.shape h1
  obtain ⟨awa, cwa, rfl⟩ := RI.shape h2
  obtain ⟨ah, ch, rfl⟩ := hr.shape
  have hrl := (hr.len).2.2
  refine Cl.of Tryz.func101 rfl Tryz.ntmps101 (by simp) (args_cons (k := 0) rfl (args_cons (k := 1) rfl (args0))) ?_
  refine .regSeq ?_
  refine .o (.box hs rfl rfl ?_); intro b2 w hs
  refine .o (.box hs rfl rfl ?_); intro b3 w hs
  refine .z zg (.nil (.regSeq (.z (zfa fa_api_Hull_0) (.y hs (zld Tryz.isAgg61) (.z (zlen Tryz.runUnderlying61) (.z (zfa fa_api_Space_2) (.y hs (zld Tryz.isAgg22) (.z (zlen Tryz.runUnderlying22) (.z zeql ?_)))))))))
  refine .z zm ?_
  refine .bifD (t' := 12) rfl (fun hb12 => ?_) (fun hb12 => ?_)
  · refine .gT rfl rfl ?_
    refine .z (zfa fa_api_Hull_0) ?_
    refine .gT rfl rfl ?_
    refine .y hs (zld Tryz.isAgg61) ?_
    refine .gT rfl rfl ?_
    refine .q hs (q_makeFunc (f := []) (c := [_]) rfl rfl) ?_
    refine .gT rfl rfl ?_
    obtain ⟨H0, hle0, hb2, hs⟩ := hs.publish (b := b2) (by repeat constructor)
    refine .o (.call Tryz.call186 rfl (slices_ContainsFunc_rows (g := 187) (cap := [.pointer (some ⟨b2, 0, none⟩)]) (fun r => ¬ (r.length = s.wa.length ∧ ∀ x ∈ r, 0 ≤ x ∧ x ≤ 20000)) hs (hr.mono hle0) hrl Tryz.call187 (fun H' w σ r u hle hu hs => isHull_1_spec (s := s) hs (hb2.mono hle) (h2.mono (hle0.trans hle)) hu)) ?_); rintro _ w ⟨H1, b16, hle1, rfl, hb16, hs⟩
    refine .gT rfl rfl ?_
    refine .z znot (.z zpT (.z zg (.nil ?_)))
    refine .ret (Fin.ret1 Tryz.results101 rfl ?_)
    exact ⟨H1, _, hle0.trans hle1, rfl, by
      rw [hull_iff]
      have hlen : rows.length = s.st.length := by omega
      cases hbb : b16 with
      | true =>
        obtain ⟨x, hx, hn⟩ := hb16.1 hbb
        exact ⟨fun h => (by cases h), fun h => (hn (h.2 x hx)).elim⟩
      | false => exact ⟨fun _ => ⟨hlen, fun r hr => Classical.byContradiction fun hn => by rw [hb16.2 ⟨r, hr, hn⟩] at hbb; cases hbb⟩, fun _ => rfl⟩, hs.out⟩
  · refine .gFs 5 7 true rfl rfl rfl ?_
    refine .z zpF (.z zg (.nil ?_))
    refine .ret (Fin.ret1 Tryz.results101 rfl ?_)
    exact ⟨H, _, HLe.refl H, rfl, ⟨fun h => (by cases h), fun h => by have := h.len; omega⟩, hs.out⟩
set_option maxHeartbeats 1000000 in
theorem offsets_Value_spec {H : Heap} {w : World} {σ : List Ent} {s : Spc} {q : Wht} {vst vwa vh : Value} {rows : List (List Int)} (hs : St H w σ) (h1 : RI H vst s.st) (h2 : RI H vwa s.wa) (hr : RT H vh rows) :
    Cl Tryz.prog 37 [.agg #[I s.id, I s.src, vst, vwa, I s.al, I s.up], .agg #[vh], .agg #[I q.kind, I q.st, I q.wa]] w fun u w' => ∃ H1 n e, HLe H H1 ∧ u = .tuple #[I n, I e] ∧ QvalR s rows q n e ∧ St H1 w' σ := by
  obtain ⟨ah, ch, rfl⟩ := hr.shape
  refine Cl.of Tryz.func37 rfl Tryz.ntmps37 (by simp) (args_cons (k := 0) rfl (args_cons (k := 1) rfl (args_cons (k := 2) rfl (args0)))) ?_
  refine .regSeq ?_
  refine .o (.box hs rfl rfl ?_); intro b3 w hs
  refine .o (.box hs rfl rfl ?_); intro b4 w hs
  refine .o (.box hs rfl rfl ?_); intro b5 w hs
  refine .z zg (.z zg (.nil (.seq (.regSeq (.y hs (zls [_, _, _, _, _, _] Tryz.isAgg34 Tryz.sizeOf34) ?_)))))
  refine .o (.call Tryz.call41 rfl (offsets_CheckSpace_spec (s := s) hs h1 h2) ?_); rintro _ w ⟨H1, e, hle1, rfl, he, hs⟩
  refine .z zg (.nil (.regSeq (.z zm (.z zneq (.nil ?_)))))
  refine (.condN rfl (fun hc17 => ?_) (fun hc17 => ?_))
  · refine .regSeq (.z zm (.z zg (.z zg (.nil ?_))))
    refine .ret (rT (?_))
    have hq : ¬ SpcOk s ∧ e = 30 := he.resolve_left fun h => hc17 h.2
    exact Fin.retD [] [] hs fun w hs => ⟨_, results2 Tryz.results37 rfl rfl, H1, _, _, hle1, rfl, by rw [hq.2]; exact .space hq.1, hs.out⟩
  · refine .skip ?_
    refine nT ?_
    refine .seq (.regSeq (.y hs (zls [_, _, _, _, _, _] Tryz.isAgg34 Tryz.sizeOf34) (.y hs (zls [_] Tryz.isAgg63 Tryz.sizeOf63) ?_)))
    have hok : SpcOk s := (he.resolve_right fun h => by omega).1
    have hsm := spc_small hok
    refine .o (.call Tryz.call101 rfl (offsets_isHull_spec (s := s) hs (h1.mono hle1) (h2.mono hle1) (hr.mono hle1)) ?_); rintro _ w ⟨H2, b21, hle2, rfl, hb21, hs⟩
    have hle02 := hle1.trans hle2
    refine .z znot (.nil ?_)
    refine (.cond rfl (fun hc22 => ?_) (fun hc22 => ?_))
    · refine .regSeq (.z zg (.z zg (.nil ?_)))
      refine .ret (rT (?_))
      exact Fin.retD [] [] hs fun w hs => ⟨_, results2 Tryz.results37 rfl rfl, H2, _, _, hle02, rfl, .hull hok (fun h => by rw [hb21.2 h] at hc22; cases hc22), hs.out⟩
    · refine .skip ?_
      refine nT ?_
      refine .regSeq (.y hs (zls [_, _, _, _, _, _] Tryz.isAgg34 Tryz.sizeOf34) (.y hs (zls [_, _, _] Tryz.isAgg29 Tryz.sizeOf29) ?_))
      have hh : HullOk s rows := hb21.1 (by simpa using hc22)
      refine .o (.call Tryz.call102 rfl (offsets_weights_spec (s := s) (q := q) hs (h1.mono hle02) (h2.mono hle02) hok) ?_); rintro _ w ⟨H3, vl, L, d, b, en, hle3, rfl, hO, hcase, hs⟩
      have hle03 := hle02.trans hle3
      obtain ⟨al, cl, rfl⟩ := hO.shapeI
      refine .z zm (.z zex (.z zex (.z zex ?_)))
      refine .o (.alloc hs Tryz.zeroValue22 rfl ?_); intro b9 w hs
      refine .o (.store hs rfl rfl Tryz.sizeOf22 ?_); intro w hs
      refine .z zg (.z zg (.nil (.seq (.regSeq (.z zm (.z znot (.nil ?_)))))))
      refine (.cond rfl (fun hc31 => ?_) (fun hc31 => ?_))
      · refine .regSeq (.z zg (.z zg (.nil ?_)))
        refine .ret (rT (?_))
        have hq : ¬ WhtOk s q := by
          rcases hcase with ⟨g, _⟩ | ⟨_, g, _⟩
          · subst g; cases hc31
          · exact g
        exact Fin.retD [] [] hs fun w hs => ⟨_, results2 Tryz.results37 rfl rfl, H3, _, _, hle03, rfl, .what hok hh hq, hs.out⟩
      · refine .skip ?_
        refine nT ?_
        refine .regSeq ?_
        refine .o (.alloc hs Tryz.zeroValue3 rfl ?_); intro b12 w hs
        refine .o (.store hs rfl rfl Tryz.sizeOf3 ?_); intro w hs
        refine .nil (.seq (.regSeq (.y hs (zls [_, _, _, _, _, _] Tryz.isAgg34 Tryz.sizeOf34) ?_)))
        obtain ⟨rfl, hq, rfl, rfl⟩ : b = true ∧ WhtOk s q ∧ L = whtL s q ∧ d = divW q := hcase.resolve_right fun h => by rw [h.1] at hc31; cases hc31
        have hwl := whtL_length s q
        obtain ⟨H4, hle4, hW, hs⟩ := OwnS.publishI hO (by omega) hs (by repeat constructor)
        have hle04 := hle03.trans hle4
        refine .o (.call Tryz.call103 rfl (offsets_all_spec (s := s) hs (h1.mono hle04) (h2.mono hle04) ⟨by omega, by omega⟩) ?_); rintro _ w ⟨H5, ba, hle5, rfl, hit, hs⟩
        have hle05 := hle04.trans hle5
        replace hW := hW.mono hle5
        have hr5 := hr.mono hle05
        refine .nil (.block ?_)
        refine .rangeFunc (gf := 190) (cap := [.pointer (some ⟨ba, 0, none⟩)]) (xs := allV s) (σb := [.blk b12 [I (hullSum s q rows 0)], .blk b9 [.slice al (whtL s q).length cl], .blk b4 [.slice ah rows.length ch]]) (σf := σ) (hs.sub (by repeat (first | exact Sub.refl _ | constructor | apply Sub.weaken))) trivial rfl hit Tryz.call190 (fun x hx => by
            simp only [allV, List.mem_map] at hx
            obtain ⟨j, _, rfl⟩ := hx; rfl) rfl
          (I := fun p H' σb => σb = [.blk b12 [I (hullSum s q rows p)], .blk b9 [.slice al (whtL s q).length cl], .blk b4 [.slice ah rows.length ch]]) (Ix := fun _ _ _ => False)
          (fun j _ _ σ g1 g2 => g2) (fun _ _ _ _ _ h => h) rfl ?_ ?_ (fun D c H' σb w _ h _ => h.elim)
        · rintro ly p hp H6 σb2 σf2 w hle6 rfl hs ⟨rr, hrr⟩
          have hpm : p < s.many := by rw [allV_length] at hp; exact hp
          have hin : p / s.wa.length < s.st.length := Nat.div_lt_of_lt_mul (by rw [Nat.mul_comm]; exact hpm)
          have hkm := Nat.mod_lt p hsm.2.2.1
          have hsucc : hullSum s q rows (p + 1) = hullSum s q rows p + gi (whtL s q) (p + 1) * gt rows (p / s.wa.length) (p % s.wa.length) := rfl
          have hb0 := hullSum_bd hok hq hh p (by omega)
          have hb1 := hullSum_bd hok hq hh (p + 1) (by omega)
          have hwz := whtL_sizes hok hq
          have hwz2 := sizes_at (whtL s q) (v := p + 1) (n := s.many + 1) (by omega)
          have hnum := hh.num _ hin _ hkm
          have hrow := hh.row _ hin
          have hrlen := hh.len
          have hprd := mul_bd (a := gi (whtL s q) (p + 1)) (b := gt rows (p / s.wa.length) (p % s.wa.length)) (A := 3456000000000) (B := 20000) (by omega) (by omega)
          have hgt : gt rows (p / s.wa.length) (p % s.wa.length) = gi (gr rows (p / s.wa.length)) (p % s.wa.length) := rfl
          rw [allV_get hp]
          generalize p / s.wa.length = i at *
          generalize p % s.wa.length = k at *
          rw [hgt] at hsucc hprd hnum
          refine .region ?_
          refine .o (.alloc hs Tryz.zeroValue158 rfl ?_); intro b13 w hs
          refine .o (.stores (vs := [_, _, _]) hs rfl rfl Tryz.sizeOf158 ?_); intro w hs
          refine .nil ?_
          refine nT ?_
          refine ⟨H6, [.blk b13 [I (i : Int), I (k : Int), I ((p + 1 : Nat) : Int)], .blk b12 [I (hullSum s q rows p)], .blk b9 [.slice al (whtL s q).length cl], .blk b4 [.slice ah rows.length ch]], HLe.refl _, hs, ?_⟩; rintro w σf4 - hs
          refine .block ?_
          refine .draw mix rfl hs ?_; intro w hs
          refine .y 0 rfl hs Tryz.isAgg3 ?_; refine .y 1 rfl hs Tryz.isAgg22 ?_; refine .z 2 rfl (zfa fa_offsets_offset_2) ?_; refine .y 3 rfl hs Tryz.isAgg3 ?_
          refine .ixX (enc := fun x => [I x]) (i := 4) hs rfl (by kernel_rfl) .none (hW.mono hle6) rfl rfl Tryz.runUnderlying22 Tryz.sizeOf3 (gi_get (l := (whtL s q)) (i := (p+1)) (by omega)) (by first | rfl | assumption | omega) ?_; intro b39 o39 hc39; replace hc39 := CellsAt.one hc39
          refine .r (i := 5) hs rfl (by kernel_rfl) .none (q_loadR rfl Tryz.isAgg3 hc39) ?_
          refine .z 6 rfl (zfa fa_api_Hull_0) ?_; refine .y 7 rfl hs Tryz.isAgg61 ?_; refine .z 8 rfl (zfa fa_offsets_offset_0) ?_; refine .y 9 rfl hs Tryz.isAgg3 ?_
          refine .ixT (i := 10) hs rfl (by kernel_rfl) .none (hr5.mono hle6) rfl rfl Tryz.runUnderlying61 Tryz.sizeOf22 (show i < _ by omega) (by first | rfl | assumption | omega) ?_; intro b45 o45 a45 c45 hc45 hR45
          refine .r (i := 11) hs rfl (by kernel_rfl) .none (q_loadR rfl Tryz.isAgg22 hc45) ?_
          refine .z 12 rfl (zfa fa_offsets_offset_1) ?_; refine .y 13 rfl hs Tryz.isAgg3 ?_
          refine .ixX (enc := fun x => [I x]) (i := 14) hs rfl (by kernel_rfl) .none hR45 rfl rfl Tryz.runUnderlying22 Tryz.sizeOf3 (gi_get (l := (gr rows i)) (i := k) (by omega)) (by first | rfl | assumption | omega) ?_; intro b49 o49 hc49; replace hc49 := CellsAt.one hc49
          refine .r (i := 15) hs rfl (by kernel_rfl) .none (q_loadR rfl Tryz.isAgg3 hc49) ?_
          refine .z 16 rfl zmul ?_; refine .z 17 rfl zadd ?_
          refine .e1 (i := 18) (by kernel_rfl) rfl rfl .none hs ?_
          refine .store hs rfl rfl Tryz.sizeOf3 ?_; intro w hs
          refine .go ?_
          refine .done (by kernel_rfl) hs ?_
          refine nB ?_
          exact ⟨H6, [.blk b12 [I (hullSum s q rows (p + 1))], .blk b9 [.slice al (whtL s q).length cl], .blk b4 [.slice ah rows.length ch]], HLe.refl _, by rw [hsucc]; exact (hs.sub (by repeat (first | exact Sub.refl _ | constructor | apply Sub.weaken)) : St H6 w (.blk b12 _ :: .blk b9 _ :: .blk b4 _ :: σf4)), rfl⟩
        · rintro D H6 σb2 w hle6 rfl hs
          rw [allV_length] at hs
          replace hs : St H6 w (.obj D (.deferred (some [])) :: .blk b12 [I (hullSum s q rows s.many)] :: .blk b9 [.slice al (whtL s q).length cl] :: .blk b4 [.slice ah rows.length ch] :: σ) := hs
          have hbd := hullSum_bd hok hq hh s.many (by omega)
          have hdp := divW_pos q
          refine nB (nT ?_)
          refine .regSeq (.y hs (zld Tryz.isAgg3) (.z zm ?_))
          refine .o (.call Tryz.call86 rfl (offsets_down_spec hs (by omega) (by omega)) ?_); rintro _ w ⟨rfl, hs⟩
          refine .z zg (.z zg (.nil ?_))
          refine .ret ?_
          exact Fin.retD [D] [] hs fun w hs => ⟨_, results2 Tryz.results37 rfl rfl, H6, _, _, hle05.trans hle6, rfl, .ok hok hh hq, hs.out⟩
end Go.Proofs.YtddaejgfjlneoaaGreat
