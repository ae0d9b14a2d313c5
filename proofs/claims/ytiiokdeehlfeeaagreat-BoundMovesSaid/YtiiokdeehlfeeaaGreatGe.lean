/-
  Texts of these claims, joined: Wx Wy Wz Xb Xd Xe Xf Xg Xh Xi Xj Xl Xo Xq Xt Xu Xw Srt Ya Yb Yc Yd Ye Yf Yg Yj Yl Ym.
-/
import Derived.Test.YtiiokdeehlfeeaaGreatGd
import Derived.Shelf.Sort.Plain
import Derived.Shelf.Slices.CompactI
import Derived.Shelf.Slices.In.SortNone
import Derived.Lib.RowBridge
namespace Go.Proofs.YtiiokdeehlfeeaaGreat
open Go.MW
set_option maxHeartbeats 8000000 in
theorem ref02_Least_spec {H : Heap} {w : World} {σ : List Ent} {vm vw : Value} {Ms : List (List Int)} {ws : List Int} {n : Nat} {es : List Arc} (hs : St H w σ) (hM : RT H vm Ms) (hqM : Sq (n + 1) Ms) (hw : RI H vw ws) (hl : ws.length = n + 1) (hn : n + 1 ≤ 65) (hz : sizesTo ws (n + 1) ≤ FF)
    (hT : Tab (n + 1) (gt Ms) es) (hfe : ∃ p, Feas es p) (hcb : ∀ x ∈ es, -1400000 ≤ x.c ∧ x.c ≤ 1400000) (hbd : ∀ m, OptS es (wtOf ws (n + 1)) (n + 1) m → -BB ≤ m ∧ m ≤ BB) :
    Cl Tryz.prog 194 [vm, vw] w fun u w' => ∃ H1 v b, HLe H H1 ∧ u = .tuple #[I v, .bool b] ∧ ((b = true ∧ OptS es (wtOf ws (n + 1)) (n + 1) v) ∨ (b = false ∧ OpenS es (wtOf ws (n + 1)) (n + 1))) ∧ St H1 w' σ := by
  obtain ⟨am, cm, rfl⟩ := hM.shape
  have hml : Ms.length = n + 1 := hqM.1
  rw [hml] at hM ⊢
  have hnum := hT.numb
  have hC0 : ArcsC es (n + 1) := fun x hx => by
    have h1 := hT.ok x hx
    have h2 := (hT.at hx).2
    have h3 := hcb x hx
    exact ⟨h1.1, h1.2.1, h3.1, h3.2, by omega, h1.2.2.1⟩
  have hin : ∀ x ∈ es, x.f < n + 1 ∧ x.t < n + 1 := fun x hx => by have := hC0 x hx; omega
  have hw0 := wt_sum ws (n := n + 1) (by omega)
  have hFF : FF = 3600000000000 := rfl
  have hBB : BB = 4608000000000000000 := rfl
  have hfree : free = 1000000000 := rfl
  refine Cl.of Tryz.func194 rfl Tryz.ntmps194 (by simp) (args_cons (k := 0) rfl (args_cons (k := 1) rfl (args0))) ?_
  refine .regSeq (.z zg (.z zg (.nil (.regSeq (.z zm ?_)))))
  refine .o (.call Tryz.call206 rfl (ref02_balance_spec hs hw hl (by omega) hz) ?_); rintro _ w ⟨b21, cap, sp, lf0, rfl, hlf1, hlf2, hs⟩
  refine .z zg (.nil (.regSeq (.z zm (.z (zlen Tryz.runUnderlying29) ?_))))
  refine .o (.makeP (n + 1) hs rfl rfl Tryz.runUnderlying29 Tryz.typeInfo25 rfl Tryz.sizeOf25 Tryz.zeroValue25 (by omega) ?_); intro b24 w hs
  refine .z zg (.nil (.seq (.regSeq (.z zm (.z (zlen Tryz.runUnderlying29) (.z zm (.nil ?_)))))))
  refine .for (N := n + 1) (J := fun k fr w => fr = [(7, .slice (some ⟨b24, 0, none⟩) (n + 1) (n + 1)), (0, .slice am (n + 1) cm), (6, .slice (some ⟨b21, 0, none⟩) (n + 1) cap)] ∧ ∃ bs : List Nat, bs.length = k ∧ St H w (.blk b24 (bs.map (ptr (n + 1)) ++ List.replicate (n + 1 - k) (.slice none 0 0)) :: (rowsE bs (tabR (fun _ _ => 0) (n + 1) k) ++ (.blk b21 (Is lf0 ++ sp) :: σ)))) (by omega) ?_ ?_ ?_
  · exact .mk ⟨rfl, [], rfl, hs⟩
  · rintro k fr w hk ⟨rfl, bs, hbl, hs⟩
    refine .block (.regSeq (.z zm (.z zg (.nil (.region (.z zm (.z zm (.z zm (.z (zlen Tryz.runUnderlying29) ?_)))))))))
    refine .o (.makeI (n + 1) hs rfl rfl Tryz.runUnderlying25 Tryz.typeInfo3 rfl Tryz.sizeOf3 Tryz.zeroValue3 (by omega) ?_); intro b34 w hs
    first | (refine .ixw hs Tryz.runUnderlying29 Tryz.sizeOf25 ?_; intro b35 o35 hc35) | refine .z (zix Tryz.runUnderlying29 Tryz.sizeOf25) ?_
    refine .o (.store hs rfl rfl Tryz.sizeOf25 ?_ (by repeat constructor) (by simp [hbl]; omega) (ptr_set hbl hk)); intro w hs
    refine .nil ?_
    refine nB (nT ?_)
    rw [range_const (fun _ => 0) (n + 1) 0 (fun _ _ => rfl)] at hs
    replace hs := hs.rowIn (by rw [hbl, tabR_length])
    rw [← tabR_succ (fun _ _ => 0)] at hs
    exact .mk ⟨rfl, bs ++ [b34], by simp [hbl], hs⟩
  · rintro fr w ⟨rfl, bs, hbl, hs⟩
    rw [Nat.sub_self, List.replicate_zero, List.append_nil] at hs
    have hq0 := tabR_sq (fun _ _ => 0) (n + 1)
    have hc0 : Corr (n + 1) es (List.replicate es.length 0) (gt (tabR (fun _ _ => 0) (n + 1) (n + 1))) := by
      have h := Corr.zero (n + 1) hT
      exact ⟨h.len, fun x hx => by rw [h.arc x hx, tabR_gt _ (hin x hx).1 (hin x hx).2], fun a b ha hb _ => tabR_gt _ ha hb⟩
    have hF0 := FInv.start (es := es) hz hlf1 hlf2 hfe
    refine nT ?_
    refine .block ?_
    refine .loop (fun _ : List (List Int) × List Int × List Int => ⟨183, [], [(7, .slice (some ⟨b24, 0, none⟩) (n + 1) (n + 1)), (0, .slice am (n + 1) cm), (6, .slice (some ⟨b21, 0, none⟩) (n + 1) cap)]⟩) (fun p w => (Sq (n + 1) p.1 ∧ Corr (n + 1) es p.2.1 (gt p.1) ∧ FInv (n + 1) es (wtOf ws (n + 1)) p.2.1 p.2.2) ∧ ∃ H1, HLe H H1 ∧ St H1 w (.blk b24 (bs.map (ptr (n + 1))) :: (rowsE bs p.1 ++ (.blk b21 (Is p.2.2 ++ sp) :: σ)))) (fun p => (rem (n + 1) p.2.2).toNat) (tabR (fun _ _ => 0) (n + 1) (n + 1), List.replicate es.length 0, lf0) (by repeat (first | exact .nil rfl rfl | refine .cons rfl ?_)) ⟨⟨hq0, hc0, hF0⟩, H, HLe.refl H, hs⟩ ?_
    clear hq0 hc0 hF0 hlf1 hlf2 hs
    rintro ⟨Fs, ts, lf⟩ w ⟨⟨hqF, hC, hI⟩, H1, hle1, hs⟩
    dsimp only at hqF hC hI hs ⊢
    obtain ⟨D, hg⟩ := resid_VG (by omega) hn hC0 hI.lt.symm hI.fe
    have hfl := hqF.1
    have hll := hI.ll
    refine .block (.regSeq (.z zm (.z zm (.z zm ?_))))
    refine .o (.call Tryz.call207 rfl (ref02_reach_spec (need := lf) (spN := sp) hs (hM.mono hle1) hqM .here hbl hqF (fun i hi => .there (Mem.row (by omega) (by omega))) (.there (Mem.app2 .here)) hll hT hC hg) ?_); rintro _ w ⟨H2, vd, vb, s, hle2, rfl, hRd, hRb, hV, hs⟩
    obtain ⟨ad, cd, rfl⟩ := RI.shape hRd
    obtain ⟨ab, cb, eb⟩ := hRb.shape
    rw [List.length_map] at eb
    subst eb
    have hlc := hV.lc
    have hlb := hV.lb
    have hle02 := hle1.trans hle2
    refine .z zm (.z zex (.z zex (.z zg (.z zg (.nil (.regSeq (.z zg (.nil (.regSeq ?_)))))))))
    refine .z zg (.nil (.seq (.regSeq (.z zm (.z (zlen Tryz.runUnderlying25) (.z zm (.nil ?_)))))))
    refine .for (N := n + 1) (J := fun k fr w => ∃ to left, fr = [(11, I to), (12, .bool left), (44, .slice (some ⟨b21, 0, none⟩) (n + 1) cap), (7, .slice (some ⟨b24, 0, none⟩) (n + 1) (n + 1)), (0, .slice am (n + 1) cm), (6, .slice (some ⟨b21, 0, none⟩) (n + 1) cap), (9, .slice ad s.cost.length cd), (10, .slice ab s.by_.length cb)] ∧ Scan lf s.cost k to left ∧ St H2 w (.blk b24 (bs.map (ptr (n + 1))) :: (rowsE bs Fs ++ (.blk b21 (Is lf ++ sp) :: σ)))) (by omega) ?_ ?_ ?_
    · exact .mk ⟨-1, false, rfl, .start lf s.cost, hs⟩
    · rintro k fr w hk ⟨to, left, rfl, hSc, hs⟩
      have hto := hSc.lo
      have hto2 := hSc.som
      have hcap : k < n + 1 := hk
      refine .block (.regSeq (.z zm ?_))
      refine .q hs (q_ixO (k := k) rfl rfl Tryz.runUnderlying25 Tryz.sizeOf3 rfl hk) ?_
      refine .q hs (q_load rfl Tryz.isAgg3 (hm := .there (Mem.app2 .here)) (hv := Is_get (gi_get (l := lf) (i := k) (by omega)) sp)) ?_
      refine .z zg (.z zg (.nil (.regSeq (.z zm (.z zm ?_)))))
      refine .bif (t' := 52) rfl (fun hb52 => ?_) (fun hb52 => ?_)
      · refine .gFs 2 1 false rfl rfl rfl ?_
        refine .z zpT (.z zg (.nil ?_))
        refine WE.sub (t := ⟨183, [], [(12, .bool (left || decide (0 < gi lf k))), (13, I (k : Int)), (14, I (gi lf k)), (11, I to), (46, I (k : Int)), (45, I ((n + 1 : Nat) : Int)), (44, .slice (some ⟨b21, 0, none⟩) (n + 1) cap), (7, .slice (some ⟨b24, 0, none⟩) (n + 1) (n + 1)), (0, .slice am (n + 1) cm), (6, .slice (some ⟨b21, 0, none⟩) (n + 1) cap), (9, .slice ad s.cost.length cd), (10, .slice ab s.by_.length cb)]⟩) ?_ (by first | exact .consV rfl (by simp_all) (by repeat (first | exact .nil rfl rfl | refine .cons rfl ?_)) | repeat (first | exact .nil rfl rfl | refine .cons rfl ?_))
        refine .cut (fun fs w => ∃ p, FSub fs ⟨183, [], [(79, .bool p), (12, .bool (left || decide (0 < gi lf k))), (13, I (k : Int)), (11, I to), (46, I (k : Int)), (45, I ((n + 1 : Nat) : Int)), (44, .slice (some ⟨b21, 0, none⟩) (n + 1) cap), (7, .slice (some ⟨b24, 0, none⟩) (n + 1) (n + 1)), (0, .slice am (n + 1) cm), (6, .slice (some ⟨b21, 0, none⟩) (n + 1) cap), (9, .slice ad s.cost.length cd), (10, .slice ab s.by_.length cb)]⟩ ∧ (p = true → 0 < gi lf k ∧ gi s.cost k ≠ free) ∧ (p = false → ¬ 0 < gi lf k ∨ gi s.cost k = free ∨ 0 ≤ to) ∧ St H2 w (.blk b24 (bs.map (ptr (n + 1))) :: (rowsE bs Fs ++ (.blk b21 (Is lf ++ sp) :: σ)))) ?_ ?_
        · refine .draw mix rfl hs ?_; intro w hs
          refine .z 0 rfl zm ?_; refine .z 1 rfl zgtr ?_; refine .z 2 rfl zm ?_
          refine .bifD (t' := 58) rfl (fun hb58 => ?_) (fun hb58 => ?_)
          · refine .z 3 rfl zm ?_; refine .z 4 rfl zm ?_
            refine .ixX (enc := fun x => [I x]) (i := 5) hs rfl (by kernel_rfl) (.some rfl rfl) hRd rfl rfl Tryz.runUnderlying25 Tryz.sizeOf3 (gi_get (l := s.cost) (i := k) (by omega)) rfl ?_; intro b61 o61 hc61; replace hc61 := CellsAt.one hc61
            refine .r (i := 6) hs rfl (by kernel_rfl) (.some rfl rfl) (q_loadR rfl Tryz.isAgg3 hc61) ?_
            refine .z 7 rfl zneq ?_; refine .z 8 rfl zpT ?_; refine .z 9 rfl zm ?_
            refine .bifN (t' := 65) rfl (fun hb65 => ?_) (fun hb65 => ?_)
            · refine .z 10 rfl zm ?_; refine .z 11 rfl zlss ?_; refine .z 12 rfl zm ?_
              refine .bifD (t' := 68) rfl (fun hb68 => ?_) (fun hb68 => ?_)
              · refine .qF (i := 13) rfl (by kernel_rfl) rfl rfl ?_
                refine .qF (i := 14) rfl (by kernel_rfl) rfl rfl ?_
                refine .qF (i := 15) rfl (by kernel_rfl) rfl rfl ?_
                refine .qF (i := 16) rfl (by kernel_rfl) rfl rfl ?_
                refine .qF (i := 17) rfl (by kernel_rfl) rfl rfl ?_
                refine .qF (i := 18) rfl (by kernel_rfl) rfl rfl ?_
                refine .qF (i := 19) rfl (by kernel_rfl) rfl rfl ?_
                refine .qF (i := 20) rfl (by kernel_rfl) rfl rfl ?_
                refine .qF (i := 21) rfl (by kernel_rfl) rfl rfl ?_
                refine .z 22 rfl zpT ?_; refine .z 23 rfl zpT ?_
                refine .done (by kernel_rfl) hs ?_ (hp := by repeat (first | exact .nil | refine .cons (by first | exact HLe.bot _ | exact HLe.refl _ | assumption) (by first | exact .nil | (refine Sub.one ?_; repeat (first | exact .here | assumption | exact Mem.row (by omega) (by omega) | refine .there ?_ | refine Mem.app2 ?_))) ?_))
                exact nT ⟨_, by repeat (first | exact .nil rfl rfl | refine .cons rfl ?_), by
                  intro hp
                  first
                    | (cases hp; done)
                    | exact ⟨by assumption, by assumption⟩, by
                  intro hp
                  first
                    | (cases hp; done)
                    | exact .inl (by assumption)
                    | exact .inr (.inl (by first | assumption | omega))
                    | exact .inr (.inr (by omega)), hs⟩
              · refine .z 13 rfl zm ?_; refine .z 14 rfl zm ?_
                refine .ixX (enc := fun x => [I x]) (i := 15) hs rfl (by kernel_rfl) (.some rfl rfl) hRd rfl rfl Tryz.runUnderlying25 Tryz.sizeOf3 (gi_get (l := s.cost) (i := k) (by omega)) rfl ?_; intro b71 o71 hc71; replace hc71 := CellsAt.one hc71
                refine .r (i := 16) hs rfl (by kernel_rfl) (.some rfl rfl) (q_loadR rfl Tryz.isAgg3 hc71) ?_
                refine .z 17 rfl zm ?_; refine .z 18 rfl zm ?_
                refine .ixX (enc := fun x => [I x]) (i := 19) hs rfl (by kernel_rfl) (.some rfl rfl) hRd rfl rfl Tryz.runUnderlying25 Tryz.sizeOf3 (gi_get (l := s.cost) (i := to.toNat) (by omega)) (by omega) ?_; intro b75 o75 hc75; replace hc75 := CellsAt.one hc75
                refine .r (i := 20) hs rfl (by kernel_rfl) (.some rfl rfl) (q_loadR rfl Tryz.isAgg3 hc75) ?_
                refine .z 21 rfl zlss ?_; refine .z 22 rfl zpF ?_; refine .z 23 rfl zpT ?_
                refine .done (by kernel_rfl) hs ?_ (hp := by repeat (first | exact .nil | refine .cons (by first | exact HLe.bot _ | exact HLe.refl _ | assumption) (by first | exact .nil | (refine Sub.one ?_; repeat (first | exact .here | assumption | exact Mem.row (by omega) (by omega) | refine .there ?_ | refine Mem.app2 ?_))) ?_))
                exact nT ⟨_, by repeat (first | exact .nil rfl rfl | refine .cons rfl ?_), by
                  intro hp
                  first
                    | (cases hp; done)
                    | exact ⟨by assumption, by assumption⟩, by
                  intro hp
                  first
                    | (cases hp; done)
                    | exact .inl (by assumption)
                    | exact .inr (.inl (by first | assumption | omega))
                    | exact .inr (.inr (by omega)), hs⟩
            · refine .qF (i := 10) rfl (by kernel_rfl) rfl rfl ?_
              refine .qF (i := 11) rfl (by kernel_rfl) rfl rfl ?_
              refine .qF (i := 12) rfl (by kernel_rfl) rfl rfl ?_
              refine .qF (i := 13) rfl (by kernel_rfl) rfl rfl ?_
              refine .qF (i := 14) rfl (by kernel_rfl) rfl rfl ?_
              refine .qF (i := 15) rfl (by kernel_rfl) rfl rfl ?_
              refine .qF (i := 16) rfl (by kernel_rfl) rfl rfl ?_
              refine .qF (i := 17) rfl (by kernel_rfl) rfl rfl ?_
              refine .qF (i := 18) rfl (by kernel_rfl) rfl rfl ?_
              refine .qF (i := 19) rfl (by kernel_rfl) rfl rfl ?_
              refine .qF (i := 20) rfl (by kernel_rfl) rfl rfl ?_
              refine .qF (i := 21) rfl (by kernel_rfl) rfl rfl ?_
              refine .qF (i := 22) rfl (by kernel_rfl) rfl rfl ?_
              refine .z 23 rfl zpF ?_
              refine .done (by kernel_rfl) hs ?_ (hp := by repeat (first | exact .nil | refine .cons (by first | exact HLe.bot _ | exact HLe.refl _ | assumption) (by first | exact .nil | (refine Sub.one ?_; repeat (first | exact .here | assumption | exact Mem.row (by omega) (by omega) | refine .there ?_ | refine Mem.app2 ?_))) ?_))
              exact nT ⟨_, by repeat (first | exact .nil rfl rfl | refine .cons rfl ?_), by
                intro hp
                first
                  | (cases hp; done)
                  | exact ⟨by assumption, by assumption⟩, by
                intro hp
                first
                  | (cases hp; done)
                  | exact .inl (by assumption)
                  | exact .inr (.inl (by first | assumption | omega))
                  | exact .inr (.inr (by omega)), hs⟩
          · refine .qF (i := 3) rfl (by kernel_rfl) rfl rfl ?_
            refine .qF (i := 4) rfl (by kernel_rfl) rfl rfl ?_
            refine .qF (i := 5) rfl (by kernel_rfl) rfl rfl ?_
            refine .qF (i := 6) rfl (by kernel_rfl) rfl rfl ?_
            refine .qF (i := 7) rfl (by kernel_rfl) rfl rfl ?_
            refine .z 8 rfl zpF ?_; refine .z 9 rfl zm ?_
            refine .qF (i := 10) rfl (by kernel_rfl) rfl rfl ?_
            refine .qF (i := 11) rfl (by kernel_rfl) rfl rfl ?_
            refine .qF (i := 12) rfl (by kernel_rfl) rfl rfl ?_
            refine .qF (i := 13) rfl (by kernel_rfl) rfl rfl ?_
            refine .qF (i := 14) rfl (by kernel_rfl) rfl rfl ?_
            refine .qF (i := 15) rfl (by kernel_rfl) rfl rfl ?_
            refine .qF (i := 16) rfl (by kernel_rfl) rfl rfl ?_
            refine .qF (i := 17) rfl (by kernel_rfl) rfl rfl ?_
            refine .qF (i := 18) rfl (by kernel_rfl) rfl rfl ?_
            refine .qF (i := 19) rfl (by kernel_rfl) rfl rfl ?_
            refine .qF (i := 20) rfl (by kernel_rfl) rfl rfl ?_
            refine .qF (i := 21) rfl (by kernel_rfl) rfl rfl ?_
            refine .qF (i := 22) rfl (by kernel_rfl) rfl rfl ?_
            refine .z 23 rfl zpF ?_
            refine .done (by kernel_rfl) hs ?_ (hp := by repeat (first | exact .nil | refine .cons (by first | exact HLe.bot _ | exact HLe.refl _ | assumption) (by first | exact .nil | (refine Sub.one ?_; repeat (first | exact .here | assumption | exact Mem.row (by omega) (by omega) | refine .there ?_ | refine Mem.app2 ?_))) ?_))
            exact nT ⟨_, by repeat (first | exact .nil rfl rfl | refine .cons rfl ?_), by
              intro hp
              first
                | (cases hp; done)
                | exact ⟨by assumption, by assumption⟩, by
              intro hp
              first
                | (cases hp; done)
                | exact .inl (by assumption)
                | exact .inr (.inl (by first | assumption | omega))
                | exact .inr (.inr (by omega)), hs⟩
        · rintro fs w ⟨p, hfs, hp1, hp2, hs⟩
          refine WE.sub ?_ hfs
          refine (.cond rfl (fun hc79 => ?_) (fun hc79 => ?_))
          · refine .region (.z zm (.z zg (.nil ?_)))
            refine nB (nT ?_)
            obtain ⟨g1, g2⟩ := hp1 hc79
            exact .mk ⟨(k : Int), _, rfl, hSc.take g1 g2, hs⟩
          · refine .skip ?_
            refine nB (nT ?_)
            exact .mk ⟨to, _, rfl, hSc.skip (hp2 hc79), hs⟩
      · refine .gT rfl rfl ?_
        refine .z zm ?_
        refine .gT rfl rfl ?_
        refine .z zgtr (.z zpF (.z zg (.nil ?_)))
        refine WE.sub (t := ⟨183, [], [(12, .bool (left || decide (0 < gi lf k))), (13, I (k : Int)), (14, I (gi lf k)), (11, I to), (46, I (k : Int)), (45, I ((n + 1 : Nat) : Int)), (44, .slice (some ⟨b21, 0, none⟩) (n + 1) cap), (7, .slice (some ⟨b24, 0, none⟩) (n + 1) (n + 1)), (0, .slice am (n + 1) cm), (6, .slice (some ⟨b21, 0, none⟩) (n + 1) cap), (9, .slice ad s.cost.length cd), (10, .slice ab s.by_.length cb)]⟩) ?_ (by first | exact .consV rfl (by simp_all) (by repeat (first | exact .nil rfl rfl | refine .cons rfl ?_)) | repeat (first | exact .nil rfl rfl | refine .cons rfl ?_))
        refine .cut (fun fs w => ∃ p, FSub fs ⟨183, [], [(79, .bool p), (12, .bool (left || decide (0 < gi lf k))), (13, I (k : Int)), (11, I to), (46, I (k : Int)), (45, I ((n + 1 : Nat) : Int)), (44, .slice (some ⟨b21, 0, none⟩) (n + 1) cap), (7, .slice (some ⟨b24, 0, none⟩) (n + 1) (n + 1)), (0, .slice am (n + 1) cm), (6, .slice (some ⟨b21, 0, none⟩) (n + 1) cap), (9, .slice ad s.cost.length cd), (10, .slice ab s.by_.length cb)]⟩ ∧ (p = true → 0 < gi lf k ∧ gi s.cost k ≠ free) ∧ (p = false → ¬ 0 < gi lf k ∨ gi s.cost k = free ∨ 0 ≤ to) ∧ St H2 w (.blk b24 (bs.map (ptr (n + 1))) :: (rowsE bs Fs ++ (.blk b21 (Is lf ++ sp) :: σ)))) ?_ ?_
        · refine .draw mix rfl hs ?_; intro w hs
          refine .z 0 rfl zm ?_; refine .z 1 rfl zgtr ?_; refine .z 2 rfl zm ?_
          refine .bifD (t' := 58) rfl (fun hb58 => ?_) (fun hb58 => ?_)
          · refine .z 3 rfl zm ?_; refine .z 4 rfl zm ?_
            refine .ixX (enc := fun x => [I x]) (i := 5) hs rfl (by kernel_rfl) (.some rfl rfl) hRd rfl rfl Tryz.runUnderlying25 Tryz.sizeOf3 (gi_get (l := s.cost) (i := k) (by omega)) rfl ?_; intro b61 o61 hc61; replace hc61 := CellsAt.one hc61
            refine .r (i := 6) hs rfl (by kernel_rfl) (.some rfl rfl) (q_loadR rfl Tryz.isAgg3 hc61) ?_
            refine .z 7 rfl zneq ?_; refine .z 8 rfl zpT ?_; refine .z 9 rfl zm ?_
            refine .bifN (t' := 65) rfl (fun hb65 => ?_) (fun hb65 => ?_)
            · refine .z 10 rfl zm ?_; refine .z 11 rfl zlss ?_; refine .z 12 rfl zm ?_
              refine .bifD (t' := 68) rfl (fun hb68 => ?_) (fun hb68 => ?_)
              · refine .qF (i := 13) rfl (by kernel_rfl) rfl rfl ?_
                refine .qF (i := 14) rfl (by kernel_rfl) rfl rfl ?_
                refine .qF (i := 15) rfl (by kernel_rfl) rfl rfl ?_
                refine .qF (i := 16) rfl (by kernel_rfl) rfl rfl ?_
                refine .qF (i := 17) rfl (by kernel_rfl) rfl rfl ?_
                refine .qF (i := 18) rfl (by kernel_rfl) rfl rfl ?_
                refine .qF (i := 19) rfl (by kernel_rfl) rfl rfl ?_
                refine .qF (i := 20) rfl (by kernel_rfl) rfl rfl ?_
                refine .qF (i := 21) rfl (by kernel_rfl) rfl rfl ?_
                refine .z 22 rfl zpT ?_; refine .z 23 rfl zpT ?_
                refine .done (by kernel_rfl) hs ?_ (hp := by repeat (first | exact .nil | refine .cons (by first | exact HLe.bot _ | exact HLe.refl _ | assumption) (by first | exact .nil | (refine Sub.one ?_; repeat (first | exact .here | assumption | exact Mem.row (by omega) (by omega) | refine .there ?_ | refine Mem.app2 ?_))) ?_))
                exact nT ⟨_, by repeat (first | exact .nil rfl rfl | refine .cons rfl ?_), by
                  intro hp
                  first
                    | (cases hp; done)
                    | exact ⟨by assumption, by assumption⟩, by
                  intro hp
                  first
                    | (cases hp; done)
                    | exact .inl (by assumption)
                    | exact .inr (.inl (by first | assumption | omega))
                    | exact .inr (.inr (by omega)), hs⟩
              · refine .z 13 rfl zm ?_; refine .z 14 rfl zm ?_
                refine .ixX (enc := fun x => [I x]) (i := 15) hs rfl (by kernel_rfl) (.some rfl rfl) hRd rfl rfl Tryz.runUnderlying25 Tryz.sizeOf3 (gi_get (l := s.cost) (i := k) (by omega)) rfl ?_; intro b71 o71 hc71; replace hc71 := CellsAt.one hc71
                refine .r (i := 16) hs rfl (by kernel_rfl) (.some rfl rfl) (q_loadR rfl Tryz.isAgg3 hc71) ?_
                refine .z 17 rfl zm ?_; refine .z 18 rfl zm ?_
                refine .ixX (enc := fun x => [I x]) (i := 19) hs rfl (by kernel_rfl) (.some rfl rfl) hRd rfl rfl Tryz.runUnderlying25 Tryz.sizeOf3 (gi_get (l := s.cost) (i := to.toNat) (by omega)) (by omega) ?_; intro b75 o75 hc75; replace hc75 := CellsAt.one hc75
                refine .r (i := 20) hs rfl (by kernel_rfl) (.some rfl rfl) (q_loadR rfl Tryz.isAgg3 hc75) ?_
                refine .z 21 rfl zlss ?_; refine .z 22 rfl zpF ?_; refine .z 23 rfl zpT ?_
                refine .done (by kernel_rfl) hs ?_ (hp := by repeat (first | exact .nil | refine .cons (by first | exact HLe.bot _ | exact HLe.refl _ | assumption) (by first | exact .nil | (refine Sub.one ?_; repeat (first | exact .here | assumption | exact Mem.row (by omega) (by omega) | refine .there ?_ | refine Mem.app2 ?_))) ?_))
                exact nT ⟨_, by repeat (first | exact .nil rfl rfl | refine .cons rfl ?_), by
                  intro hp
                  first
                    | (cases hp; done)
                    | exact ⟨by assumption, by assumption⟩, by
                  intro hp
                  first
                    | (cases hp; done)
                    | exact .inl (by assumption)
                    | exact .inr (.inl (by first | assumption | omega))
                    | exact .inr (.inr (by omega)), hs⟩
            · refine .qF (i := 10) rfl (by kernel_rfl) rfl rfl ?_
              refine .qF (i := 11) rfl (by kernel_rfl) rfl rfl ?_
              refine .qF (i := 12) rfl (by kernel_rfl) rfl rfl ?_
              refine .qF (i := 13) rfl (by kernel_rfl) rfl rfl ?_
              refine .qF (i := 14) rfl (by kernel_rfl) rfl rfl ?_
              refine .qF (i := 15) rfl (by kernel_rfl) rfl rfl ?_
              refine .qF (i := 16) rfl (by kernel_rfl) rfl rfl ?_
              refine .qF (i := 17) rfl (by kernel_rfl) rfl rfl ?_
              refine .qF (i := 18) rfl (by kernel_rfl) rfl rfl ?_
              refine .qF (i := 19) rfl (by kernel_rfl) rfl rfl ?_
              refine .qF (i := 20) rfl (by kernel_rfl) rfl rfl ?_
              refine .qF (i := 21) rfl (by kernel_rfl) rfl rfl ?_
              refine .qF (i := 22) rfl (by kernel_rfl) rfl rfl ?_
              refine .z 23 rfl zpF ?_
              refine .done (by kernel_rfl) hs ?_ (hp := by repeat (first | exact .nil | refine .cons (by first | exact HLe.bot _ | exact HLe.refl _ | assumption) (by first | exact .nil | (refine Sub.one ?_; repeat (first | exact .here | assumption | exact Mem.row (by omega) (by omega) | refine .there ?_ | refine Mem.app2 ?_))) ?_))
              exact nT ⟨_, by repeat (first | exact .nil rfl rfl | refine .cons rfl ?_), by
                intro hp
                first
                  | (cases hp; done)
                  | exact ⟨by assumption, by assumption⟩, by
                intro hp
                first
                  | (cases hp; done)
                  | exact .inl (by assumption)
                  | exact .inr (.inl (by first | assumption | omega))
                  | exact .inr (.inr (by omega)), hs⟩
          · refine .qF (i := 3) rfl (by kernel_rfl) rfl rfl ?_
            refine .qF (i := 4) rfl (by kernel_rfl) rfl rfl ?_
            refine .qF (i := 5) rfl (by kernel_rfl) rfl rfl ?_
            refine .qF (i := 6) rfl (by kernel_rfl) rfl rfl ?_
            refine .qF (i := 7) rfl (by kernel_rfl) rfl rfl ?_
            refine .z 8 rfl zpF ?_; refine .z 9 rfl zm ?_
            refine .qF (i := 10) rfl (by kernel_rfl) rfl rfl ?_
            refine .qF (i := 11) rfl (by kernel_rfl) rfl rfl ?_
            refine .qF (i := 12) rfl (by kernel_rfl) rfl rfl ?_
            refine .qF (i := 13) rfl (by kernel_rfl) rfl rfl ?_
            refine .qF (i := 14) rfl (by kernel_rfl) rfl rfl ?_
            refine .qF (i := 15) rfl (by kernel_rfl) rfl rfl ?_
            refine .qF (i := 16) rfl (by kernel_rfl) rfl rfl ?_
            refine .qF (i := 17) rfl (by kernel_rfl) rfl rfl ?_
            refine .qF (i := 18) rfl (by kernel_rfl) rfl rfl ?_
            refine .qF (i := 19) rfl (by kernel_rfl) rfl rfl ?_
            refine .qF (i := 20) rfl (by kernel_rfl) rfl rfl ?_
            refine .qF (i := 21) rfl (by kernel_rfl) rfl rfl ?_
            refine .qF (i := 22) rfl (by kernel_rfl) rfl rfl ?_
            refine .z 23 rfl zpF ?_
            refine .done (by kernel_rfl) hs ?_ (hp := by repeat (first | exact .nil | refine .cons (by first | exact HLe.bot _ | exact HLe.refl _ | assumption) (by first | exact .nil | (refine Sub.one ?_; repeat (first | exact .here | assumption | exact Mem.row (by omega) (by omega) | refine .there ?_ | refine Mem.app2 ?_))) ?_))
            exact nT ⟨_, by repeat (first | exact .nil rfl rfl | refine .cons rfl ?_), by
              intro hp
              first
                | (cases hp; done)
                | exact ⟨by assumption, by assumption⟩, by
              intro hp
              first
                | (cases hp; done)
                | exact .inl (by assumption)
                | exact .inr (.inl (by first | assumption | omega))
                | exact .inr (.inr (by omega)), hs⟩
        · rintro fs w ⟨p, hfs, hp1, hp2, hs⟩
          refine WE.sub ?_ hfs
          refine (.cond rfl (fun hc79 => ?_) (fun hc79 => ?_))
          · refine .region (.z zm (.z zg (.nil ?_)))
            refine nB (nT ?_)
            obtain ⟨g1, g2⟩ := hp1 hc79
            exact .mk ⟨(k : Int), _, rfl, hSc.take g1 g2, hs⟩
          · refine .skip ?_
            refine nB (nT ?_)
            exact .mk ⟨to, _, rfl, hSc.skip (hp2 hc79), hs⟩
    · rintro fr w ⟨to, left, rfl, hSc, hs⟩
      refine nT ?_
      refine .seq (.regSeq (.z zm (.z zlss (.nil ?_))))
      refine (.condD rfl (fun hc83 => ?_) (fun hc83 => ?_))
      · refine .regSeq (.z zm (.z zm ?_))
        refine .o (.call Tryz.call208 rfl (ref02_cost_spec hs (hM.mono hle02) hqM (by omega) .here hbl hqF (fun i hi => .there (Mem.row (by omega) (by omega)))) ?_); rintro _ w ⟨rfl, hs⟩
        refine .z zm (.z znot (.z zg (.z zg (.nil ?_))))
        refine .ret (rT (rB (rT (rB (Fin.ret2 Tryz.results194 rfl rfl ?_)))))
        rw [← dot_cell hT hC hI.nn]
        cases left with
        | false =>
          have hno : ∀ v < n + 1, gi lf v ≤ 0 := fun v hv => Int.not_lt.1 fun h => by have := hSc.left_.2 ⟨v, hv, h⟩; cases this
          have hok := hI.ok hin hw0 hno
          obtain ⟨q, hqf⟩ := hok.fe
          have hO := (full_opt hin hok.lt (fun i hi => (hok.nn i hi).1) hok.full hqf).1
          have hb := hbd _ hO
          rw [i64wrap (by omega)]
          exact ⟨H2, _, true, hle02, rfl, .inl ⟨rfl, hO⟩, hs.tail.app2.tail⟩
        | true =>
          obtain ⟨v, hv, hp⟩ := hSc.left_.1 rfl
          have hf := hSc.non (by omega) v hv hp
          have hO := hI.open hin (R := fun v => gi s.cost v < free) (fun v hv hl => by have := hV.src v hv hl; omega) (hV.closed hg) hv (by rw [hf]; omega) hp
          exact ⟨H2, _, false, hle02, rfl, .inr ⟨rfl, hO⟩, hs.tail.app2.tail⟩
      · refine .skip ?_
        refine nT ?_
        refine .regSeq ?_
        obtain ⟨t, rfl⟩ := Int.eq_ofNat_of_zero_le (show 0 ≤ to by omega)
        obtain ⟨ht, htp, htf⟩ := hSc.som (by omega)
        rw [Int.toNat_natCast] at ht htp htf
        have htl : gi s.cost t < free := by have := hV.top t ht; omega
        obtain ⟨kk, cc, u, hB, hu, hk1, hk0, hcl, hway⟩ := hV.back hg ht htl htp
        have hW := hway _ rfl
        have hsg := hI.sg
        refine .z zm (.z zm ?_)
        refine .q hs (q_ixO (k := t) rfl rfl Tryz.runUnderlying25 Tryz.sizeOf3 rfl ht) ?_
        refine .q hs (q_load rfl Tryz.isAgg3 (hm := .there (Mem.app2 .here)) (hv := Is_get (gi_get (l := lf) (i := t) (by omega)) sp)) ?_
        refine .z zg (.nil (.regSeq (.z zm (.z zg (.nil (.seq (.block ?_)))))))
        refine .loop (fun p : Nat × Nat => ⟨183, [], [(16, I (p.2 : Int)), (15, I (least es ts (gi lf t) (trail s.by_ t p.1))), (11, I (t : Int)), (7, .slice (some ⟨b24, 0, none⟩) (n + 1) (n + 1)), (0, .slice am (n + 1) cm), (6, .slice (some ⟨b21, 0, none⟩) (n + 1) cap), (9, .slice ad s.cost.length cd), (10, .slice ab s.by_.length cb)]⟩) (fun p w => AtW s.by_ t kk u p.1 p.2 ∧ (p.2 < n + 1 ∧ gi s.cost p.2 < free) ∧ St H2 w (.blk b24 (bs.map (ptr (n + 1))) :: (rowsE bs Fs ++ (.blk b21 (Is lf ++ sp) :: σ)))) (fun p => kk - p.1) (0, t) (by repeat (first | exact .nil rfl rfl | refine .cons rfl ?_)) ⟨.start hB, ⟨ht, htl⟩, hs⟩ ?_
        rintro ⟨i, v⟩ w ⟨hA, ⟨hv, hvf⟩, hs⟩
        dsimp only at hA hv hvf ⊢
        have hby := hV.by1 v hv hvf
        refine .cut (fun fs w => FSub fs ⟨183, [], [(16, I (v : Int)), (15, I (least es ts (gi lf t) (trail s.by_ t i))), (11, I (t : Int)), (7, .slice (some ⟨b24, 0, none⟩) (n + 1) (n + 1)), (0, .slice am (n + 1) cm), (6, .slice (some ⟨b21, 0, none⟩) (n + 1) cap), (9, .slice ad s.cost.length cd), (10, .slice ab s.by_.length cb)]⟩ ∧ 0 ≤ (ga s.by_ v).l ∧ St H2 w (.blk b24 (bs.map (ptr (n + 1))) :: (rowsE bs Fs ++ (.blk b21 (Is lf ++ sp) :: σ)))) ?_ ?_
        · refine .regSeq (.z zm (.z zm ?_))
          refine .q hs (q_ixO (k := v) rfl rfl Tryz.runUnderlying25 Tryz.sizeOf3 rfl hv) ?_
          refine .q hs (q_load rfl Tryz.isAgg3 (hm := .there (Mem.app2 .here)) (hv := Is_get (gi_get (l := lf) (i := v) (by omega)) sp)) ?_
          refine .z zgeq (.z zm ?_)
          refine .bifD (t' := 99) rfl (fun hb99 => ?_) (fun hb99 => ?_)
          · refine .gFs 6 5 false rfl rfl rfl ?_
            refine .z zpT (.nil ?_)
            refine (.condT rfl rfl ?_)
            refine .skip ?_
            refine nT ?_
            exact ⟨by repeat (first | exact .nil rfl rfl | refine .cons rfl ?_), by
              rcases hby with ⟨_, h, _⟩ | h
              · omega
              · exact h.1, hs⟩
          · refine .gT rfl rfl ?_
            refine .z zm ?_
            refine .gT rfl rfl ?_
            refine .z zm ?_
            refine .gT rfl rfl ?_
            refine .ixX (enc := stepC es) hs hRb rfl rfl Tryz.runUnderlying221 Tryz.sizeOf226 (ga_get (l := s.by_) (i := v) (by omega)) rfl ?_; intro b102 o102 hc102
            rw [stepC_eq] at hc102
            refine .gT rfl rfl ?_
            refine .z (zfa fa_moorsomref02_step_0) ?_
            refine .gT rfl rfl ?_
            refine .q hs (q_loadR rfl Tryz.isAgg3 (hc102.get 0 rfl)) ?_
            refine .gT rfl rfl ?_
            refine .z zgeq (.z zpF (.nil ?_))
            refine (.condD rfl (fun hc106 => ?_) (fun hc106 => ?_))
            · refine .skip ?_
              refine nT ?_
              exact ⟨by repeat (first | exact .nil rfl rfl | refine .cons rfl ?_), stepF_ge hc106, hs⟩
            · refine .exit ?_
              refine xT (xT (xB (nT ?_)))
              refine .regSeq ?_
              obtain ⟨ei, ev⟩ := hA.stop (stepF_neg hc106)
              subst ei; subst ev
              obtain ⟨m0, m1, m2, m3⟩ := much_pos hI.lt.symm hnum hW
              have hsv := hsg v hv
              have hst := hsg t ht
              have hmu : min (least es ts (gi lf t) (trail s.by_ t i)) (-gi lf v) = much es ts lf (trail s.by_ t i).reverse v t := by
                unfold much
                rw [least_rev, ← least_min, Int.min_comm]
              have hsend := hI.send hnum hW (by rw [List.length_reverse, trail_length]; omega)
              have hmem : ∀ x ∈ trail s.by_ t i, x ∈ resid es ts := fun x hx => hW.mem x (List.mem_reverse.2 hx)
              rw [pushes_rev (fun x hx => (of_resid hI.lt.symm hnum (hmem x hx)).2.1)] at hsend
              generalize hm : much es ts lf (trail s.by_ t i).reverse v t = m at *
              have hvt : v ≠ t := fun e => by have := hW.lu; rw [e] at this; omega
              refine .z zm (.z zm (.z zm ?_))
              refine .q hs (q_ixO (k := v) rfl rfl Tryz.runUnderlying25 Tryz.sizeOf3 rfl hv) ?_
              refine .q hs (q_load rfl Tryz.isAgg3 (hm := .there (Mem.app2 .here)) (hv := Is_get (gi_get (l := lf) (i := v) (by omega)) sp)) ?_
              refine .z zneg (.z zmin ?_)
              rw [hmu]
              refine .z zg (.nil (.seq (.regSeq (.z zm (.z zg (.nil (.block ?_)))))))
              refine .loop (fun p : Nat × Nat × List (List Int) => ⟨183, [], [(18, I (p.2.1 : Int)), (16, I (v : Int)), (15, I m), (11, I (t : Int)), (7, .slice (some ⟨b24, 0, none⟩) (n + 1) (n + 1)), (0, .slice am (n + 1) cm), (6, .slice (some ⟨b21, 0, none⟩) (n + 1) cap), (9, .slice ad s.cost.length cd), (10, .slice ab s.by_.length cb)]⟩) (fun p w => AtW s.by_ t i v p.1 p.2.1 ∧ (p.2.1 < n + 1 ∧ gi s.cost p.2.1 < free) ∧ (Sq (n + 1) p.2.2 ∧ Corr (n + 1) es (pushes es m ts (trail s.by_ t p.1)) (gt p.2.2)) ∧ St H2 w (.blk b24 (bs.map (ptr (n + 1))) :: (rowsE bs p.2.2 ++ (.blk b21 (Is lf ++ sp) :: σ)))) (fun p => i - p.1) (0, t, Fs) (by repeat (first | exact .nil rfl rfl | refine .cons rfl ?_)) ⟨.start hB, ⟨ht, htl⟩, ⟨hqF, hC⟩, hs⟩ ?_
              clear hA hby
              rintro ⟨j, y, Fs'⟩ w ⟨hA, ⟨hy, hyf⟩, ⟨hqF', hC'⟩, hs⟩
              dsimp only at hA hy hyf hqF' hC' hs ⊢
              have hfl' := hqF'.1
              refine .seq (.regSeq (.z zm (.z zm (.z zneq (.nil ?_)))))
              refine (.condN rfl (fun hc135 => ?_) (fun hc135 => ?_))
              · refine .skip ?_
                refine nT ?_
                refine .seq (.block (.regSeq ?_))
                have hl0 := hA.ne (by omega)
                obtain ⟨hik, hA', htr⟩ := hA.next hl0 hu
                obtain ⟨hxm, hxt, hxf⟩ : ga s.by_ y ∈ resid es ts ∧ (ga s.by_ y).t = y ∧ gi s.cost (ga s.by_ y).f < free := by
                  rcases hV.by1 y hy hyf with ⟨h, _⟩ | ⟨_, h1, h2, h3, _⟩
                  · omega
                  · exact ⟨h1, h2, h3⟩
                have hxn := (hg.ok _ hxm).1
                have hsF := stepF_pos hl0
                have hxb : (ga s.by_ y).l.toNat < ts.length := (of_resid hI.lt.symm hnum hxm).2.1
                have hpb := pushes_bd (es := es) (ts := ts) (p := trail s.by_ t j) (m := m) (by omega) (by omega) (by rw [trail_length]; omega) (fun x hx => by
                  have h1 := trail_mem (A := fun v => v < n + 1 ∧ gi s.cost v < free) (B := fun x => x ∈ resid es ts) (fun v hv hl => by
                    rcases hV.by1 v hv.1 hv.2 with ⟨h, _⟩ | ⟨_, h1, h2, h3, _⟩
                    · omega
                    · exact ⟨h1, (hg.ok _ h1).1, h3⟩) hA.bk.choose_spec ⟨ht, htl⟩ x hx
                  exact (of_resid hI.lt.symm hnum h1).2.1) (ga s.by_ y).l.toNat
                have hnn := hI.nn (ga s.by_ y).l.toNat (by rw [← hI.lt]; exact hxb)
                have htb := hI.tb (ga s.by_ y).l.toNat (by rw [← hI.lt]; exact hxb)
                have hrm : 0 ≤ rem (n + 1) lf := sumTo_nonneg fun v _ => by omega
                generalize hgx : ga s.by_ y = x at *
                refine .z zm (.z zm ?_)
                refine .ixX (enc := stepC es) hs hRb rfl rfl Tryz.runUnderlying221 Tryz.sizeOf226 (ga_get (l := s.by_) (i := y) (by omega)) rfl ?_; intro b143 o143 hc143
                rw [hgx, stepC_eq] at hc143
                refine .q hs (q_loadsR (vs := [I (stepF x), .bool (stepB es x)]) rfl Tryz.isAgg226 Tryz.sizeOf226 hc143) ?_
                refine .o (.alloc hs Tryz.zeroValue226 rfl ?_); intro b19 w hs
                refine .o (.stores (vs := [I (stepF x), .bool (stepB es x)]) hs rfl rfl Tryz.sizeOf226 ?_); intro w hs
                refine .nil (.regSeq (.z (zfa fa_moorsomref02_step_1) ?_))
                first | refine .q hs (q_load rfl Tryz.isAgg4 (hm := by repeat (first | exact .here | assumption | exact Mem.row (by omega) (by omega) | refine .there ?_ | refine Mem.app2 ?_)) (hv := by first | rfl | exact ptr_get (by omega) | exact Is_gt (by assumption) (by omega) (by omega) | exact Is_gi (by first | assumption | omega))) ?_ | refine .q hs (q_loadR rfl Tryz.isAgg4 (by assumption)) ?_
                refine .nil ?_
                refine (.cond rfl (fun hc146 => ?_) (fun hc146 => ?_))
                · refine .draw mix rfl hs ?_; intro w hs
                  have hnf := stepB_t hc146
                  obtain ⟨hcb, z, hz1, hz2⟩ := hC.back hT hxm hnf
                  have hgz : gt Fs' y x.f = gi (pushes es m ts (trail s.by_ t j)) x.l.toNat := by
                    have := hC'.arc z hz1
                    rw [hz2] at hxt ⊢
                    rw [← hxt]; exact this.symm
                  have hpu := (hC'.push hT (y := x) (.inr ⟨z, hz1, hz2⟩) m).2 hnf
                  rw [hxt] at hpu
                  rw [← pushes_snoc, ← htr] at hpu
                  refine .z 0 rfl zm ?_; refine .z 1 rfl zm ?_
                  refine .p (i := 2) rfl (by kernel_rfl) .none (q_ixO (k := y) rfl rfl Tryz.runUnderlying29 Tryz.sizeOf25 rfl hy) ?_
                  first | refine .load (i := 3) hs rfl (by kernel_rfl) .none rfl Tryz.isAgg25 ?_ (by repeat (first | exact .here | assumption | exact Mem.row (by omega) (by omega) | refine .there ?_ | refine Mem.app2 ?_)) (by first | rfl | exact ptr_get (by omega) | exact Is_gt (by assumption) (by omega) (by omega) | exact Is_gi (by first | assumption | omega)) | refine .r (i := 3) hs rfl (by kernel_rfl) .none (q_loadR rfl Tryz.isAgg25 (by assumption)) ?_
                  refine .z 4 rfl (zfa fa_moorsomref02_step_0) ?_
                  first | refine .load (i := 5) hs rfl (by kernel_rfl) .none rfl Tryz.isAgg3 ?_ (by repeat (first | exact .here | assumption | exact Mem.row (by omega) (by omega) | refine .there ?_ | refine Mem.app2 ?_)) (by first | rfl | exact ptr_get (by omega) | exact Is_gt (by assumption) (by omega) (by omega) | exact Is_gi (by first | assumption | omega)) | refine .r (i := 5) hs rfl (by kernel_rfl) .none (q_loadR rfl Tryz.isAgg3 (by assumption)) ?_
                  rw [hsF] at hs ⊢
                  refine .p (i := 6) rfl (by kernel_rfl) .none (q_ixO (k := x.f) rfl rfl Tryz.runUnderlying25 Tryz.sizeOf3 rfl hxn) ?_
                  first | refine .load (i := 7) hs rfl (by kernel_rfl) .none rfl Tryz.isAgg3 ?_ (by repeat (first | exact .here | assumption | exact Mem.row (by omega) (by omega) | refine .there ?_ | refine Mem.app2 ?_)) (by first | rfl | exact ptr_get (by omega) | exact Is_gt (by assumption) (by omega) (by omega) | exact Is_gi (by first | assumption | omega)) | refine .r (i := 7) hs rfl (by kernel_rfl) .none (q_loadR rfl Tryz.isAgg3 (by assumption)) ?_
                  refine .z 8 rfl zm ?_; refine .z 9 rfl zsub ?_
                  refine .p (i := 10) rfl (by kernel_rfl) .none (q_ixO (k := x.f) rfl rfl Tryz.runUnderlying25 Tryz.sizeOf3 rfl hxn) ?_
                  refine .e1 (i := 11) (by kernel_rfl) rfl rfl .none hs ?_ (hp := by repeat (first | exact .nil | refine .cons (by first | exact HLe.bot _ | exact HLe.refl _ | assumption) (by first | exact .nil | (refine Sub.one ?_; repeat (first | exact .here | assumption | exact Mem.row (by omega) (by omega) | refine .there ?_ | refine Mem.app2 ?_))) ?_))
                  refine .store hs rfl rfl Tryz.sizeOf3 ?_ (.there (.there (Upd.row _ (by omega) (by omega)))) (blt_Is (by rw [hqF'.2 _ hy]; exact hxn)) (Is_set _ _ _); intro w hs
                  refine .go ?_
                  refine .done (by kernel_rfl) hs ?_ (hp := by repeat (first | exact .nil | refine .cons (by first | exact HLe.bot _ | exact HLe.refl _ | assumption) (by first | exact .nil | (refine Sub.one ?_; repeat (first | exact .here | assumption | exact Mem.row (by omega) (by omega) | refine .there ?_ | refine Mem.app2 ?_))) ?_))
                  refine nB (nT ?_)
                  refine .region (.z zm (.z zm ?_))
                  refine .ixX (enc := stepC es) hs hRb rfl rfl Tryz.runUnderlying221 Tryz.sizeOf226 (ga_get (l := s.by_) (i := y) (by omega)) rfl ?_; intro b138 o138 hc138
                  rw [hgx, stepC_eq] at hc138
                  refine .z (zfa fa_moorsomref02_step_0) ?_
                  refine .q hs (q_loadR rfl Tryz.isAgg3 (hc138.get 0 rfl)) ?_
                  rw [hsF]
                  refine .z zg (.nil ?_)
                  refine nT ?_
                  exact ⟨(j + 1, x.f, _), by repeat (first | exact .nil rfl rfl | refine .cons rfl ?_), ⟨hA', ⟨hxn, hxf⟩, ⟨hqF'.set hy _, by rw [gt_set hqF' hy hxn]; exact hpu⟩, hs.tail⟩, by dsimp only; omega⟩
                · refine .region ?_
                  have hnf := stepB_f hl0 (by simpa using hc146)
                  have hxe := hC.forth hT hxm hnf
                  have hgz : gt Fs' x.f y = gi (pushes es m ts (trail s.by_ t j)) x.l.toNat := by
                    have := hC'.arc x hxe
                    rw [hxt] at this; exact this.symm
                  have hpu := (hC'.push hT (y := x) (.inl hxe) m).1 hnf
                  rw [hxt] at hpu
                  rw [← pushes_snoc, ← htr] at hpu
                  refine .z zm (.z (zfa fa_moorsomref02_step_0) ?_)
                  first | refine .q hs (q_load rfl Tryz.isAgg3 (hm := by repeat (first | exact .here | assumption | exact Mem.row (by omega) (by omega) | refine .there ?_ | refine Mem.app2 ?_)) (hv := by first | rfl | exact ptr_get (by omega) | exact Is_gt (by assumption) (by omega) (by omega) | exact Is_gi (by first | assumption | omega))) ?_ | refine .q hs (q_loadR rfl Tryz.isAgg3 (by assumption)) ?_
                  rw [hsF]
                  refine .q hs (q_ixO (k := x.f) rfl rfl Tryz.runUnderlying29 Tryz.sizeOf25 rfl hxn) ?_
                  first | refine .q hs (q_load rfl Tryz.isAgg25 (hm := by repeat (first | exact .here | assumption | exact Mem.row (by omega) (by omega) | refine .there ?_ | refine Mem.app2 ?_)) (hv := by first | rfl | exact ptr_get (by omega) | exact Is_gt (by assumption) (by omega) (by omega) | exact Is_gi (by first | assumption | omega))) ?_ | refine .q hs (q_loadR rfl Tryz.isAgg25 (by assumption)) ?_
                  refine .z zm ?_
                  refine .q hs (q_ixO (k := y) rfl rfl Tryz.runUnderlying25 Tryz.sizeOf3 rfl hy) ?_
                  first | refine .q hs (q_load rfl Tryz.isAgg3 (hm := by repeat (first | exact .here | assumption | exact Mem.row (by omega) (by omega) | refine .there ?_ | refine Mem.app2 ?_)) (hv := by first | rfl | exact ptr_get (by omega) | exact Is_gt (by assumption) (by omega) (by omega) | exact Is_gi (by first | assumption | omega))) ?_ | refine .q hs (q_loadR rfl Tryz.isAgg3 (by assumption)) ?_
                  refine .z zm (.z zadd ?_)
                  refine .q hs (q_ixO (k := y) rfl rfl Tryz.runUnderlying25 Tryz.sizeOf3 rfl hy) ?_
                  refine .o (.store hs rfl rfl Tryz.sizeOf3 ?_ (.there (.there (Upd.row _ (by omega) (by omega)))) (blt_Is (by rw [hqF'.2 _ hxn]; exact hy)) (Is_set _ _ _)); intro w hs
                  refine .nil ?_
                  refine nB (nT ?_)
                  refine .region (.z zm (.z zm ?_))
                  refine .ixX (enc := stepC es) hs hRb rfl rfl Tryz.runUnderlying221 Tryz.sizeOf226 (ga_get (l := s.by_) (i := y) (by omega)) rfl ?_; intro b138 o138 hc138
                  rw [hgx, stepC_eq] at hc138
                  refine .z (zfa fa_moorsomref02_step_0) ?_
                  refine .q hs (q_loadR rfl Tryz.isAgg3 (hc138.get 0 rfl)) ?_
                  rw [hsF]
                  refine .z zg (.nil ?_)
                  refine nT ?_
                  exact ⟨(j + 1, x.f, _), by repeat (first | exact .nil rfl rfl | refine .cons rfl ?_), ⟨hA', ⟨hxn, hxf⟩, ⟨hqF'.set hxn _, by rw [gt_set hqF' hxn hy]; exact hpu⟩, hs.tail⟩, by dsimp only; omega⟩
              · refine .exit ?_
                refine xT (xT (xB (nT ?_)))
                refine .regSeq ?_
                have hyv : y = v := by omega
                subst hyv
                obtain ⟨ej, -⟩ := hA.stop hu
                subst ej
                refine .z zm (.z zm ?_)
                refine .q hs (q_ixO (k := y) rfl rfl Tryz.runUnderlying25 Tryz.sizeOf3 rfl hv) ?_
                refine .q hs (q_load rfl Tryz.isAgg3 (hm := .there (Mem.app2 .here)) (hv := Is_get (gi_get (l := lf) (i := y) (by omega)) sp)) ?_
                refine .z zm (.z zadd ?_)
                refine .q hs (q_ixO (k := y) rfl rfl Tryz.runUnderlying25 Tryz.sizeOf3 rfl hv) ?_
                refine .o (.store hs rfl rfl Tryz.sizeOf3 ?_ (.there (Upd.app2 .here)) (by simp; omega) (set_sp (by omega) _ sp)); intro w hs
                refine .nil (.region (.z zm (.z zm ?_)))
                refine .q hs (q_ixO (k := t) rfl rfl Tryz.runUnderlying25 Tryz.sizeOf3 rfl ht) ?_
                have hgt : gi (lf.set y (gi lf y + m)) t = gi lf t := by rw [gi_set (by omega), if_neg (Ne.symm hvt)]
                refine .q hs (q_load rfl Tryz.isAgg3 (hm := .there (Mem.app2 .here)) (hv := Is_get (gi_get (l := lf.set y (gi lf y + m)) (i := t) (by rw [List.length_set]; omega)) sp)) ?_
                refine .z zm (.z zsub ?_)
                refine .q hs (q_ixO (k := t) rfl rfl Tryz.runUnderlying25 Tryz.sizeOf3 rfl ht) ?_
                refine .o (.store hs rfl rfl Tryz.sizeOf3 ?_ (.there (Upd.app2 .here)) (by simp; omega) (set_sp (by rw [List.length_set]; omega) _ sp)); intro w hs
                refine .nil ?_
                refine nB (nT ?_)
                have hrm : 0 ≤ rem (n + 1) (lfTo lf m y t) := sumTo_nonneg fun v _ => by omega
                exact ⟨(Fs', pushes es m ts (trail s.by_ t j), lfTo lf m y t), by repeat (first | exact .nil rfl rfl | refine .cons rfl ?_), ⟨⟨hqF', hC', hsend.1⟩, H2, hle02, hs⟩, by dsimp only; have := hsend.2; omega⟩
        · rintro fs w ⟨hfs, hl0, hs⟩
          refine WE.sub ?_ hfs
          obtain ⟨hik, hA', htr⟩ := hA.next hl0 hu
          obtain ⟨hxm, hxt, hxf⟩ : ga s.by_ v ∈ resid es ts ∧ (ga s.by_ v).t = v ∧ gi s.cost (ga s.by_ v).f < free := by
            rcases hby with ⟨h, _⟩ | ⟨_, h1, h2, h3, _⟩
            · omega
            · exact ⟨h1, h2, h3⟩
          have hxn := (hg.ok _ hxm).1
          have hsF := stepF_pos hl0
          generalize hgx : ga s.by_ v = x at *
          refine .block (.regSeq (.z zm (.z zm ?_)))
          refine .ixX (enc := stepC es) hs hRb rfl rfl Tryz.runUnderlying221 Tryz.sizeOf226 (ga_get (l := s.by_) (i := v) (by omega)) rfl ?_; intro b109 o109 hc109
          rw [hgx, stepC_eq] at hc109
          refine .q hs (q_loadsR (vs := [I (stepF x), .bool (stepB es x)]) rfl Tryz.isAgg226 Tryz.sizeOf226 hc109) ?_
          refine .o (.alloc hs Tryz.zeroValue226 rfl ?_); intro b17 w hs
          refine .o (.stores (vs := [I (stepF x), .bool (stepB es x)]) hs rfl rfl Tryz.sizeOf226 ?_); intro w hs
          refine .nil (.seq (.regSeq (.z (zfa fa_moorsomref02_step_1) ?_)))
          first | refine .q hs (q_load rfl Tryz.isAgg4 (hm := by repeat (first | exact .here | assumption | exact Mem.row (by omega) (by omega) | refine .there ?_ | refine Mem.app2 ?_)) (hv := by first | rfl | exact ptr_get (by omega) | exact Is_gt (by assumption) (by omega) (by omega) | exact Is_gi (by first | assumption | omega))) ?_ | refine .q hs (q_loadR rfl Tryz.isAgg4 (by assumption)) ?_
          refine .nil ?_
          refine (.cond rfl (fun hc112 => ?_) (fun hc112 => ?_))
          · refine .draw mix rfl hs ?_; intro w hs
            refine .z 0 rfl zm ?_; refine .z 1 rfl zm ?_; refine .z 2 rfl zm ?_
            refine .p (i := 3) rfl (by kernel_rfl) .none (q_ixO (k := v) rfl rfl Tryz.runUnderlying29 Tryz.sizeOf25 rfl hv) ?_
            first | refine .load (i := 4) hs rfl (by kernel_rfl) .none rfl Tryz.isAgg25 ?_ (by repeat (first | exact .here | assumption | exact Mem.row (by omega) (by omega) | refine .there ?_ | refine Mem.app2 ?_)) (by first | rfl | exact ptr_get (by omega) | exact Is_gt (by assumption) (by omega) (by omega) | exact Is_gi (by first | assumption | omega)) | refine .r (i := 4) hs rfl (by kernel_rfl) .none (q_loadR rfl Tryz.isAgg25 (by assumption)) ?_
            refine .z 5 rfl (zfa fa_moorsomref02_step_0) ?_
            first | refine .load (i := 6) hs rfl (by kernel_rfl) .none rfl Tryz.isAgg3 ?_ (by repeat (first | exact .here | assumption | exact Mem.row (by omega) (by omega) | refine .there ?_ | refine Mem.app2 ?_)) (by first | rfl | exact ptr_get (by omega) | exact Is_gt (by assumption) (by omega) (by omega) | exact Is_gi (by first | assumption | omega)) | refine .r (i := 6) hs rfl (by kernel_rfl) .none (q_loadR rfl Tryz.isAgg3 (by assumption)) ?_
            rw [hsF] at hs ⊢
            refine .p (i := 7) rfl (by kernel_rfl) .none (q_ixO (k := x.f) rfl rfl Tryz.runUnderlying25 Tryz.sizeOf3 rfl hxn) ?_
            first | refine .load (i := 8) hs rfl (by kernel_rfl) .none rfl Tryz.isAgg3 ?_ (by repeat (first | exact .here | assumption | exact Mem.row (by omega) (by omega) | refine .there ?_ | refine Mem.app2 ?_)) (by first | rfl | exact ptr_get (by omega) | exact Is_gt (by assumption) (by omega) (by omega) | exact Is_gi (by first | assumption | omega)) | refine .r (i := 8) hs rfl (by kernel_rfl) .none (q_loadR rfl Tryz.isAgg3 (by assumption)) ?_
            refine .z 9 rfl zmin ?_; refine .z 10 rfl zg ?_
            refine .done (by kernel_rfl) hs ?_ (hp := by repeat (first | exact .nil | refine .cons (by first | exact HLe.bot _ | exact HLe.refl _ | assumption) (by first | exact .nil | (refine Sub.one ?_; repeat (first | exact .here | assumption | exact Mem.row (by omega) (by omega) | refine .there ?_ | refine Mem.app2 ?_))) ?_))
            refine nT ?_
            refine .region (.z (zfa fa_moorsomref02_step_0) ?_)
            first | refine .q hs (q_load rfl Tryz.isAgg3 (hm := by repeat (first | exact .here | assumption | exact Mem.row (by omega) (by omega) | refine .there ?_ | refine Mem.app2 ?_)) (hv := by first | rfl | exact ptr_get (by omega) | exact Is_gt (by assumption) (by omega) (by omega) | exact Is_gi (by first | assumption | omega))) ?_ | refine .q hs (q_loadR rfl Tryz.isAgg3 (by assumption)) ?_
            try rw [hsF]
            refine .z zg (.nil ?_)
            refine nB (nT ?_)
            have hnf := stepB_t hc112
            have hcb := (hC.back hT hxm hnf).1
            rw [hxt] at hcb
            exact ⟨(i + 1, x.f), .cons rfl (.consI rfl (by dsimp only; rw [htr, least_snoc, if_neg hnf, hcb]) (by repeat (first | exact .nil rfl rfl | refine .cons rfl ?_))), ⟨hA', ⟨hxn, hxf⟩, hs.tail⟩, by dsimp only; omega⟩
          · refine .skip ?_
            refine nT ?_
            refine .region (.z (zfa fa_moorsomref02_step_0) ?_)
            first | refine .q hs (q_load rfl Tryz.isAgg3 (hm := by repeat (first | exact .here | assumption | exact Mem.row (by omega) (by omega) | refine .there ?_ | refine Mem.app2 ?_)) (hv := by first | rfl | exact ptr_get (by omega) | exact Is_gt (by assumption) (by omega) (by omega) | exact Is_gi (by first | assumption | omega))) ?_ | refine .q hs (q_loadR rfl Tryz.isAgg3 (by assumption)) ?_
            try rw [hsF]
            refine .z zg (.nil ?_)
            refine nB (nT ?_)
            have hnf := stepB_f hl0 (by simpa using hc112)
            exact ⟨(i + 1, x.f), .cons rfl (.consI rfl (by dsimp only; rw [htr, least_snoc, if_pos hnf]) (by repeat (first | exact .nil rfl rfl | refine .cons rfl ?_))), ⟨hA', ⟨hxn, hxf⟩, hs.tail⟩, by dsimp only; omega⟩
end Go.Proofs.YtiiokdeehlfeeaaGreat

namespace Go.Proofs.YtiiokdeehlfeeaaGreat
open Go.MW
theorem notdec_true {p : Prop} [Decidable p] : (!decide p) = true ↔ ¬ p := by simp
theorem notdec_false {p : Prop} [Decidable p] : (!decide p) = false ↔ p := by simp
theorem ref02_within_spec {H : Heap} {w : World} {σ : List Ent} {a0 a1 a2 : Int} (hs : St H w σ) : Cl Tryz.prog 174 [I a0, I a1, I a2] w fun v w' => v = .bool (decide (a1 ≤ a0 ∧ a0 ≤ a2)) ∧ St H w' σ := by
  refine Cl.of Tryz.func174 rfl Tryz.ntmps174 (by simp) (args_cons (k := 0) rfl (args_cons (k := 1) rfl (args_cons (k := 2) rfl (args0)))) ?_
  refine .regSeq (.z zg (.nil (.regSeq (.z zm (.z zm (.z zleq (.z zm ?_)))))))
  refine .bifD (t' := 10) rfl (fun hb10 => ?_) (fun hb10 => ?_)
  · refine .gT rfl rfl ?_
    refine .z zm ?_
    refine .gT rfl rfl ?_
    refine .z zm ?_
    refine .gT rfl rfl ?_
    refine .z zleq (.z zpT (.z zg (.nil ?_)))
    refine .ret (Fin.ret1 Tryz.results174 rfl ?_)
    exact ⟨by simp [*], hs.out⟩
  · refine .gFs 3 3 true rfl rfl rfl ?_
    refine .z zpF (.z zg (.nil ?_))
    refine .ret (Fin.ret1 Tryz.results174 rfl ?_)
    exact ⟨by simp [*], hs.out⟩
theorem ref02_CheckLimit_spec {H : Heap} {w : World} {σ : List Ent} {many : Int} {l : Lim} (hs : St H w σ) : Cl Tryz.prog 175 [I many, .agg l.c.toArray] w fun v w' => v = I (if decide (0 ≤ many ∧ many ≤ 64) && l.ok many then 0 else 20) ∧ St H w' σ := by
  refine Cl.of Tryz.func175 rfl Tryz.ntmps175 (by simp) (args_cons (k := 0) rfl (args_cons (k := 1) rfl (args0))) ?_
  refine .regSeq ?_
  refine .o (.box hs rfl rfl ?_); intro b3 w hs
  refine .z zg (.nil (.seq (.regSeq (.z zm ?_))))
  refine .o (.call Tryz.call174 rfl (ref02_within_spec hs) ?_); rintro _ w ⟨rfl, hs⟩
  refine .z znot (.z zm ?_)
  refine .bif (t' := 8) rfl (fun hb8 => ?_) (fun hb8 => ?_)
  · refine .gFs 5 3 false rfl rfl rfl ?_
    refine .z zpT (.z zm ?_)
    refine .gFs 5 10 false rfl rfl rfl ?_
    refine .z zpT (.z zm ?_)
    refine .gFs 5 17 false rfl rfl rfl ?_
    refine .z zpT (.z zm ?_)
    refine .gFs 4 24 false rfl rfl rfl ?_
    refine .z zpT (.z zm ?_)
    refine .gFs 4 30 false rfl rfl rfl ?_
    refine .z zpT (.nil ?_)
    refine (.condT rfl rfl ?_)
    refine .regSeq (.z zg (.nil ?_))
    refine .ret (rT (Fin.ret1 Tryz.results175 rfl ?_))
    (try simp only [notdec_true] at *)
    (try simp only [notdec_false] at *)
    refine ⟨congrArg I ?_, hs.out⟩
    unfold Lim.ok
    first
      | (rw [if_pos (by simp only [Bool.and_eq_true, decide_eq_true_eq]; omega)]; done)
      | (rw [if_neg (by simp only [Bool.and_eq_true, decide_eq_true_eq]; omega)]; done)
  · refine .gT rfl rfl ?_
    refine .z (zfa fa_api_Limit_0) ?_
    refine .gT rfl rfl ?_
    refine .y hs (zld Tryz.isAgg3) ?_
    refine .gT rfl rfl ?_
    refine .z zm ?_
    refine .gT rfl rfl ?_
    refine .o (.call Tryz.call174 rfl (ref02_within_spec hs) ?_); rintro _ w ⟨rfl, hs⟩
    refine .gT rfl rfl ?_
    refine .z znot (.z zpF (.z zm ?_))
    refine .bif (t' := 15) rfl (fun hb15 => ?_) (fun hb15 => ?_)
    · refine .gFs 5 10 false rfl rfl rfl ?_
      refine .z zpT (.z zm ?_)
      refine .gFs 5 17 false rfl rfl rfl ?_
      refine .z zpT (.z zm ?_)
      refine .gFs 4 24 false rfl rfl rfl ?_
      refine .z zpT (.z zm ?_)
      refine .gFs 4 30 false rfl rfl rfl ?_
      refine .z zpT (.nil ?_)
      refine (.condT rfl rfl ?_)
      refine .regSeq (.z zg (.nil ?_))
      refine .ret (rT (Fin.ret1 Tryz.results175 rfl ?_))
      (try simp only [notdec_true] at *)
      (try simp only [notdec_false] at *)
      refine ⟨congrArg I ?_, hs.out⟩
      unfold Lim.ok
      first
        | (rw [if_pos (by simp only [Bool.and_eq_true, decide_eq_true_eq]; omega)]; done)
        | (rw [if_neg (by simp only [Bool.and_eq_true, decide_eq_true_eq]; omega)]; done)
    · refine .gT rfl rfl ?_
      refine .z (zfa fa_api_Limit_1) ?_
      refine .gT rfl rfl ?_
      refine .y hs (zld Tryz.isAgg3) ?_
      refine .gT rfl rfl ?_
      refine .z zm ?_
      refine .gT rfl rfl ?_
      refine .o (.call Tryz.call174 rfl (ref02_within_spec hs) ?_); rintro _ w ⟨rfl, hs⟩
      refine .gT rfl rfl ?_
      refine .z znot (.z zpF (.z zm ?_))
      refine .bif (t' := 22) rfl (fun hb22 => ?_) (fun hb22 => ?_)
      · refine .gFs 5 17 false rfl rfl rfl ?_
        refine .z zpT (.z zm ?_)
        refine .gFs 4 24 false rfl rfl rfl ?_
        refine .z zpT (.z zm ?_)
        refine .gFs 4 30 false rfl rfl rfl ?_
        refine .z zpT (.nil ?_)
        refine (.condT rfl rfl ?_)
        refine .regSeq (.z zg (.nil ?_))
        refine .ret (rT (Fin.ret1 Tryz.results175 rfl ?_))
        (try simp only [notdec_true] at *)
        (try simp only [notdec_false] at *)
        refine ⟨congrArg I ?_, hs.out⟩
        unfold Lim.ok
        first
          | (rw [if_pos (by simp only [Bool.and_eq_true, decide_eq_true_eq]; omega)]; done)
          | (rw [if_neg (by simp only [Bool.and_eq_true, decide_eq_true_eq]; omega)]; done)
      · refine .gT rfl rfl ?_
        refine .z (zfa fa_api_Limit_0) ?_
        refine .gT rfl rfl ?_
        refine .y hs (zld Tryz.isAgg3) ?_
        refine .gT rfl rfl ?_
        refine .z (zfa fa_api_Limit_1) ?_
        refine .gT rfl rfl ?_
        refine .y hs (zld Tryz.isAgg3) ?_
        refine .gT rfl rfl ?_
        refine .z zeql (.z zpF (.z zm ?_))
        refine .bifD (t' := 29) rfl (fun hb29 => ?_) (fun hb29 => ?_)
        · refine .gFs 4 24 false rfl rfl rfl ?_
          refine .z zpT (.z zm ?_)
          refine .gFs 4 30 false rfl rfl rfl ?_
          refine .z zpT (.nil ?_)
          refine (.condT rfl rfl ?_)
          refine .regSeq (.z zg (.nil ?_))
          refine .ret (rT (Fin.ret1 Tryz.results175 rfl ?_))
          (try simp only [notdec_true] at *)
          (try simp only [notdec_false] at *)
          refine ⟨congrArg I ?_, hs.out⟩
          unfold Lim.ok
          first
            | (rw [if_pos (by simp only [Bool.and_eq_true, decide_eq_true_eq]; omega)]; done)
            | (rw [if_neg (by simp only [Bool.and_eq_true, decide_eq_true_eq]; omega)]; done)
        · refine .gT rfl rfl ?_
          refine .z (zfa fa_api_Limit_2) ?_
          refine .gT rfl rfl ?_
          refine .y hs (zld Tryz.isAgg3) ?_
          refine .gT rfl rfl ?_
          refine .o (.call Tryz.call174 rfl (ref02_within_spec hs) ?_); rintro _ w ⟨rfl, hs⟩
          refine .gT rfl rfl ?_
          refine .z znot (.z zpF (.z zm ?_))
          refine .bif (t' := 35) rfl (fun hb35 => ?_) (fun hb35 => ?_)
          · refine .gFs 4 30 false rfl rfl rfl ?_
            refine .z zpT (.nil ?_)
            refine (.condT rfl rfl ?_)
            refine .regSeq (.z zg (.nil ?_))
            refine .ret (rT (Fin.ret1 Tryz.results175 rfl ?_))
            (try simp only [notdec_true] at *)
            (try simp only [notdec_false] at *)
            refine ⟨congrArg I ?_, hs.out⟩
            unfold Lim.ok
            first
              | (rw [if_pos (by simp only [Bool.and_eq_true, decide_eq_true_eq]; omega)]; done)
              | (rw [if_neg (by simp only [Bool.and_eq_true, decide_eq_true_eq]; omega)]; done)
          · refine .gT rfl rfl ?_
            refine .z (zfa fa_api_Limit_3) ?_
            refine .gT rfl rfl ?_
            refine .y hs (zld Tryz.isAgg3) ?_
            refine .gT rfl rfl ?_
            refine .o (.call Tryz.call174 rfl (ref02_within_spec hs) ?_); rintro _ w ⟨rfl, hs⟩
            refine .gT rfl rfl ?_
            refine .z znot (.z zpF (.nil ?_))
            refine (.cond rfl (fun hc40 => ?_) (fun hc40 => ?_))
            · refine .regSeq (.z zg (.nil ?_))
              refine .ret (rT (Fin.ret1 Tryz.results175 rfl ?_))
              (try simp only [notdec_true] at *)
              (try simp only [notdec_false] at *)
              refine ⟨congrArg I ?_, hs.out⟩
              unfold Lim.ok
              first
                | (rw [if_pos (by simp only [Bool.and_eq_true, decide_eq_true_eq]; omega)]; done)
                | (rw [if_neg (by simp only [Bool.and_eq_true, decide_eq_true_eq]; omega)]; done)
            · refine .skip ?_
              refine nT ?_
              refine .regSeq (.z zg (.nil ?_))
              refine .ret (Fin.ret1 Tryz.results175 rfl ?_)
              (try simp only [notdec_true] at *)
              (try simp only [notdec_false] at *)
              refine ⟨congrArg I ?_, hs.out⟩
              unfold Lim.ok
              first
                | (rw [if_pos (by simp only [Bool.and_eq_true, decide_eq_true_eq]; omega)]; done)
                | (rw [if_neg (by simp only [Bool.and_eq_true, decide_eq_true_eq]; omega)]; done)
theorem ref02_Check_spec {H : Heap} {w : World} {σ : List Ent} {v : Value} {s : Syst} (hs : St H w σ) (hr : RSy H v s) : Cl Tryz.prog 117 [v] w fun v w' => v = I s.check ∧ St H w' σ := by
  obtain ⟨u, rfl, hr⟩ := hr
  obtain ⟨a, c, rfl⟩ := RL.shape hr
  have hlen := (RS.len (RS.recap hr (Nat.le_refl _) (cap' := s.lims.length))).2.2
  refine Cl.of Tryz.func117 rfl Tryz.ntmps117 (by simp) (args_cons (k := 0) rfl (args0)) ?_
  refine .regSeq ?_
  refine .o (.box hs rfl rfl ?_); intro b1 w hs
  refine .z zg (.nil (.seq (.regSeq (.z (zfa fa_api_System_0) (.y hs (zld Tryz.isAgg3) ?_)))))
  refine .o (.call Tryz.call174 rfl (ref02_within_spec hs) ?_); rintro _ w ⟨rfl, hs⟩
  refine .z znot (.nil ?_)
  refine (.cond rfl (fun hc8 => ?_) (fun hc8 => ?_))
  · refine .regSeq (.z zg (.nil ?_))
    refine .ret (rT (Fin.ret1 Tryz.results117 rfl ?_))
    exact ⟨congrArg I (by unfold Syst.check; rw [if_pos (by simp at hc8; omega)]), hs.out⟩
  · refine .skip ?_
    refine nT ?_
    refine .seq (.regSeq (.z (zfa fa_api_System_1) (.y hs (zld Tryz.isAgg22) (.z (zlen Tryz.runUnderlying22) (.z zgtr (.nil ?_))))))
    refine (.condD rfl (fun hc12 => ?_) (fun hc12 => ?_))
    · refine .regSeq (.z zg (.nil ?_))
      refine .ret (rT (Fin.ret1 Tryz.results117 rfl ?_))
      exact ⟨congrArg I (by unfold Syst.check; rw [if_neg (by simpa using hc8), if_pos (by omega)]), hs.out⟩
    · refine .skip ?_
      refine nT ?_
      refine .seq (.regSeq (.z (zfa fa_api_System_1) (.y hs (zld Tryz.isAgg22) (.z (zlen Tryz.runUnderlying22) (.z zm (.nil ?_))))))
      refine .for (N := s.lims.length) (J := fun k fr w => fr = [(14, .slice a s.lims.length c), (1, .pointer (some ⟨b1, 0, none⟩))] ∧ (∀ j < k, ∀ l, s.lims[j]? = some l → l.ok s.many = true) ∧ St H w (.blk b1 [I s.many, .slice a s.lims.length c] :: σ)) (by omega) ?_ ?_ ?_
      · exact .mk ⟨rfl, fun j hj => by omega, hs⟩
      · rintro k fr w hk ⟨rfl, hno, hs⟩
        obtain ⟨x, hx⟩ := nth (l := s.lims) hk
        refine .block (.regSeq ?_)
        refine .ixX (enc := Lim.c) hs hr rfl rfl Tryz.runUnderlying22 Tryz.sizeOf157 hx rfl ?_; intro b18 o18 hc18
        refine .q hs (q_loadsR (vs := x.c) rfl Tryz.isAgg157 Tryz.sizeOf157 hc18) ?_
        refine .o (.alloc hs Tryz.zeroValue157 rfl ?_); intro b4 w hs
        refine .o (.stores (vs := x.c) hs rfl rfl Tryz.sizeOf157 ?_); intro w hs
        refine .nil (.regSeq (.z (zfa fa_api_System_0) (.y hs (zld Tryz.isAgg3) ?_)))
        refine .q hs (q_loads (vs := x.c) rfl Tryz.isAgg157 Tryz.sizeOf157) ?_
        refine .o (.call Tryz.call175 rfl (ref02_CheckLimit_spec hs) ?_); rintro _ w ⟨rfl, hs⟩
        have hmm : 0 ≤ s.many ∧ s.many ≤ 64 := by simpa using hc8
        rw [show (decide (0 ≤ s.many ∧ s.many ≤ 64) && x.ok s.many) = x.ok s.many by rw [decide_eq_true hmm]; rfl]
        refine .z zneq (.nil ?_)
        refine (.condN rfl (fun hc24 => ?_) (fun hc24 => ?_))
        · refine .regSeq (.z zg (.nil ?_))
          refine .ret (rB (rT (rB (rT (Fin.ret1 Tryz.results117 rfl ?_)))))
          exact ⟨congrArg I (by
            have hx0 : x.ok s.many = false := by cases e : x.ok s.many with | false => rfl | true => rw [e] at hc24; simp at hc24
            unfold Syst.check; rw [if_neg (by simpa using hc8), if_neg (by omega), if_pos (List.any_eq_true.2 ⟨x, List.mem_of_getElem? hx, by rw [hx0]; rfl⟩)]), hs.out⟩
        · refine .skip ?_
          refine nB (nT ?_)
          exact .mk ⟨rfl, upto_succ hno hx (by cases e : x.ok s.many with | true => rfl | false => rw [e] at hc24; simp at hc24), hs.tail⟩
      · rintro fr w ⟨rfl, hno, hs⟩
        refine nT ?_
        refine .regSeq (.z zg (.nil ?_))
        refine .ret (Fin.ret1 Tryz.results117 rfl ?_)
        exact ⟨congrArg I (by
          have hall : (s.lims.any fun l => !l.ok s.many) = false := by
            simp only [List.any_eq_false, Bool.not_eq_true', Bool.not_eq_false]
            intro l hl
            obtain ⟨j, hj⟩ := List.getElem?_of_mem hl
            exact hno j (List.getElem?_eq_some_iff.1 hj).1 l hj
          unfold Syst.check; rw [if_neg (by simpa using hc8), if_neg (by omega), hall]; rfl), hs.out⟩
theorem ref02_sized_spec {H : Heap} {w : World} {σ : List Ent} {v : Value} {ws : List Int} (hs : St H w σ) (hr : RI H v ws) : Cl Tryz.prog 201 [v] w fun v w' => ∃ b, v = .bool b ∧ (b = true ↔ SizedW ws) ∧ St H w' σ := by
  obtain ⟨a, c, rfl⟩ := RI.shape hr
  have hl := (RI.len hr).2.2
  refine Cl.of Tryz.func201 rfl Tryz.ntmps201 (by simp) (args_cons (k := 0) rfl (args0)) ?_
  refine .regSeq (.z zg (.nil (.regSeq (.z zg (.nil (.seq (.regSeq (.z zm (.z (zlen Tryz.runUnderlying25) ?_)))))))))
  refine .z zm (.nil ?_)
  refine .for (N := ws.length) (J := fun k fr w => fr = [(6, .slice a ws.length c), (3, I (sizesTo ws k))] ∧ sizesTo ws k ≤ 3600000000000 ∧ St H w σ) (by omega) ?_ ?_ ?_
  · exact .mk ⟨rfl, by simp [sizesTo, sumTo], hs⟩
  · rintro k fr w hk ⟨rfl, hle, hs⟩
    have hx := gi_get hk
    have h0 : 0 ≤ sizesTo ws k := sumTo_nonneg fun v _ => by omega
    have h1 : sizesTo ws (k + 1) = sizesTo ws k + max (gi ws k) (-gi ws k) := rfl
    refine .block (.regSeq ?_)
    first | (refine .ixv hs Tryz.runUnderlying25 Tryz.sizeOf3 ?_; intro b10 o10 hc10) | refine .z (zix Tryz.runUnderlying25 Tryz.sizeOf3) ?_
    refine .y hs (zld Tryz.isAgg3) (.z zg (.nil (.seq (.regSeq (.z zm (.z zlss (.z zm ?_)))))))
    refine .bifD (t' := 14) rfl (fun hb14 => ?_) (fun hb14 => ?_)
    · refine .gFs 2 2 false rfl rfl rfl ?_
      refine .z zpT (.nil ?_)
      refine (.condT rfl rfl ?_)
      refine .regSeq (.z zg (.nil ?_))
      refine .ret (rT (rB (rT (rB (rT (Fin.ret1 Tryz.results201 rfl ?_))))))
      exact ⟨false, rfl, ⟨fun h => (by cases h), fun h => (sizes_over (k := k + 1) hk (by simp only [FF]; omega) h).elim⟩, hs⟩
    · refine .gT rfl rfl ?_
      refine .z zm ?_
      refine .gT rfl rfl ?_
      refine .z zgtr (.z zpF (.nil ?_))
      refine (.condD rfl (fun hc17 => ?_) (fun hc17 => ?_))
      · refine .regSeq (.z zg (.nil ?_))
        refine .ret (rT (rB (rT (rB (rT (Fin.ret1 Tryz.results201 rfl ?_))))))
        exact ⟨false, rfl, ⟨fun h => (by cases h), fun h => (sizes_over (k := k + 1) hk (by simp only [FF]; omega) h).elim⟩, hs⟩
      · refine .skip ?_
        refine nT ?_
        refine .regSeq (.z zm (.z zm (.z zm (.z zneg (.z zmax (.z zadd (.z zg (.nil (.regSeq ?_)))))))))
        refine .z zm (.z zgtr (.nil ?_))
        refine (.condD rfl (fun hc25 => ?_) (fun hc25 => ?_))
        · refine .regSeq (.z zg (.nil ?_))
          refine .ret (rB (rT (rB (rT (Fin.ret1 Tryz.results201 rfl ?_)))))
          exact ⟨false, rfl, ⟨fun h => (by cases h), fun h => (sizes_over (k := k + 1) hk (by simp only [FF]; omega) h).elim⟩, hs⟩
        · refine .skip ?_
          refine nB (nT ?_)
          exact .mk ⟨rfl, by omega, hs⟩ (hs := .cons rfl (.cons rfl (.cons rfl (.consI rfl (by omega) (.nil rfl rfl)))))
  · rintro fr w ⟨rfl, hle, hs⟩
    refine nT ?_
    refine .regSeq (.z zg (.nil ?_))
    refine .ret (Fin.ret1 Tryz.results201 rfl ?_)
    exact ⟨true, rfl, ⟨fun _ => hle, fun _ => rfl⟩, hs⟩
theorem ref02_Weights_spec {H : Heap} {w : World} {σ : List Ent} {v vw : Value} {s : Syst} {ws : List Int} (hs : St H w σ) (hr : RSy H v s) (hrw : RI H vw ws) (hm : 0 ≤ s.many ∧ s.many ≤ 64) : Cl Tryz.prog 184 [v, vw] w fun v w' => ∃ b, v = .bool b ∧ (b = true ↔ (ws.length = s.n ∧ SizedW ws)) ∧ St H w' σ := by
  obtain ⟨u, rfl, hr⟩ := hr
  obtain ⟨aw, cw, rfl⟩ := RI.shape hrw
  have hn : (s.n : Int) = s.many + 1 := by simp only [Syst.n]; omega
  refine Cl.of Tryz.func184 rfl Tryz.ntmps184 (by simp) (args_cons (k := 0) rfl (args_cons (k := 1) rfl (args0))) ?_
  refine .regSeq ?_
  refine .o (.box hs rfl rfl ?_); intro b2 w hs
  refine .z zg (.nil (.regSeq (.z zm (.z (zlen Tryz.runUnderlying25) (.z (zfa fa_api_System_0) (.y hs (zld Tryz.isAgg3) (.z zadd (.z zeql (.z zm ?_)))))))))
  refine .bifD (t' := 11) rfl (fun hb11 => ?_) (fun hb11 => ?_)
  · refine .gT rfl rfl ?_
    refine .z zm ?_
    refine .gT rfl rfl ?_
    refine .o (.call Tryz.call201 rfl (ref02_sized_spec hs hrw) ?_); rintro _ w ⟨b, rfl, hb, hs⟩
    refine .z zpT (.z zg (.nil ?_))
    refine .ret (Fin.ret1 Tryz.results184 rfl ?_)
    first
      | exact ⟨b, rfl, ⟨fun h => ⟨by omega, hb.1 h⟩, fun h => hb.2 h.2⟩, hs.out⟩
      | exact ⟨false, rfl, ⟨fun h => (by cases h), fun h => by omega⟩, hs.out⟩
  · refine .gFs 2 6 true rfl rfl rfl ?_
    refine .z zpF (.z zg (.nil ?_))
    refine .ret (Fin.ret1 Tryz.results184 rfl ?_)
    first
      | exact ⟨b, rfl, ⟨fun h => ⟨by omega, hb.1 h⟩, fun h => hb.2 h.2⟩, hs.out⟩
      | exact ⟨false, rfl, ⟨fun h => (by cases h), fun h => by omega⟩, hs.out⟩
theorem ref02_asked_spec {H : Heap} {w : World} {σ : List Ent} {v vw : Value} {s : Syst} {ws : List Int} (hs : St H w σ) (hr : RSy H v s) (hrw : RI H vw ws) : Cl Tryz.prog 151 [v, vw] w fun v w' => v = I (askErr s ws) ∧ St H w' σ := by
  obtain ⟨u, rfl, hr⟩ := hr
  obtain ⟨al, cl, rfl⟩ := RL.shape hr
  obtain ⟨aw, cw, rfl⟩ := RI.shape hrw
  refine Cl.of Tryz.func151 rfl Tryz.ntmps151 (by simp) (args_cons (k := 0) rfl (args_cons (k := 1) rfl (args0))) ?_
  refine .regSeq ?_
  refine .o (.box hs rfl rfl ?_); intro b2 w hs
  refine .z zg (.nil (.regSeq (.y hs (zls [_, _] Tryz.isAgg24 Tryz.sizeOf24) ?_)))
  refine .o (.call Tryz.call117 rfl (ref02_Check_spec (s := s) hs ⟨_, rfl, hr⟩) ?_); rintro _ w ⟨rfl, hs⟩
  refine .z zg (.nil (.seq (.regSeq (.z zm (.z zeql (.z zm ?_))))))
  refine .bifD (t' := 10) rfl (fun hb10 => ?_) (fun hb10 => ?_)
  · refine .gT rfl rfl ?_
    have hok := s.ok_iff.1 hb10
    have hm0 := hok.m0; have hm1 := hok.m1
    refine .y hs (zls [_, _] Tryz.isAgg24 Tryz.sizeOf24) ?_
    refine .gT rfl rfl ?_
    refine .z zm ?_
    refine .gT rfl rfl ?_
    refine .o (.call Tryz.call184 rfl (ref02_Weights_spec (s := s) hs ⟨_, rfl, hr⟩ hrw ⟨hm0, hm1⟩) ?_); rintro _ w ⟨b, rfl, hb, hs⟩
    refine .gT rfl rfl ?_
    refine .z znot (.z zpT (.nil ?_))
    refine (.cond rfl (fun hc15 => ?_) (fun hc15 => ?_))
    · refine .region (.z zg (.nil ?_))
      refine nT ?_
      refine .regSeq (.z zm (.z zg (.nil ?_)))
      refine .ret (Fin.ret1 Tryz.results151 rfl ?_)
      refine ⟨congrArg I ?_, hs.out⟩
      unfold askErr
      first
        | (rw [if_neg (by omega), if_neg (fun h => by have := hb.2 h; simp_all)]; done)
        | (rw [if_neg (by omega), if_pos (hb.1 (by simpa using hc15))]; omega)
        | (rw [if_pos (by assumption)]; done)
    · refine .skip ?_
      refine nT ?_
      refine .regSeq (.z zm (.z zg (.nil ?_)))
      refine .ret (Fin.ret1 Tryz.results151 rfl ?_)
      refine ⟨congrArg I ?_, hs.out⟩
      unfold askErr
      first
        | (rw [if_neg (by omega), if_neg (fun h => by have := hb.2 h; simp_all)]; done)
        | (rw [if_neg (by omega), if_pos (hb.1 (by simpa using hc15))]; omega)
        | (rw [if_pos (by assumption)]; done)
  · refine .gFs 4 2 true rfl rfl rfl ?_
    refine .z zpF (.nil ?_)
    refine (.condF rfl rfl ?_)
    refine .skip ?_
    refine nT ?_
    refine .regSeq (.z zm (.z zg (.nil ?_)))
    refine .ret (Fin.ret1 Tryz.results151 rfl ?_)
    refine ⟨congrArg I ?_, hs.out⟩
    unfold askErr
    first
      | (rw [if_neg (by omega), if_neg (fun h => by have := hb.2 h; simp_all)]; done)
      | (rw [if_neg (by omega), if_pos (hb.1 (by simpa using hc15))]; omega)
      | (rw [if_pos (by assumption)]; done)
theorem ref02_Negative_spec {H : Heap} {w : World} {σ : List Ent} {v : Value} {ws : List Int} (hs : St H w σ) (hr : RI H v ws) (hl : ws.length ≤ 1000) (hz : SizedW ws) : Cl Tryz.prog 166 [v] w fun u w' => ∃ H1, HLe H H1 ∧ RI H1 u (negW ws) ∧ St H1 w' σ := by
  obtain ⟨a, c, rfl⟩ := RI.shape hr
  have hFF : FF = 3600000000000 := rfl
  unfold SizedW at hz
  refine Cl.of Tryz.func166 rfl Tryz.ntmps166 (by simp) (args_cons (k := 0) rfl (args0)) ?_
  refine .regSeq (.z zg (.nil (.regSeq (.z zg (.nil (.seq (.regSeq (.z zm (.z (zlen Tryz.runUnderlying25) ?_)))))))))
  refine .z zm (.nil ?_)
  refine .for (N := ws.length) (J := fun k fr w => ∃ v3 en, OwnS 1 v3 (Is (negW (ws.take k))) en ∧ fr = [(3, v3), (6, .slice a ws.length c)] ∧ St H w (en :: σ)) (by omega) ?_ ?_ ?_
  · exact .mk ⟨_, _, .nil 1 none, rfl, hs.nul⟩
  · rintro k fr w hk ⟨v3, en, hO, rfl, hs⟩
    have hx := gi_get hk
    have hsz := sizes_at ws (v := k) (n := ws.length) hk
    refine .block (.regSeq ?_)
    refine .ixY hs hr rfl rfl Tryz.runUnderlying25 Tryz.sizeOf3 hx rfl ?_; intro b10 o10 hc10
    refine .q hs (q_loadR rfl Tryz.isAgg3 hc10) ?_
    refine .z zg (.nil (.region (.z zm (.z zm (.z zneg ?_)))))
    refine .o (.buildSlice (cells := [_]) hs bls_sl_int_1 rfl rfl ?_); intro b15 w hs
    refine .o (.append (ys := [I (-gi ws k)]) hs app_sl_int_int rfl rfl hO (.own .here rfl rfl) (by simp [Value.oneCell']) (fun l' h => by simp [negW] at h; omega) ?_); intro v16 en16 w hO2 hs
    refine .z zg (.nil ?_)
    refine nB (nT ?_)
    exact .mk ⟨v16, en16, by rw [take_snoc hx]; simpa [negW] using hO2, rfl, hs.sub (by repeat (first | exact Sub.refl _ | constructor | apply Sub.weaken))⟩
  · rintro fr w ⟨v3, en, hO, rfl, hs⟩
    rw [List.take_length] at hO
    refine nT ?_
    refine .regSeq (.z zm (.z zg (.nil ?_)))
    refine .ret (Fin.ret1 Tryz.results166 rfl ?_)
    obtain ⟨H2, g1, g2, hs⟩ := hO.publishI (by simp [negW]; omega) hs .here
    exact ⟨H2, g1, g2, hs⟩
theorem ref02_most_spec {H : Heap} {w : World} {σ : List Ent} {vm vw : Value} {s : Syst} {Ms : List (List Int)} {ws : List Int} (hs : St H w σ) (hM : RT H vm Ms) (hqM : Sq s.n Ms) (hT : WaysT s.n s.arcs (gt Ms)) (hrw : RI H vw ws) (hA : askErr s ws = 0) :
    Cl Tryz.prog 165 [vm, vw] w fun u w' => ∃ H1 n e, HLe H H1 ∧ u = .tuple #[I n, I e] ∧ MostR s ws n e ∧ St H1 w' σ := by
  obtain ⟨hok, hwl, hz⟩ := askErr_ok hA
  have hinn := hok.inn
  have hn65 := hok.n65
  have hnp := s.n_pos
  obtain ⟨fs, hF⟩ := tab_exists s.n (gt Ms)
  have hsd := sound_diag hok hT
  have hz2 : sizesTo ws s.n ≤ FF := by unfold SizedW at hz; rwa [hwl] at hz
  refine Cl.of Tryz.func165 rfl Tryz.ntmps165 (by simp) (args_cons (k := 0) rfl (args_cons (k := 1) rfl (args0))) ?_
  refine .regSeq (.z zg (.z zg (.nil (.seq (.regSeq (.z zm ?_))))))
  refine .o (.call Tryz.call154 rfl (ref02_Sound_spec hs hM hqM (by omega)) ?_); rintro _ w ⟨b, rfl, hb, hs⟩
  refine .z znot (.nil ?_)
  refine (.cond rfl (fun hc10 => ?_) (fun hc10 => ?_))
  · refine .regSeq (.z zg (.z zg (.nil ?_)))
    refine .ret (rT (Fin.ret2 Tryz.results165 rfl rfl ?_))
    have hb0 : b = false := by simpa using hc10
    exact ⟨H, 0, 23, HLe.refl H, rfl, mostR_clash hA (fun h => by have := hb.2 (hsd.1 h); rw [hb0] at this; cases this), hs⟩
  · refine .skip ?_
    refine nT ?_
    refine .regSeq (.z zm (.z zm ?_))
    have hso : s.Sound := hsd.2 (hb.1 (by simpa using hc10))
    refine .o (.call Tryz.call194 rfl (ref02_Least_spec (n := s.many.toNat) (es := fs) hs hM hqM hrw hwl hn65 hz2 hF (by obtain ⟨p, hp⟩ := hso; exact ⟨p, (hT.feas hinn hF).2 hp⟩)
      (fun x hx => by
        obtain ⟨b1, b2, b3, b4, b5⟩ := hF.ok x hx
        have h1 := hT.up x.f x.t b1 b2 (by rw [b4]; exact b5)
        have h2 := hT.low hnp hn65 hinn hso b1 b2 (by rw [b4]; exact b5)
        rw [b4] at h1 h2
        exact ⟨h2, h1⟩)
      (fun m hm => by
        have := (hok.bd hwl hz ((hT.opt hinn hF).1 hm)).2
        exact ⟨this.2, this.1⟩)) ?_); rintro _ w ⟨H1, n, ok, hle1, rfl, hcase, hs⟩
    refine .z zm (.z zex (.z zex (.z zg (.z zg (.nil (.seq (.regSeq (.z zm (.z znot ?_)))))))))
    refine .nil ?_
    refine (.cond rfl (fun hc18 => ?_) (fun hc18 => ?_))
    · refine .regSeq (.z zg (.z zg (.nil ?_)))
      refine .ret (rT (Fin.ret2 Tryz.results165 rfl rfl ?_))
      have hk0 : ok = false := by simpa using hc18
      rcases hcase with ⟨h, _⟩ | ⟨_, h⟩
      · rw [hk0] at h; cases h
      · exact ⟨H1, 0, 22, hle1, rfl, mostR_open hA hso hT hF h, hs⟩
    · refine .skip ?_
      refine nT ?_
      refine .regSeq (.z zm (.z zg (.z zg (.nil ?_))))
      refine .ret (Fin.ret2 Tryz.results165 rfl rfl ?_)
      have hk0 : ok = true := by simpa using hc18
      rcases hcase with ⟨_, h⟩ | ⟨h, _⟩
      · exact ⟨H1, n, 0, hle1, rfl, mostR_opt hA hT hF h, hs⟩
      · rw [hk0] at h; cases h
theorem ref02_ends_spec {H : Heap} {w : World} {σ : List Ent} {v vw : Value} {s : Syst} {ws : List Int} (hs : St H w σ) (hr : RSy H v s) (hrw : RI H vw ws) (hA : askErr s ws = 0) :
    Cl Tryz.prog 111 [v, vw] w fun u w' => ∃ H1 lo hi e, HLe H H1 ∧ u = .tuple #[I lo, I hi, I e] ∧ RangeR s ws lo hi e ∧ St H1 w' σ := by
  obtain ⟨u, rfl, hr⟩ := hr
  obtain ⟨al, cl, rfl⟩ := RL.shape hr
  obtain ⟨hok, hwl, hz⟩ := askErr_ok hA
  have hn65 := hok.n65
  have hBB : BB = 4608000000000000000 := rfl
  refine Cl.of Tryz.func111 rfl Tryz.ntmps111 (by simp) (args_cons (k := 0) rfl (args_cons (k := 1) rfl (args0))) ?_
  refine .regSeq ?_
  refine .o (.box hs rfl rfl ?_); intro b2 w hs
  refine .z zg (.z zg (.z zg (.nil (.regSeq (.y hs (zls [_, _] Tryz.isAgg24 Tryz.sizeOf24) ?_)))))
  refine .o (.call Tryz.call126 rfl (ref02_Ways_spec (s := s) hs ⟨_, rfl, hr⟩ hok) ?_); rintro _ w ⟨H1, Ms, hle1, hM, hqM, hT, hs⟩
  refine .z zg (.nil (.regSeq (.z zm (.z zm ?_))))
  refine .o (.call Tryz.call165 rfl (ref02_most_spec (s := s) hs hM hqM hT (hrw.mono hle1) hA) ?_); rintro _ w ⟨H2, n, e, hle2, rfl, hR, hs⟩
  refine .z zm (.z zex (.z zex (.z zg (.z zg (.nil (.seq (.regSeq (.z zm (.z zneq ?_)))))))))
  refine .nil ?_
  refine (.condN rfl (fun hc20 => ?_) (fun hc20 => ?_))
  · refine .regSeq (.z zm (.z zg (.z zg (.z zg (.nil ?_)))))
    refine .ret (rT (Fin.ret3 Tryz.results111 rfl rfl rfl ?_))
    exact ⟨H2, 0, 0, e, hle1.trans hle2, rfl, .first hR hc20, hs.out⟩
  · refine .skip ?_
    refine nT ?_
    refine .regSeq (.z zm (.z zm ?_))
    obtain rfl : e = 0 := by simpa using hc20
    refine .o (.call Tryz.call166 rfl (ref02_Negative_spec hs ((hrw.mono hle1).mono hle2) (by omega) hz) ?_); rintro _ w ⟨H3, hle3, hN, hs⟩
    refine .o (.call Tryz.call165 rfl (ref02_most_spec (s := s) (ws := negW ws) hs ((hM.mono hle2).mono hle3) hqM hT hN (by rw [askErr_neg]; exact hA)) ?_); rintro _ w ⟨H4, n2, e2, hle4, rfl, hR2, hs⟩
    refine .z zm (.z zex (.z zex (.z zg (.z zg (.nil (.seq (.regSeq (.z zm (.z zneq ?_)))))))))
    refine .nil ?_
    refine (.condN rfl (fun hc30 => ?_) (fun hc30 => ?_))
    · refine .regSeq (.z zm (.z zg (.z zg (.z zg (.nil ?_)))))
      refine .ret (rT (Fin.ret3 Tryz.results111 rfl rfl rfl ?_))
      exact ⟨H4, 0, 0, e2, hle1.trans (hle2.trans (hle3.trans hle4)), rfl, .second hR hR2 hc30, hs.out⟩
    · refine .skip ?_
      refine nT ?_
      refine .regSeq (.z zm ?_)
      obtain rfl : e2 = 0 := by simpa using hc30
      have hbd := (hR2.2.2 rfl).2
      refine .z zneg (.z zm (.z zg (.z zg (.z zg (.nil ?_)))))
      refine .ret (Fin.ret3 Tryz.results111 rfl rfl rfl ?_)
      exact ⟨H4, -n2, n, 0, hle1.trans (hle2.trans (hle3.trans hle4)), rfl, .ok hR hR2, hs.out⟩
theorem ref02_Range_spec {H : Heap} {w : World} {σ : List Ent} {v vw : Value} {s : Syst} {ws : List Int} (hs : St H w σ) (hr : RSy H v s) (hrw : RI H vw ws) :
    Cl Tryz.prog 75 [v, vw] w fun u w' => ∃ H1 lo hi e, HLe H H1 ∧ u = .tuple #[I lo, I hi, I e] ∧ RangeR s ws lo hi e ∧ St H1 w' σ := by
  obtain ⟨u, rfl, hr⟩ := hr
  obtain ⟨al, cl, rfl⟩ := RL.shape hr
  obtain ⟨aw, cw, rfl⟩ := RI.shape hrw
  refine Cl.of Tryz.func75 rfl Tryz.ntmps75 (by simp) (args_cons (k := 0) rfl (args_cons (k := 1) rfl (args0))) ?_
  refine .regSeq ?_
  refine .o (.box hs rfl rfl ?_); intro b2 w hs
  refine .z zg (.z zg (.z zg (.nil (.regSeq (.y hs (zls [_, _] Tryz.isAgg24 Tryz.sizeOf24) (.z zm ?_))))))
  refine .o (.call Tryz.call151 rfl (ref02_asked_spec (s := s) hs ⟨_, rfl, hr⟩ hrw) ?_); rintro _ w ⟨rfl, hs⟩
  refine .z zg (.nil (.seq (.regSeq (.z zm (.z zneq (.nil ?_))))))
  refine (.condN rfl (fun hc12 => ?_) (fun hc12 => ?_))
  · refine .regSeq (.z zm (.z zg (.z zg (.z zg (.nil ?_)))))
    refine .ret (rT (Fin.ret3 Tryz.results75 rfl rfl rfl ?_))
    exact ⟨H, 0, 0, _, HLe.refl H, rfl, .first ⟨.bad hc12, fun _ => rfl, fun h => (hc12 h).elim⟩ hc12, hs.out⟩
  · refine .skip ?_
    refine nT ?_
    refine .regSeq (.y hs (zls [_, _] Tryz.isAgg24 Tryz.sizeOf24) (.z zm ?_))
    have hA : askErr s ws = 0 := by simpa using hc12
    refine .o (.call Tryz.call111 rfl (ref02_ends_spec (s := s) hs ⟨_, rfl, hr⟩ hrw hA) ?_); rintro _ w ⟨H1, lo, hi, e, hle1, rfl, hR, hs⟩
    refine .z zex (.z zex (.z zex (.z zg (.z zg (.z zg (.nil ?_))))))
    refine .ret (Fin.ret3 Tryz.results75 rfl rfl rfl ?_)
    exact ⟨H1, lo, hi, e, hle1, rfl, hR, hs.out⟩
end Go.Proofs.YtiiokdeehlfeeaaGreat

namespace Go.Proofs.YtiiokdeehlfeeaaGreat
open Go.MW
def SettledR (a : Quest) (b : Bool) (e : Int) : Prop := (CAskR a e ∧ e ≠ 0 ∧ b = false) ∨ (AskOk a ∧ e = 0 ∧ ∃ lo hi, RangeR a.sys a.ws lo hi 0 ∧ b = decide (hi - lo ≤ a.width))
def SideR (a : Quest) (z x e : Int) : Prop := (CAskR a e ∧ e ≠ 0 ∧ x = 0) ∨ (AskOk a ∧ e = 0 ∧ ∃ lo hi, RangeR a.sys a.ws lo hi 0 ∧ x = if z ≤ lo then 1 else if hi < z then 0 else 2)
theorem WidthR.uniq {a : Quest} {n m e f : Int} (h : WidthR a n e) (g : WidthR a m f) : n = m ∧ e = f := by
  rcases h with ⟨h1, h2, h3⟩ | ⟨h1, h2, lo, hi, h3, h4⟩ <;> rcases g with ⟨g1, g2, g3⟩ | ⟨g1, g2, lo', hi', g3, g4⟩
  · exact ⟨by rw [h3, g3], h1.uniq g1⟩
  · exact (h2 (h1.uniq (CAskR.zero.2 g1))).elim
  · exact (g2 (g1.uniq (CAskR.zero.2 h1))).elim
  · obtain ⟨rfl, rfl, -⟩ := h3.uniq g3; exact ⟨by rw [h4, g4], by rw [h2, g2]⟩
theorem SettledR.uniq {a : Quest} {n m : Bool} {e f : Int} (h : SettledR a n e) (g : SettledR a m f) : n = m ∧ e = f := by
  rcases h with ⟨h1, h2, h3⟩ | ⟨h1, h2, lo, hi, h3, h4⟩ <;> rcases g with ⟨g1, g2, g3⟩ | ⟨g1, g2, lo', hi', g3, g4⟩
  · exact ⟨by rw [h3, g3], h1.uniq g1⟩
  · exact (h2 (h1.uniq (CAskR.zero.2 g1))).elim
  · exact (g2 (g1.uniq (CAskR.zero.2 h1))).elim
  · obtain ⟨rfl, rfl, -⟩ := h3.uniq g3; exact ⟨by rw [h4, g4], by rw [h2, g2]⟩
theorem SideR.uniq {a : Quest} {z n m e f : Int} (h : SideR a z n e) (g : SideR a z m f) : n = m ∧ e = f := by
  rcases h with ⟨h1, h2, h3⟩ | ⟨h1, h2, lo, hi, h3, h4⟩ <;> rcases g with ⟨g1, g2, g3⟩ | ⟨g1, g2, lo', hi', g3, g4⟩
  · exact ⟨by rw [h3, g3], h1.uniq g1⟩
  · exact (h2 (h1.uniq (CAskR.zero.2 g1))).elim
  · exact (g2 (g1.uniq (CAskR.zero.2 h1))).elim
  · obtain ⟨rfl, rfl, -⟩ := h3.uniq g3; exact ⟨by rw [h4, g4], by rw [h2, g2]⟩
end Go.Proofs.YtiiokdeehlfeeaaGreat

namespace Go.Proofs.YtiiokdeehlfeeaaGreat
open Go.MW
def PairsR (a : Quest) (l : List Prb) (S : Syst) (W : List Int) (e : Int) : Prop := (CPrbR a l e ∧ e ≠ 0 ∧ S = ⟨0, []⟩ ∧ W = []) ∨ (CPrbR a l 0 ∧ e = 0 ∧ S = dblS a l ∧ W = dblW a.ws)
theorem PairsR.uniq {a : Quest} {l : List Prb} {S T : Syst} {W V : List Int} {e f : Int} (h : PairsR a l S W e) (g : PairsR a l T V f) : S = T ∧ W = V ∧ e = f := by
  rcases h with ⟨h1, h2, h3, h4⟩ | ⟨h1, h2, h3, h4⟩ <;> rcases g with ⟨g1, g2, g3, g4⟩ | ⟨g1, g2, g3, g4⟩
  · exact ⟨by rw [h3, g3], by rw [h4, g4], h1.uniq g1⟩
  · exact (h2 (h1.uniq g1)).elim
  · exact (g2 (g1.uniq h1)).elim
  · exact ⟨by rw [h3, g3], by rw [h4, g4], by rw [h2, g2]⟩
def WorstR (a : Quest) (l : List Prb) (n e : Int) : Prop := (CPrbR a l e ∧ e ≠ 0 ∧ n = 0) ∨ (CPrbR a l 0 ∧ e = 0 ∧ PairS a l n)
theorem WorstR.uniq {a : Quest} {l : List Prb} {n m e f : Int} (h : WorstR a l n e) (g : WorstR a l m f) : n = m ∧ e = f := by
  rcases h with ⟨h1, h2, h3⟩ | ⟨h1, h2, h3⟩ <;> rcases g with ⟨g1, g2, g3⟩ | ⟨g1, g2, g3⟩
  · exact ⟨by rw [h3, g3], h1.uniq g1⟩
  · exact (h2 (h1.uniq g1)).elim
  · exact (g2 (g1.uniq h1)).elim
  · exact ⟨h3.uniq g3, by rw [h2, g2]⟩
end Go.Proofs.YtiiokdeehlfeeaaGreat

namespace Go.Proofs.YtiiokdeehlfeeaaGreat
open Go.MW
theorem slices_Equal_int {H : Heap} {w : World} {σ : List Ent} {va vb : Value} {A B : List Int} (hs : St H w σ) (hA : RI H va A) (hB : RI H vb B) :
    Cl Tryz.prog 91 [va, vb] w fun v w' => v = .bool (decide (A = B)) ∧ St H w' σ := by
  obtain ⟨aA, cA, rfl⟩ := RI.shape hA
  obtain ⟨aB, cB, rfl⟩ := RI.shape hB
  have hlA := (RI.len hA).2.2
  have hlB := (RI.len hB).2.2
  refine Cl.of Tryz.func91 rfl Tryz.ntmps91 (by simp) (args_cons (k := 0) rfl (args_cons (k := 1) rfl (args0))) ?_
  refine .regSeq (.z zg (.nil (.seq (.regSeq (.z zm (.z (zlen Tryz.runUnderlying25) (.z zm (.z (zlen Tryz.runUnderlying25) (.z zneq ?_)))))))))
  refine .nil ?_
  refine (.condN rfl (fun hc10 => ?_) (fun hc10 => ?_))
  · refine .regSeq (.z zg (.nil ?_))
    refine .ret (rT (Fin.ret1 Tryz.results91 rfl ?_))
    exact ⟨by rw [decide_eq_false (by intro h; subst h; exact hc10 rfl)], hs⟩
  · refine .skip ?_
    refine nT ?_
    refine .seq (.regSeq (.z zm (.z (zlen Tryz.runUnderlying25) (.z zm (.nil ?_)))))
    refine .for (N := A.length) (J := fun k fr w => fr = [(0, .slice aA A.length cA), (1, .slice aB B.length cB)] ∧ (∀ j < k, A[j]? = B[j]?) ∧ St H w σ) (by omega) ?_ ?_ ?_
    · exact .mk ⟨rfl, fun j h => by omega, hs⟩
    · rintro k fr w hk ⟨rfl, h0, hs⟩
      obtain ⟨xA, hxA⟩ := nth hk
      obtain ⟨xB, hxB⟩ := nth (l := B) (k := k) (by omega)
      refine .block (.regSeq (.z zm (.z zg (.nil ?_))))
      refine .seq (.draw mix rfl hs ?_); intro w hs
      refine .z 0 rfl zm ?_; refine .z 1 rfl zm ?_
      refine .ixX (enc := fun x => [I x]) (i := 2) hs rfl (by kernel_rfl) .none hA rfl rfl Tryz.runUnderlying25 Tryz.sizeOf3 hxA rfl ?_; intro b18 o18 hc18; replace hc18 := CellsAt.one hc18
      refine .r (i := 3) hs rfl (by kernel_rfl) .none (q_loadR rfl Tryz.isAgg3 hc18) ?_
      refine .z 4 rfl zm ?_; refine .z 5 rfl zm ?_
      refine .ixX (enc := fun x => [I x]) (i := 6) hs rfl (by kernel_rfl) .none hB rfl rfl Tryz.runUnderlying25 Tryz.sizeOf3 hxB rfl ?_; intro b22 o22 hc22; replace hc22 := CellsAt.one hc22
      refine .r (i := 7) hs rfl (by kernel_rfl) .none (q_loadR rfl Tryz.isAgg3 hc22) ?_
      refine .z 8 rfl zneq ?_; refine .done (by kernel_rfl) hs ?_
      refine (.condN rfl (fun hc24 => ?_) (fun hc24 => ?_))
      · refine .regSeq (.z zg (.nil ?_))
        refine .ret (rB (rT (rB (rT (Fin.ret1 Tryz.results91 rfl ?_)))))
        exact ⟨by rw [decide_eq_false (by intro h; subst h; rw [hxA] at hxB; cases hxB; exact hc24 rfl)], hs⟩
      · refine .skip ?_
        refine nB (nT ?_)
        exact .mk ⟨rfl, fun j hj => by
          by_cases e : j = k
          · subst e; rw [hxA, hxB, hc24]
          · exact h0 j (by omega), hs⟩
    · rintro fr w ⟨rfl, h0, hs⟩
      refine nT ?_
      refine .regSeq (.z zg (.nil ?_))
      refine .ret (Fin.ret1 Tryz.results91 rfl ?_)
      exact ⟨by rw [decide_eq_true (List.ext_getElem? fun j => by
        by_cases e : j < A.length
        · exact h0 j e
        · rw [List.getElem?_eq_none (by omega), List.getElem?_eq_none (by omega)])], hs⟩
end Go.Proofs.YtiiokdeehlfeeaaGreat

namespace Go.Proofs.YtiiokdeehlfeeaaGreat
open Go.MW
inductive CWR (a : Quest) (l : List Prb) (n m : Int) (us : List Use) : Int → Prop
  | ask {e : Int} (h : CPrbR a l e) (he : e ≠ 0) : CWR a l n m us e
  | bad {e : Int} (h : CPrbR a l 0) (h1 : ProofR (dblS a l) (dblW a.ws) m us e) (he : e ≠ 0) : CWR a l n m us 24
  | more (h : CPrbR a l 0) (h1 : ProofR (dblS a l) (dblW a.ws) m us 0) (he : n < m) : CWR a l n m us 94
  | ok (h : CPrbR a l 0) (h1 : ProofR (dblS a l) (dblW a.ws) m us 0) (he : ¬ n < m) : CWR a l n m us 0
theorem CWR.uniq {a : Quest} {l : List Prb} {n m : Int} {us : List Use} {e f : Int} (h : CWR a l n m us e) (g : CWR a l n m us f) : e = f := by
  cases h with
  | ask h he =>
    cases g with
    | ask g _ => exact h.uniq g
    | bad g _ _ => exact (he (h.uniq g)).elim
    | more g _ _ => exact (he (h.uniq g)).elim
    | ok g _ _ => exact (he (h.uniq g)).elim
  | bad h h1 he =>
    cases g with
    | ask g ge => exact (ge (g.uniq h)).elim
    | bad g _ _ => rfl
    | more g g1 _ => exact (he (h1.uniq g1)).elim
    | ok g g1 _ => exact (he (h1.uniq g1)).elim
  | more h h1 he =>
    cases g with
    | ask g ge => exact (ge (g.uniq h)).elim
    | bad g g1 ge => exact (ge (g1.uniq h1)).elim
    | more g _ _ => rfl
    | ok g _ ge => exact (ge he).elim
  | ok h h1 he =>
    cases g with
    | ask g ge => exact (ge (g.uniq h)).elim
    | bad g g1 ge => exact (ge (g1.uniq h1)).elim
    | more g _ ge => exact (he ge).elim
    | ok g _ _ => rfl
end Go.Proofs.YtiiokdeehlfeeaaGreat

namespace Go.Proofs.YtiiokdeehlfeeaaGreat
open Go.MW
inductive CycR (s : Syst) (xs : List Int) : Int → Prop
  | bad (h : s.check ≠ 0) (h1 : xs = []) : CycR s xs s.check
  | sound (h : s.Ok) (h1 : s.Sound) (h2 : xs = []) : CycR s xs 0
  | chain {st : BS} {x : Arc} {z k : Nat} (h : s.Ok) (h1 : ¬ s.Sound) (h2 : NearR s.n s.arcs st (some x)) (h3 : z = parK st.by_ x.t (s.n + 1)) (h4 : 1 ≤ k) (h5 : k ≤ s.n) (h6 : parK st.by_ z k = z) (h7 : xs = (idxTo st.by_ z k).reverse) : CycR s xs 0
end Go.Proofs.YtiiokdeehlfeeaaGreat

namespace Go.Proofs.YtiiokdeehlfeeaaGreat
open Go.MW
def ROut (H : Heap) (v : Value) (vs : List Int) : Prop := ∃ u, v = .agg #[u] ∧ RI H u vs
theorem ROut.mono {H H' : Heap} {v : Value} {vs : List Int} (h : ROut H v vs) (hl : HLe H H') : ROut H' v vs := by
  obtain ⟨u, h1, h2⟩ := h; exact ⟨u, h1, h2.mono hl⟩
end Go.Proofs.YtiiokdeehlfeeaaGreat

namespace Go.Proofs.YtiiokdeehlfeeaaGreat
open Go.MW
inductive COutR (a : Quest) (l : List Prb) (vs : List Int) : Int → Prop
  | ask {e : Int} (h : CPrbR a l e) (he : e ≠ 0) : COutR a l vs e
  | size (h : CPrbR a l 0) (h1 : vs.length ≠ l.length) : COutR a l vs 92
  | ok (h : CPrbR a l 0) (h1 : vs.length = l.length) : COutR a l vs 0
theorem COutR.zero {a : Quest} {l : List Prb} {vs : List Int} (h : COutR a l vs 0) : CPrbR a l 0 ∧ vs.length = l.length := by
  generalize hz : (0 : Int) = y at h
  cases h with
  | ask _ he => exact (he hz.symm).elim
  | size => omega
  | ok h h1 => exact ⟨h, h1⟩
theorem COutR.uniq {a : Quest} {l : List Prb} {vs : List Int} {e f : Int} (h : COutR a l vs e) (g : COutR a l vs f) : e = f := by
  cases h with
  | ask h he =>
    cases g with
    | ask g _ => exact h.uniq g
    | size g _ => exact (he (h.uniq g)).elim
    | ok g _ => exact (he (h.uniq g)).elim
  | size h h1 =>
    cases g with
    | ask g ge => exact (ge (g.uniq h)).elim
    | size => rfl
    | ok _ g1 => exact (h1 g1).elim
  | ok h h1 =>
    cases g with
    | ask g ge => exact (ge (g.uniq h)).elim
    | size _ g1 => exact (g1 h1).elim
    | ok => rfl
end Go.Proofs.YtiiokdeehlfeeaaGreat

namespace Go.Proofs.YtiiokdeehlfeeaaGreat
open Go.MW
structure KeepsP (s : Syst) (x : List Int) : Prop where
  len : x.length = s.n
  zero : gi x 0 = 0
  free : ∀ v < s.n, -1000000000 ≤ gi x v ∧ gi x v ≤ 1000000000
  feas : Feas s.arcs (gi x)
theorem ref02_Close_spec {H : Heap} {w : World} {σ : List Ent} {v : Value} {s : Syst} (hs : St H w σ) (hr : RSy H v s) :
    Cl Tryz.prog 124 [v] w fun u w' => ∃ H1 vt e, HLe H H1 ∧ u = .tuple #[vt, I e] ∧ ((s.check ≠ 0 ∧ e = s.check ∧ vt = .slice none 0 0) ∨ (s.Ok ∧ ¬ s.Sound ∧ e = 23 ∧ vt = .slice none 0 0) ∨ (s.Ok ∧ s.Sound ∧ e = 0 ∧ ∃ rs, RT H1 vt rs ∧ Sq s.n rs ∧ WaysT s.n s.arcs (gt rs))) ∧ St H1 w' σ := by
  obtain ⟨ul, rfl, hl⟩ := hr
  obtain ⟨al, cl, rfl⟩ := RL.shape hl
  refine Cl.of Tryz.func124 rfl Tryz.ntmps124 (by simp) (args_cons (k := 0) rfl (args0)) ?_
  refine .regSeq ?_
  refine .o (.box hs rfl rfl ?_); intro b1 w hs
  refine .z zg (.z zg (.nil (.regSeq (.y hs (zls [_, _] Tryz.isAgg24 Tryz.sizeOf24) ?_))))
  refine .o (.call Tryz.call117 rfl (ref02_Check_spec (s := s) hs ⟨_, rfl, hl⟩) ?_); rintro _ w ⟨rfl, hs⟩
  refine .z zg (.nil (.seq (.regSeq (.z zm (.z zneq (.nil ?_))))))
  refine (.condN rfl (fun hc9 => ?_) (fun hc9 => ?_))
  · refine .regSeq (.z zm (.z zg (.z zg (.nil ?_))))
    refine .ret (rT (Fin.ret2 Tryz.results124 rfl rfl ?_))
    exact ⟨H, _, _, HLe.refl H, rfl, .inl ⟨hc9, rfl, rfl⟩, hs.out⟩
  · refine .skip ?_
    refine nT ?_
    refine .regSeq (.y hs (zls [_, _] Tryz.isAgg24 Tryz.sizeOf24) ?_)
    have hok : s.Ok := s.ok_iff.1 (by simpa using hc9)
    have hm1 := hok.m1
    refine .o (.call Tryz.call126 rfl (ref02_Ways_spec (s := s) hs ⟨_, rfl, hl⟩ hok) ?_); rintro v12 w ⟨H1, rs, hle1, hRT, hSq, hWT, hs⟩
    obtain ⟨at', ct, rfl⟩ := hRT.shape
    refine .z zg (.nil (.seq (.regSeq (.z zm ?_))))
    refine .o (.call Tryz.call154 rfl (ref02_Sound_spec hs hRT hSq (by simp only [Syst.n]; omega)) ?_); rintro _ w ⟨b, rfl, hb, hs⟩
    have hbs := hb.trans (sound_diag hok hWT).symm
    refine .z znot (.nil ?_)
    refine (.cond rfl (fun hc15 => ?_) (fun hc15 => ?_))
    · refine .regSeq (.z zg (.z zg (.nil ?_)))
      refine .ret (rT (Fin.ret2 Tryz.results124 rfl rfl ?_))
      exact ⟨H1, _, _, hle1, rfl, .inr (.inl ⟨hok, fun h => by simp [hbs.2 h] at hc15, rfl, rfl⟩), hs.out⟩
    · refine .skip ?_
      refine nT ?_
      refine .regSeq (.z zm (.z zg (.z zg (.nil ?_))))
      refine .ret (Fin.ret2 Tryz.results124 rfl rfl ?_)
      exact ⟨H1, _, _, hle1, rfl, .inr (.inr ⟨hok, hbs.1 (by simpa using hc15), rfl, rs, hRT, hSq, hWT⟩), hs.out⟩
end Go.Proofs.YtiiokdeehlfeeaaGreat

namespace Go.Proofs.YtiiokdeehlfeeaaGreat
open Go.MW
inductive CPtR (s : Syst) (x : List Int) : Int → Prop
  | bad (h : s.check ≠ 0) : CPtR s x s.check
  | off (h : s.Ok) (h1 : ¬ KeepsP s x) : CPtR s x 25
  | ok (h : s.Ok) (h1 : KeepsP s x) : CPtR s x 0
theorem CPtR.uniq {s : Syst} {x : List Int} {e f : Int} (h : CPtR s x e) (g : CPtR s x f) : e = f := by
  cases h with
  | bad h =>
    cases g with
    | bad => rfl
    | off g _ => exact (h (s.ok_iff.2 g)).elim
    | ok g _ => exact (h (s.ok_iff.2 g)).elim
  | off h h1 =>
    cases g with
    | bad g => exact (g (s.ok_iff.2 h)).elim
    | off => rfl
    | ok _ g1 => exact (h1 g1).elim
  | ok h h1 =>
    cases g with
    | bad g => exact (g (s.ok_iff.2 h)).elim
    | off _ g1 => exact (g1 h1).elim
    | ok => rfl
end Go.Proofs.YtiiokdeehlfeeaaGreat

namespace Go.Proofs.YtiiokdeehlfeeaaGreat
open Go.MW
def ValR (a : Quest) (p : Prb) (lo hi e : Int) : Prop := (CPrbR a [p] e ∧ e ≠ 0 ∧ lo = 0 ∧ hi = 0) ∨ (CPrbR a [p] 0 ∧ e = 0 ∧ ∃ l h, RangeR a.sys (oneW a.sys.many p.u) l h 0 ∧ lo = l - p.t ∧ hi = h + p.t)
theorem ValR.uniq {a : Quest} {p : Prb} {lo hi e lo' hi' e' : Int} (h : ValR a p lo hi e) (g : ValR a p lo' hi' e') : lo = lo' ∧ hi = hi' ∧ e = e' := by
  rcases h with ⟨h1, h2, h3, h4⟩ | ⟨h1, h2, l, u, h3, h4, h5⟩
  · rcases g with ⟨g1, g2, g3, g4⟩ | ⟨g1, g2, _⟩
    · exact ⟨by omega, by omega, h1.uniq g1⟩
    · exact (h2 (h1.uniq g1)).elim
  · rcases g with ⟨g1, g2, g3, g4⟩ | ⟨g1, g2, l', u', g3, g4, g5⟩
    · exact (g2 (g1.uniq h1)).elim
    · obtain ⟨rfl, rfl, _⟩ := h3.uniq g3
      exact ⟨by omega, by omega, by omega⟩
end Go.Proofs.YtiiokdeehlfeeaaGreat

namespace Go.Proofs.YtiiokdeehlfeeaaGreat
open Go.MW
def apartV (a : Quest) (A B : List Int) (k : Nat) : Int := sumTo (fun i => gi a.ws i * (gi B i - gi A i)) k
inductive ApR (a : Quest) (l : List Prb) (A B : List Int) : Int → Int → Prop
  | point (h1 : ¬ (KeepsP a.sys A ∧ KeepsP a.sys B)) : ApR a l A B 0 25
  | far (h1 : KeepsP a.sys A) (h2 : KeepsP a.sys B) (h3 : ¬ Near l (gi A) (gi B)) : ApR a l A B 0 92
  | ok (h1 : KeepsP a.sys A) (h2 : KeepsP a.sys B) (h3 : Near l (gi A) (gi B)) : ApR a l A B (IntKind.i64.wrap (apartV a A B a.ws.length)) 0
theorem ApR.uniq {a : Quest} {l : List Prb} {A B : List Int} {n m e f : Int} (h : ApR a l A B n e) (g : ApR a l A B m f) : n = m ∧ e = f := by
  cases h with
  | point h1 =>
    cases g with
    | point => exact ⟨rfl, rfl⟩
    | far g1 g2 _ => exact (h1 ⟨g1, g2⟩).elim
    | ok g1 g2 _ => exact (h1 ⟨g1, g2⟩).elim
  | far h1 h2 h3 =>
    cases g with
    | point g1 => exact (g1 ⟨h1, h2⟩).elim
    | far => exact ⟨rfl, rfl⟩
    | ok _ _ g3 => exact (h3 g3).elim
  | ok h1 h2 h3 =>
    cases g with
    | point g1 => exact (g1 ⟨h1, h2⟩).elim
    | far _ _ g3 => exact (g3 h3).elim
    | ok => exact ⟨rfl, rfl⟩
def TwnR (a : Quest) (l : List Prb) (A B : List Int) (n e : Int) : Prop := (CPrbR a l e ∧ e ≠ 0 ∧ n = 0) ∨ (CPrbR a l 0 ∧ ApR a l A B n e)
theorem TwnR.uniq {a : Quest} {l : List Prb} {A B : List Int} {n m e f : Int} (h : TwnR a l A B n e) (g : TwnR a l A B m f) : n = m ∧ e = f := by
  rcases h with ⟨h1, h2, h3⟩ | ⟨h1, h2⟩
  · rcases g with ⟨g1, g2, g3⟩ | ⟨g1, g2⟩
    · exact ⟨by omega, h1.uniq g1⟩
    · exact (h2 (h1.uniq g1)).elim
  · rcases g with ⟨g1, g2, g3⟩ | ⟨g1, g2⟩
    · exact (g2 (g1.uniq h1)).elim
    · exact h2.uniq g2
end Go.Proofs.YtiiokdeehlfeeaaGreat

namespace Go.Proofs.YtiiokdeehlfeeaaGreat
open Go.MW
structure TwinF (a : Quest) (l : List Prb) (A B : List Int) : Prop where
  kA : KeepsP a.sys A
  kB : KeepsP a.sys B
  near : Near l (gi A) (gi B)
  most : PairS a l (apartV a A B a.ws.length)
  meet : meetErr A B l = 0
end Go.Proofs.YtiiokdeehlfeeaaGreat

namespace Go.Proofs.YtiiokdeehlfeeaaGreat
open Go.MW
theorem BestP.uniq {a : Quest} {l : List Prb} {x y e f : Int} (h : BestP a l x e) (g : BestP a l y f) : x = y ∧ e = f := by
  rcases h with ⟨h1, h2, h3⟩ | ⟨i, n, h1, h2, h3⟩
  · rcases g with ⟨g1, g2, g3⟩ | ⟨j, m, g1, g2, g3⟩
    · exact ⟨by omega, by omega⟩
    · subst h1; have := g3.lt; simp at this
  · rcases g with ⟨g1, g2, g3⟩ | ⟨j, m, g1, g2, g3⟩
    · subst g1; have := h3.lt; simp at this
    · refine ⟨?_, by omega⟩
      have e1 := h3.le j g3.lt m g3.here
      have e2 := g3.le i h3.lt n h3.here
      rcases Nat.lt_trichotomy i j with e | e | e
      · have := g3.first i e n h3.here; omega
      · omega
      · have := h3.first j e m g3.here; omega
end Go.Proofs.YtiiokdeehlfeeaaGreat

namespace Go.Proofs.YtiiokdeehlfeeaaGreat
open Go.MW
theorem TwinF.wrap {a : Quest} {l : List Prb} {A B : List Int} (hok : AskOk a) (h : TwinF a l A B) (hin : ∀ p ∈ l, PrbIn a p) : IntKind.i64.wrap (apartV a A B a.ws.length) = apartV a A B a.ws.length := by
  obtain ⟨lo, hi, hR⟩ := hok.range
  have hb := hR.bd
  obtain ⟨⟨x, y, g1, g2⟩, g3⟩ := h.most
  have h1 := Pair.le hR g1
  obtain ⟨z, hz⟩ := Pair.some hok hin
  have h2 := g3 z z hz
  exact i64wrap (by omega)
end Go.Proofs.YtiiokdeehlfeeaaGreat

namespace Go.Proofs.YtiiokdeehlfeeaaGreat
open Go.MW
def gtw (p : Pck) (j : Nat) : List Int × List Int := p.fails.getD j ([], [])
structure GoodK (a : Quest) (l : List Prb) (p : Pck) (k : Nat) : Prop where
  here : (choicesL l.length)[k]? = some p.probes
  len : p.fails.length = k
  width : p.width ≤ a.width
  worst : CWR a (chosenL l p.probes) p.width p.bound p.uses 0
  fails : ∀ (j : Nat) (cj : List Int), j < k → (choicesL l.length)[j]? = some cj → ∃ n, ApR a (chosenL l cj) (gtw p j).1 (gtw p j).2 n 0 ∧ a.width < n
def PickR (a : Quest) (l : List Prb) (p : Pck) (e : Int) : Prop := (CPrbR a l e ∧ e ≠ 0) ∨ (CPrbR a l 0 ∧ ((e = 0 ∧ ∃ k, GoodK a l p k) ∨ (e = 93 ∧ ¬ ∃ k, GoodK a l p k)))
theorem PickR.uniq {a : Quest} {l : List Prb} {p : Pck} {e f : Int} (h : PickR a l p e) (g : PickR a l p f) : e = f := by
  rcases h with ⟨h1, h2⟩ | ⟨h1, h2⟩
  · rcases g with ⟨g1, g2⟩ | ⟨g1, g2⟩
    · exact h1.uniq g1
    · exact (h2 (h1.uniq g1)).elim
  · rcases g with ⟨g1, g2⟩ | ⟨g1, g2⟩
    · exact (g2 (g1.uniq h1)).elim
    · rcases h2 with ⟨h2, h3⟩ | ⟨h2, h3⟩ <;> rcases g2 with ⟨g2, g3⟩ | ⟨g2, g3⟩
      · omega
      · exact (g3 h3).elim
      · exact (h3 g3).elim
      · omega
end Go.Proofs.YtiiokdeehlfeeaaGreat

namespace Go.Proofs
open Go.Shelf
def Tryz.lays189_ren : Go.Shelf.Ren := ⟨fun | 189 => 192 | 125 => 205 | 257 => 204 | 128 => 223 | 129 => 224 | 294 => 214 | 295 => 215 | 296 => 216 | 297 => 217 | 298 => 218 | 299 => 219 | 216 => 220 | 300 => 221 | 301 => 222 | 328 => 225 | 329 => 226 | 330 => 227 | 331 => 228 | 332 => 229 | 215 => 230 | 343 => 231 | n => n, fun | 28 => 25 | 3 => 3 | 46 => 106 | 0 => 0 | 51 => 227 | 53 => 230 | 4 => 4 | 183 => 235 | 182 => 234 | 131 => 209 | 5 => 5 | 9 => 9 | 218 => 242 | 222 => 246 | 228 => 248 | 229 => 249 | n => n, fun | n => n⟩
theorem Tryz.lays189 : Go.Proofs.Lays.n189 Tryz.prog Tryz.lays189_ren := {
  mixed := by kernel_rfl
  f125 := Tryz.func205.trans (congrArg some (by kernel_rfl))
  f128 := Tryz.func223.trans (congrArg some (by kernel_rfl))
  f129 := Tryz.func224.trans (congrArg some (by kernel_rfl))
  f189 := Tryz.func192.trans (congrArg some (by kernel_rfl))
  f215 := Tryz.func230.trans (congrArg some (by kernel_rfl))
  f216 := Tryz.func220.trans (congrArg some (by kernel_rfl))
  f257 := Tryz.func204.trans (congrArg some (by kernel_rfl))
  f294 := Tryz.func214.trans (congrArg some (by kernel_rfl))
  f295 := Tryz.func215.trans (congrArg some (by kernel_rfl))
  f296 := Tryz.func216.trans (congrArg some (by kernel_rfl))
  f297 := Tryz.func217.trans (congrArg some (by kernel_rfl))
  f298 := Tryz.func218.trans (congrArg some (by kernel_rfl))
  f299 := Tryz.func219.trans (congrArg some (by kernel_rfl))
  f300 := Tryz.func221.trans (congrArg some (by kernel_rfl))
  f301 := Tryz.func222.trans (congrArg some (by kernel_rfl))
  f328 := Tryz.func225.trans (congrArg some (by kernel_rfl))
  f329 := Tryz.func226.trans (congrArg some (by kernel_rfl))
  f330 := Tryz.func227.trans (congrArg some (by kernel_rfl))
  f331 := Tryz.func228.trans (congrArg some (by kernel_rfl))
  f332 := Tryz.func229.trans (congrArg some (by kernel_rfl))
  f343 := Tryz.func231.trans (congrArg some (by kernel_rfl))
  t0 := Tryz.underlying0
  a0 := Tryz.isAgg0
  z0 := Tryz.sizeOf0
  v0 := Tryz.zeroValue0
  t3 := Tryz.underlying3
  a3 := Tryz.isAgg3
  z3 := Tryz.sizeOf3
  v3 := Tryz.zeroValue3
  t4 := Tryz.underlying4
  a4 := Tryz.isAgg4
  z4 := Tryz.sizeOf4
  v4 := Tryz.zeroValue4
  t5 := Tryz.underlying5
  a5 := Tryz.isAgg5
  z5 := Tryz.sizeOf5
  v5 := Tryz.zeroValue5
  t9 := Tryz.underlying9
  a9 := Tryz.isAgg9
  z9 := Tryz.sizeOf9
  v9 := Tryz.zeroValue9
  t28 := Tryz.underlying25
  a28 := Tryz.isAgg25
  z28 := Tryz.sizeOf25
  v28 := Tryz.zeroValue25
  t46 := Tryz.underlying106
  a46 := Tryz.isAgg106
  z46 := Tryz.sizeOf106
  v46 := Tryz.zeroValue106
  t51 := Tryz.underlying227
  a51 := Tryz.isAgg227
  z51 := Tryz.sizeOf227
  v51 := Tryz.zeroValue227
  t53 := Tryz.underlying230
  a53 := Tryz.isAgg230
  z53 := Tryz.sizeOf230
  v53 := Tryz.zeroValue230
  t131 := Tryz.underlying209
  a131 := Tryz.isAgg209
  z131 := Tryz.sizeOf209
  v131 := Tryz.zeroValue209
  t182 := Tryz.underlying234
  a182 := Tryz.isAgg234
  z182 := Tryz.sizeOf234
  v182 := Tryz.zeroValue234
  t183 := Tryz.underlying235
  a183 := Tryz.isAgg235
  z183 := Tryz.sizeOf235
  v183 := Tryz.zeroValue235
  t218 := Tryz.underlying242
  a218 := Tryz.isAgg242
  z218 := Tryz.sizeOf242
  v218 := Tryz.zeroValue242
  t222 := Tryz.underlying246
  a222 := Tryz.isAgg246
  z222 := Tryz.sizeOf246
  v222 := Tryz.zeroValue246
  t228 := Tryz.underlying248
  a228 := Tryz.isAgg248
  z228 := Tryz.sizeOf248
  v228 := Tryz.zeroValue248
  t229 := Tryz.underlying249
  a229 := Tryz.isAgg249
  z229 := Tryz.sizeOf249
  v229 := Tryz.zeroValue249 }
def Tryz.lays2n20_ren : Go.Shelf.Ren := ⟨fun | 20 => 193 | n => n, fun | 22 => 25 | 3 => 3 | 4 => 4 | 0 => 0 | n => n, fun | n => n⟩
theorem Tryz.lays2n20 : Go.Proofs.Lays2.n20 Tryz.prog Tryz.lays2n20_ren := {
  mixed := by kernel_rfl
  f20 := Tryz.func193.trans (congrArg some (by kernel_rfl))
  t0 := Tryz.underlying0
  a0 := Tryz.isAgg0
  z0 := Tryz.sizeOf0
  v0 := Tryz.zeroValue0
  t3 := Tryz.underlying3
  a3 := Tryz.isAgg3
  z3 := Tryz.sizeOf3
  v3 := Tryz.zeroValue3
  t4 := Tryz.underlying4
  a4 := Tryz.isAgg4
  z4 := Tryz.sizeOf4
  v4 := Tryz.zeroValue4
  t22 := Tryz.underlying25
  a22 := Tryz.isAgg25
  z22 := Tryz.sizeOf25
  v22 := Tryz.zeroValue25
  i3 := by kernel_rfl }
end Go.Proofs
namespace Go.Proofs.YtiiokdeehlfeeaaGreat
open Go.Sort Go.RowKit
theorem srt_Sort (blk off cap : Nat) (zs : List Int) (w : World) (hH : Holds (Value.int .i64) w blk off zs.toArray) (hblk : blk < w.heap.size) (hsz : zs.length < 4611686018427387904) :
    Calls Tryz.prog 192 #[.slice (some ⟨blk, off, none⟩) zs.length cap] w fun e w' => e = .returned (.tuple #[]) ∧ ∃ n os, w' = grow (putRow (Value.int .i64) (Sort.ahead w n) blk off (zs.mergeSort fun x y => decide (x ≤ y)).toArray) os :=
  Any.slices_Sort_int Tryz.lays189 blk off cap zs w hH hblk hsz
theorem srt_Sort_none (p : Option Addr) (cap : Nat) (w : World) : Calls Tryz.prog 192 #[.slice p 0 cap] w fun e w' => e = .returned (.tuple #[]) ∧ w' = w :=
  Any.slices_Sort_int_none Tryz.lays189 p cap w
theorem srt_Compact (blk off cap : Nat) (zs : List Int) (w : World) (hH : Holds (Value.int .i64) w blk off zs.toArray) (hsz : zs.length ≤ 9223372036854775807) (hcap : zs.length ≤ cap) :
    Calls Tryz.prog 193 #[.slice (some ⟨blk, off, none⟩) zs.length cap] w fun e w' => e = .returned (.slice (some ⟨blk, off, none⟩) (Lib.compact zs).length cap) ∧ ∃ q, w' = putRow (Value.int .i64) (Sort.ahead w q) blk off (Lib.compact zs ++ List.replicate (zs.length - (Lib.compact zs).length) 0).toArray :=
  Any.slices_Compact_int Tryz.lays2n20 blk off cap zs w hH hsz hcap
theorem srt_Compact_none (p : Option Addr) (cap : Nat) (w : World) : Calls Tryz.prog 193 #[.slice p 0 cap] w fun e w' => e = .returned (.slice p 0 cap) ∧ w' = w :=
  Any.slices_Compact_int_empty Tryz.lays2n20 p cap w
end Go.Proofs.YtiiokdeehlfeeaaGreat

namespace Go.Proofs.YtiiokdeehlfeeaaGreat
open Go.MW
inductive ReadyR (s : Syst) : Int → Prop
  | bad (h : s.check ≠ 0) : ReadyR s s.check
  | clash (h : s.Ok) (h1 : ¬ s.Sound) : ReadyR s 23
  | ok (h : s.Ok) (h1 : s.Sound) : ReadyR s 0
theorem bound_ready_spec {H : Heap} {w : World} {σ : List Ent} {v : Value} {s : Syst} (hs : St H w σ) (hr : RSy H v s) :
    Cl Tryz.prog 119 [v] w fun u w' => ∃ H1 e, HLe H H1 ∧ u = I e ∧ ReadyR s e ∧ St H1 w' σ := by
  obtain ⟨ul, rfl, hl⟩ := hr
  obtain ⟨al, cl, rfl⟩ := RL.shape hl
  refine Cl.of Tryz.func119 rfl Tryz.ntmps119 (by simp) (args_cons (k := 0) rfl (args0)) ?_
  refine .regSeq ?_
  refine .o (.box hs rfl rfl ?_); intro b1 w hs
  refine .z zg (.nil (.seq (.regSeq (.y hs (zls [_, _] Tryz.isAgg24 Tryz.sizeOf24) ?_))))
  refine .o (.call Tryz.call113 rfl (bound_Check_spec (s := s) hs ⟨_, rfl, hl⟩) ?_); rintro _ w ⟨rfl, hs⟩
  refine .z zg (.nil (.regSeq (.z zm (.z zneq (.nil ?_)))))
  refine (.condN rfl (fun hc7 => ?_) (fun hc7 => ?_))
  · refine .regSeq (.z zm (.z zg (.nil ?_)))
    refine .ret (rT (Fin.ret1 Tryz.results119 rfl ?_))
    exact ⟨H, _, HLe.refl H, rfl, .bad hc7, hs.out⟩
  · refine .skip ?_
    refine nT ?_
    refine .seq (.regSeq (.y hs (zls [_, _] Tryz.isAgg24 Tryz.sizeOf24) ?_))
    have hok : s.Ok := s.ok_iff.1 (by simpa using hc7)
    refine .o (.call Tryz.call114 rfl (bound_isSound_spec (s := s) hs hok ⟨_, rfl, hl⟩) ?_); rintro _ w ⟨H1, b10, hle1, rfl, hb, hs⟩
    refine .z znot (.nil ?_)
    refine (.cond rfl (fun hc11 => ?_) (fun hc11 => ?_))
    · refine .regSeq (.z zg (.nil ?_))
      refine .ret (rT (Fin.ret1 Tryz.results119 rfl ?_))
      exact ⟨H1, _, hle1, rfl, .clash hok (fun h => by simp [hb.2 h] at hc11), hs.out⟩
    · refine .skip ?_
      refine nT ?_
      refine .regSeq (.z zg (.nil ?_))
      refine .ret (Fin.ret1 Tryz.results119 rfl ?_)
      exact ⟨H1, _, hle1, rfl, .ok hok (hb.1 (by simpa using hc11)), hs.out⟩
set_option maxHeartbeats 4000000 in
theorem bound_matrix_spec {H : Heap} {w : World} {σ : List Ent} {v : Value} {s : Syst} (hs : St H w σ) (hr : RSy H v s) (hok : s.Ok) (hsd : s.Sound) :
    Cl Tryz.prog 120 [v] w fun u w' => ∃ H1 rs, HLe H H1 ∧ RT H1 u rs ∧ Sq s.n rs ∧ WaysT s.n s.arcs (gt rs) ∧ St H1 w' σ := by
  obtain ⟨ul, rfl, hl⟩ := hr
  obtain ⟨al, cl, rfl⟩ := RL.shape hl
  have hm0 := hok.m0
  have hm1 := hok.m1
  have hlen := hok.len
  have hnp := s.n_pos
  have hn65 := hok.n65
  have hinn := hok.inn
  have hmn : s.many + 1 = (s.n : Int) := by simp only [Syst.n]; omega
  obtain ⟨p0, hp0⟩ := hsd
  generalize hn : s.n = n at hnp hn65 hinn hmn ⊢
  refine Cl.of Tryz.func120 rfl Tryz.ntmps120 (by simp) (args_cons (k := 0) rfl (args0)) ?_
  refine .regSeq ?_
  refine .o (.box hs rfl rfl ?_); intro b1 w hs
  refine .z zg (.nil (.regSeq (.z (zfa fa_api_System_0) ?_)))
  first | refine .q hs (q_load rfl Tryz.isAgg3 (hm := by repeat (first | exact .here | assumption | exact Mem.row (by omega) (by omega) | refine .there ?_ | refine Mem.app2 ?_)) (hv := by first | rfl | exact ptr_get (by omega) | exact Is_gt (by assumption) (by omega) (by omega) | exact Is_gi (by first | assumption | omega))) ?_ | refine .q hs (q_loadR rfl Tryz.isAgg3 (by assumption)) ?_
  refine .z zadd ?_
  rw [hmn]
  refine .o (.makeP n hs rfl rfl Tryz.runUnderlying29 Tryz.typeInfo25 rfl Tryz.sizeOf25 Tryz.zeroValue25 (by omega) ?_); intro b12 w hs
  refine .o (.alloc hs Tryz.zeroValue29 rfl ?_); intro b3 w hs
  refine .o (.store hs rfl rfl Tryz.sizeOf29 ?_); intro w hs
  refine .nil (.seq (.regSeq ?_))
  first | refine .q hs (q_load rfl Tryz.isAgg29 (hm := by repeat (first | exact .here | assumption | exact Mem.row (by omega) (by omega) | refine .there ?_ | refine Mem.app2 ?_)) (hv := by first | rfl | exact ptr_get (by omega) | exact Is_gt (by assumption) (by omega) (by omega) | exact Is_gi (by first | assumption | omega))) ?_ | refine .q hs (q_loadR rfl Tryz.isAgg29 (by assumption)) ?_
  refine .z (zlen Tryz.runUnderlying29) (.z zm (.nil ?_))
  refine .for (N := n) (J := fun k fr w => fr = [(3, .pointer (some ⟨b3, 0, none⟩)), (1, .pointer (some ⟨b1, 0, none⟩))] ∧ ∃ bs : List Nat, bs.length = k ∧ St H w (.blk b12 (bs.map (ptr n) ++ List.replicate (n - k) (.slice none 0 0)) :: (rowsE bs (tabR ways0 n k) ++ (.blk b3 [.slice (some ⟨b12, 0, none⟩) n n] :: .blk b1 [I s.many, .slice al s.lims.length cl] :: σ)))) (by omega) ?_ ?_ ?_
  · exact .mk ⟨rfl, [], rfl, hs.perm (.swap _ _ _)⟩
  · rintro k fr w hk ⟨rfl, bs, hbl, hs⟩
    refine .block (.regSeq (.z zm (.z zg (.nil ?_))))
    refine .seq (.draw mix rfl hs ?_); intro w hs
    first | refine .load (i := 0) hs rfl (by kernel_rfl) .none rfl Tryz.isAgg29 ?_ (by repeat (first | exact .here | assumption | exact Mem.row (by omega) (by omega) | refine .there ?_ | refine Mem.app2 ?_)) (by first | rfl | exact ptr_get (by omega) | exact Is_gt (by assumption) (by omega) (by omega) | exact Is_gi (by first | assumption | omega)) | refine .r (i := 0) hs rfl (by kernel_rfl) .none (q_loadR rfl Tryz.isAgg29 (by assumption)) ?_
    refine .z 1 rfl zm ?_; refine .z 3 rfl (zfa fa_api_System_0) ?_
    first | refine .load (i := 4) hs rfl (by kernel_rfl) .none rfl Tryz.isAgg3 ?_ (by repeat (first | exact .here | assumption | exact Mem.row (by omega) (by omega) | refine .there ?_ | refine Mem.app2 ?_)) (by first | rfl | exact ptr_get (by omega) | exact Is_gt (by assumption) (by omega) (by omega) | exact Is_gi (by first | assumption | omega)) | refine .r (i := 4) hs rfl (by kernel_rfl) .none (q_loadR rfl Tryz.isAgg3 (by assumption)) ?_
    refine .z 5 rfl zadd ?_
    rw [hmn]
    refine .e1 (i := 2) (by kernel_rfl) rfl rfl .none hs ?_ (hp := by repeat (first | exact .nil | refine .cons (by first | exact HLe.bot _ | exact HLe.refl _ | assumption) (by first | exact .nil | (refine Sub.one ?_; repeat (first | exact .here | assumption | exact Mem.row (by omega) (by omega) | refine .there ?_ | refine Mem.app2 ?_))) ?_))
    refine .buildSlice (cells := [_]) hs bls_sl_int_1 rfl rfl ?_; intro b20 w hs
    refine .go ?_
    refine .e1 (i := 6) (by kernel_rfl) rfl rfl .none hs ?_ (hp := by repeat (first | exact .nil | refine .cons (by first | exact HLe.bot _ | exact HLe.refl _ | assumption) (by first | exact .nil | (refine Sub.one ?_; repeat (first | exact .here | assumption | exact Mem.row (by omega) (by omega) | refine .there ?_ | refine Mem.app2 ?_))) ?_))
    refine .call Tryz.call176 rfl (slices_Repeat_int (z := 1000000000) (c := n) hs .here (by omega) (by omega)) ?_; rintro _ w ⟨b24, rfl, hs⟩
    refine .go ?_
    first | (refine .ixw 7 rfl hs Tryz.runUnderlying29 Tryz.sizeOf25 ?_; intro b25 o25 hc25) | refine .z 7 rfl (zix Tryz.runUnderlying29 Tryz.sizeOf25) ?_
    refine .e1 (i := 8) (by kernel_rfl) rfl rfl .none hs ?_ (hp := by repeat (first | exact .nil | refine .cons (by first | exact HLe.bot _ | exact HLe.refl _ | assumption) (by first | exact .nil | (refine Sub.one ?_; repeat (first | exact .here | assumption | exact Mem.row (by omega) (by omega) | refine .there ?_ | refine Mem.app2 ?_))) ?_))
    refine .store hs rfl rfl Tryz.sizeOf25 ?_ (by repeat constructor) (by simp [hbl]; omega) (ptr_set hbl hk); intro w hs
    refine .go ?_
    refine .done (by kernel_rfl) hs ?_ (hp := by repeat (first | exact .nil | refine .cons (by first | exact HLe.bot _ | exact HLe.refl _ | assumption) (by first | exact .nil | (refine Sub.one ?_; repeat (first | exact .here | assumption | exact Mem.row (by omega) (by omega) | refine .there ?_ | refine Mem.app2 ?_))) ?_))
    refine .region ?_
    first | refine .q hs (q_load rfl Tryz.isAgg29 (hm := by repeat (first | exact .here | assumption | exact Mem.row (by omega) (by omega) | refine .there ?_ | refine Mem.app2 ?_)) (hv := by first | rfl | exact ptr_get (by omega) | exact Is_gt (by assumption) (by omega) (by omega) | exact Is_gi (by first | assumption | omega))) ?_ | refine .q hs (q_loadR rfl Tryz.isAgg29 (by assumption)) ?_
    refine .z zm ?_
    first | (refine .ixw hs Tryz.runUnderlying29 Tryz.sizeOf25 ?_; intro b28 o28 hc28) | refine .z (zix Tryz.runUnderlying29 Tryz.sizeOf25) ?_
    refine .q hs (q_load rfl Tryz.isAgg25 (hv := ptr_last hbl)) ?_
    refine .z zm ?_
    first | (refine .ixv hs Tryz.runUnderlying25 Tryz.sizeOf3 ?_; intro b31 o31 hc31) | refine .z (zix Tryz.runUnderlying25 Tryz.sizeOf3) ?_
    refine .o (.store hs rfl rfl Tryz.sizeOf3 ?_ (by repeat constructor) (blt_Is (by simp; omega)) (Is_set _ _ _)); intro w hs
    refine .nil ?_
    refine nB (nT ?_)
    have e : (List.replicate n (1000000000 : Int)).set k 0 = (List.range n).map (ways0 k) := by
      rw [range_const (fun _ => 1000000000) n 1000000000 (fun _ _ => rfl)]
      exact range_set _ _ hk 0 (fun j _ => by
        unfold ways0
        by_cases e : k = j
        · rw [if_pos e, if_pos e.symm]
        · rw [if_neg e, if_neg (fun h => e h.symm)])
    rw [e] at hs
    replace hs := (hs.perm (.swap _ _ _)).tail.rowIn (by rw [hbl, tabR_length])
    rw [← tabR_succ] at hs
    exact .mk ⟨rfl, bs ++ [b24], by simp [hbl], hs⟩
  · rintro fr w ⟨rfl, bs, hbl, hs⟩
    rw [Nat.sub_self, List.replicate_zero, List.append_nil] at hs
    refine nT ?_
    refine .seq (.regSeq ?_)
    refine .q hs (q_loads (vs := [I s.many, .slice al s.lims.length cl]) rfl Tryz.isAgg24 Tryz.sizeOf24 (hm := .there (Mem.app2 (.there .here)))) ?_
    refine .o (.call Tryz.call172 rfl (bound_steps_spec (s := s) hs hok ⟨_, rfl, hl⟩) ?_); rintro _ w ⟨H1, b34, hle1, rfl, hit, hs⟩
    refine .nil (.block ?_)
    refine .rangeFunc (gf := 196) (cap := [.pointer (some ⟨b34, 0, none⟩)]) (xs := s.arcs.map fun x => [.agg x.v.toArray]) (σb := .blk b12 (bs.map (ptr n)) :: (rowsE bs (tabR ways0 n n) ++ [.blk b3 [.slice (some ⟨b12, 0, none⟩) n n], .blk b1 [I s.many, .slice al s.lims.length cl]])) (σf := σ) (by simpa only [List.cons_append, List.append_assoc, List.nil_append] using hs) trivial rfl hit Tryz.call196 (by simp) rfl
      (I := fun k H' σb => ∃ rs, σb = .blk b12 (bs.map (ptr n)) :: (rowsE bs rs ++ [.blk b3 [.slice (some ⟨b12, 0, none⟩) n n], .blk b1 [I s.many, .slice al s.lims.length cl]]) ∧ Sq n rs ∧ WayB n s.arcs k (gt rs)) (Ix := fun _ _ _ => False) (fun _ _ _ _ _ h => h) (fun _ _ _ _ _ h => h)
      ⟨_, rfl, tabR_sq ways0 n, ways0_B s.arcs (fun i j hi hj => tabR_gt ways0 hi hj)⟩ ?_ ?_ (fun D c H' σb w _ h _ => h.elim)
    · rintro l k hk H2 σb2 σf2 w hle2 ⟨rs, rfl, hq, hB⟩ hs ⟨rr, hrr⟩
      obtain ⟨x, hx⟩ := nth (l := s.arcs) (by simpa using hk)
      have hxk : (s.arcs.map fun x => [Value.agg x.v.toArray])[k] = [.agg x.v.toArray] := map_at hx
      rw [hxk]
      obtain ⟨xf, xt, xne, xc0, xc1⟩ := hinn x (List.mem_of_getElem? hx)
      have hrl := hq.1
      replace hs : St H2 w (.blk b12 (bs.map (ptr n)) :: (rowsE bs rs ++ (.blk b3 [.slice (some ⟨b12, 0, none⟩) n n] :: .blk b1 [I s.many, .slice al s.lims.length cl] :: σf2))) := by simpa only [List.cons_append, List.append_assoc, List.nil_append] using hs
      refine .region ?_
      refine .o (.alloc hs Tryz.zeroValue197 rfl ?_); intro b5 w hs
      refine .o (.stores (vs := x.v) hs rfl rfl Tryz.sizeOf197 ?_); intro w hs
      change St _ _ (.blk b5 x.v :: _) at hs
      refine .nil ?_
      refine nT ?_
      refine ⟨H2, .blk b5 x.v :: .blk b12 (bs.map (ptr n)) :: (rowsE bs rs ++ [.blk b3 [.slice (some ⟨b12, 0, none⟩) n n], .blk b1 [I s.many, .slice al s.lims.length cl]]), HLe.refl _, by simpa only [List.cons_append, List.append_assoc, List.nil_append] using hs, ?_⟩; rintro w σf4 - hs
      replace hs : St H2 w (.blk b5 x.v :: .blk b12 (bs.map (ptr n)) :: (rowsE bs rs ++ (.blk b3 [.slice (some ⟨b12, 0, none⟩) n n] :: .blk b1 [I s.many, .slice al s.lims.length cl] :: σf4))) := by simpa only [List.cons_append, List.append_assoc, List.nil_append] using hs
      refine .block ?_
      refine .draw mix rfl hs ?_; intro w hs
      first | refine .load (i := 0) hs rfl (by kernel_rfl) .none rfl Tryz.isAgg29 ?_ (by repeat (first | exact .here | assumption | exact Mem.row (by omega) (by omega) | refine .there ?_ | refine Mem.app2 ?_)) (by first | rfl | exact ptr_get (by omega) | exact Is_gt (by assumption) (by omega) (by omega) | exact Is_gi (by first | assumption | omega)) | refine .r (i := 0) hs rfl (by kernel_rfl) .none (q_loadR rfl Tryz.isAgg29 (by assumption)) ?_
      refine .z 1 rfl (zfa fa_bound_step_0) ?_
      first | refine .load (i := 2) hs rfl (by kernel_rfl) .none rfl Tryz.isAgg3 ?_ (by repeat (first | exact .here | assumption | exact Mem.row (by omega) (by omega) | refine .there ?_ | refine Mem.app2 ?_)) (by first | rfl | exact ptr_get (by omega) | exact Is_gt (by assumption) (by omega) (by omega) | exact Is_gi (by first | assumption | omega)) | refine .r (i := 2) hs rfl (by kernel_rfl) .none (q_loadR rfl Tryz.isAgg3 (by assumption)) ?_
      first | (refine .ixw 3 rfl hs Tryz.runUnderlying29 Tryz.sizeOf25 ?_; intro b39 o39 hc39) | refine .z 3 rfl (zix Tryz.runUnderlying29 Tryz.sizeOf25) ?_
      first | refine .load (i := 4) hs rfl (by kernel_rfl) .none rfl Tryz.isAgg25 ?_ (by repeat (first | exact .here | assumption | exact Mem.row (by omega) (by omega) | refine .there ?_ | refine Mem.app2 ?_)) (by first | rfl | exact ptr_get (by omega) | exact Is_gt (by assumption) (by omega) (by omega) | exact Is_gi (by first | assumption | omega)) | refine .r (i := 4) hs rfl (by kernel_rfl) .none (q_loadR rfl Tryz.isAgg25 (by assumption)) ?_
      refine .z 5 rfl (zfa fa_bound_step_1) ?_
      first | refine .load (i := 6) hs rfl (by kernel_rfl) .none rfl Tryz.isAgg3 ?_ (by repeat (first | exact .here | assumption | exact Mem.row (by omega) (by omega) | refine .there ?_ | refine Mem.app2 ?_)) (by first | rfl | exact ptr_get (by omega) | exact Is_gt (by assumption) (by omega) (by omega) | exact Is_gi (by first | assumption | omega)) | refine .r (i := 6) hs rfl (by kernel_rfl) .none (q_loadR rfl Tryz.isAgg3 (by assumption)) ?_
      first | refine .load (i := 7) hs rfl (by kernel_rfl) .none rfl Tryz.isAgg29 ?_ (by repeat (first | exact .here | assumption | exact Mem.row (by omega) (by omega) | refine .there ?_ | refine Mem.app2 ?_)) (by first | rfl | exact ptr_get (by omega) | exact Is_gt (by assumption) (by omega) (by omega) | exact Is_gi (by first | assumption | omega)) | refine .r (i := 7) hs rfl (by kernel_rfl) .none (q_loadR rfl Tryz.isAgg29 (by assumption)) ?_
      refine .z 8 rfl (zfa fa_bound_step_0) ?_
      first | refine .load (i := 9) hs rfl (by kernel_rfl) .none rfl Tryz.isAgg3 ?_ (by repeat (first | exact .here | assumption | exact Mem.row (by omega) (by omega) | refine .there ?_ | refine Mem.app2 ?_)) (by first | rfl | exact ptr_get (by omega) | exact Is_gt (by assumption) (by omega) (by omega) | exact Is_gi (by first | assumption | omega)) | refine .r (i := 9) hs rfl (by kernel_rfl) .none (q_loadR rfl Tryz.isAgg3 (by assumption)) ?_
      first | (refine .ixw 10 rfl hs Tryz.runUnderlying29 Tryz.sizeOf25 ?_; intro b46 o46 hc46) | refine .z 10 rfl (zix Tryz.runUnderlying29 Tryz.sizeOf25) ?_
      first | refine .load (i := 11) hs rfl (by kernel_rfl) .none rfl Tryz.isAgg25 ?_ (by repeat (first | exact .here | assumption | exact Mem.row (by omega) (by omega) | refine .there ?_ | refine Mem.app2 ?_)) (by first | rfl | exact ptr_get (by omega) | exact Is_gt (by assumption) (by omega) (by omega) | exact Is_gi (by first | assumption | omega)) | refine .r (i := 11) hs rfl (by kernel_rfl) .none (q_loadR rfl Tryz.isAgg25 (by assumption)) ?_
      refine .z 12 rfl (zfa fa_bound_step_1) ?_
      first | refine .load (i := 13) hs rfl (by kernel_rfl) .none rfl Tryz.isAgg3 ?_ (by repeat (first | exact .here | assumption | exact Mem.row (by omega) (by omega) | refine .there ?_ | refine Mem.app2 ?_)) (by first | rfl | exact ptr_get (by omega) | exact Is_gt (by assumption) (by omega) (by omega) | exact Is_gi (by first | assumption | omega)) | refine .r (i := 13) hs rfl (by kernel_rfl) .none (q_loadR rfl Tryz.isAgg3 (by assumption)) ?_
      first | (refine .ixv 14 rfl hs Tryz.runUnderlying25 Tryz.sizeOf3 ?_; intro b50 o50 hc50) | refine .z 14 rfl (zix Tryz.runUnderlying25 Tryz.sizeOf3) ?_
      first | refine .load (i := 15) hs rfl (by kernel_rfl) .none rfl Tryz.isAgg3 ?_ (by repeat (first | exact .here | assumption | exact Mem.row (by omega) (by omega) | refine .there ?_ | refine Mem.app2 ?_)) (by first | rfl | exact ptr_get (by omega) | exact Is_gt (by assumption) (by omega) (by omega) | exact Is_gi (by first | assumption | omega)) | refine .r (i := 15) hs rfl (by kernel_rfl) .none (q_loadR rfl Tryz.isAgg3 (by assumption)) ?_
      refine .z 16 rfl (zfa fa_bound_step_2) ?_
      first | refine .load (i := 17) hs rfl (by kernel_rfl) .none rfl Tryz.isAgg3 ?_ (by repeat (first | exact .here | assumption | exact Mem.row (by omega) (by omega) | refine .there ?_ | refine Mem.app2 ?_)) (by first | rfl | exact ptr_get (by omega) | exact Is_gt (by assumption) (by omega) (by omega) | exact Is_gi (by first | assumption | omega)) | refine .r (i := 17) hs rfl (by kernel_rfl) .none (q_loadR rfl Tryz.isAgg3 (by assumption)) ?_
      refine .z 18 rfl zmin ?_
      first | (refine .ixv 19 rfl hs Tryz.runUnderlying25 Tryz.sizeOf3 ?_; intro b55 o55 hc55) | refine .z 19 rfl (zix Tryz.runUnderlying25 Tryz.sizeOf3) ?_
      refine .e1 (i := 20) (by kernel_rfl) rfl rfl .none hs ?_ (hp := by repeat (first | exact .nil | refine .cons (by first | exact HLe.bot _ | exact HLe.refl _ | assumption) (by first | exact .nil | (refine Sub.one ?_; repeat (first | exact .here | assumption | exact Mem.row (by omega) (by omega) | refine .there ?_ | refine Mem.app2 ?_))) ?_))
      refine .store hs rfl rfl Tryz.sizeOf3 ?_ (.there (.there (Upd.row _ (by omega) (by omega)))) (blt_Is (by rw [hq.2 _ xf]; exact xt)) (Is_set _ _ _); intro w hs
      refine .go ?_
      refine .done (by kernel_rfl) hs ?_ (hp := by repeat (first | exact .nil | refine .cons (by first | exact HLe.bot _ | exact HLe.refl _ | assumption) (by first | exact .nil | (refine Sub.one ?_; repeat (first | exact .here | assumption | exact Mem.row (by omega) (by omega) | refine .there ?_ | refine Mem.app2 ?_))) ?_))
      refine nB ?_
      exact ⟨H2, .blk b12 (bs.map (ptr n)) :: (rowsE bs (rs.set x.f ((gr rs x.f).set x.t (min (gt rs x.f x.t) x.c))) ++ [.blk b3 [.slice (some ⟨b12, 0, none⟩) n n], .blk b1 [I s.many, .slice al s.lims.length cl]]), HLe.refl _, by simpa only [List.cons_append, List.append_assoc, List.nil_append] using hs.tail, _, rfl, hq.set xf _, by rw [gt_set hq xf xt]; exact hB.step hinn hx⟩
    · rintro D H2 σb2 w hle2 ⟨rs, rfl, hq, hB⟩ hs
      replace hs : St H2 w (.blk b12 (bs.map (ptr n)) :: (rowsE bs rs ++ (.obj D (.deferred (some [])) :: .blk b3 [.slice (some ⟨b12, 0, none⟩) n n] :: .blk b1 [I s.many, .slice al s.lims.length cl] :: σ))) := by
        have hs' : St H2 w (.obj D (.deferred (some [])) :: .blk b12 (bs.map (ptr n)) :: (rowsE bs rs ++ (.blk b3 [.slice (some ⟨b12, 0, none⟩) n n] :: .blk b1 [I s.many, .slice al s.lims.length cl] :: σ))) := by simpa only [entOf, List.cons_append, List.append_assoc, List.nil_append] using hs
        exact hs'.perm ((List.Perm.swap _ _ _).trans (.cons _ List.perm_middle.symm))
      rw [List.length_map] at hB
      have hI := hB.go hinn hnp
      have hcb : ∀ x ∈ s.arcs, -20000 ≤ x.c ∧ x.c ≤ 20000 := fun x hx => by have := hinn x hx; omega
      refine nB (nT ?_)
      refine .seq (.regSeq ?_)
      first | refine .q hs (q_load rfl Tryz.isAgg29 (hm := by repeat (first | exact .here | assumption | exact Mem.row (by omega) (by omega) | refine .there ?_ | refine Mem.app2 ?_)) (hv := by first | rfl | exact ptr_get (by omega) | exact Is_gt (by assumption) (by omega) (by omega) | exact Is_gi (by first | assumption | omega))) ?_ | refine .q hs (q_loadR rfl Tryz.isAgg29 (by assumption)) ?_
      refine .z (zlen Tryz.runUnderlying29) (.z zm (.nil ?_))
      refine .forD (N := n) (J := fun m ds fr w => ds = marks [D] ∧ fr = [(3, .pointer (some ⟨b3, 0, none⟩))] ∧ ∃ rs, Sq n rs ∧ (m < n → WayI n s.arcs m (fun _ _ => False) (gt rs)) ∧ (m = n → WaysT n s.arcs (gt rs)) ∧ St H2 w (.blk b12 (bs.map (ptr n)) :: (rowsE bs rs ++ (.obj D (.deferred (some [])) :: .blk b3 [.slice (some ⟨b12, 0, none⟩) n n] :: .blk b1 [I s.many, .slice al s.lims.length cl] :: σ)))) (by omega) ?_ ?_ ?_
      · exact .mk ⟨rfl, rfl, rs, hq, fun _ => hI, fun e => by omega, hs⟩
      · clear hI hB hq
        rintro m ds fr w hm ⟨rfl, rfl, rs, hq, hI, -, hs⟩
        replace hI := hI hm
        refine .block (.regSeq (.z zm (.z zg (.nil (.regSeq ?_)))))
        first | refine .q hs (q_load rfl Tryz.isAgg29 (hm := by repeat (first | exact .here | assumption | exact Mem.row (by omega) (by omega) | refine .there ?_ | refine Mem.app2 ?_)) (hv := by first | rfl | exact ptr_get (by omega) | exact Is_gt (by assumption) (by omega) (by omega) | exact Is_gi (by first | assumption | omega))) ?_ | refine .q hs (q_loadR rfl Tryz.isAgg29 (by assumption)) ?_
        refine .z (zlen Tryz.runUnderlying29) (.z zm (.nil ?_))
        refine .forD (N := n) (J := fun i ds fr w => ds = marks [D] ∧ fr = [(6, I (m : Int)), (58, I (m : Int)), (57, I (n : Int)), (3, .pointer (some ⟨b3, 0, none⟩))] ∧ ∃ rs, Sq n rs ∧ WayI n s.arcs m (fun a _ => a < i) (gt rs) ∧ St H2 w (.blk b12 (bs.map (ptr n)) :: (rowsE bs rs ++ (.obj D (.deferred (some [])) :: .blk b3 [.slice (some ⟨b12, 0, none⟩) n n] :: .blk b1 [I s.many, .slice al s.lims.length cl] :: σ)))) (by omega) ?_ ?_ ?_
        · exact .mk ⟨rfl, rfl, rs, hq, hI.skip hcb hm (P := fun _ _ => False) (fun i j h => by omega) (fun _ _ _ _ h => h.elim), hs⟩
        · clear hI hq
          rintro i ds fr w hi ⟨rfl, rfl, rs, hq, hI, hs⟩
          refine .block (.regSeq (.z zm (.z zg (.nil (.regSeq ?_)))))
          first | refine .q hs (q_load rfl Tryz.isAgg29 (hm := by repeat (first | exact .here | assumption | exact Mem.row (by omega) (by omega) | refine .there ?_ | refine Mem.app2 ?_)) (hv := by first | rfl | exact ptr_get (by omega) | exact Is_gt (by assumption) (by omega) (by omega) | exact Is_gi (by first | assumption | omega))) ?_ | refine .q hs (q_loadR rfl Tryz.isAgg29 (by assumption)) ?_
          refine .z (zlen Tryz.runUnderlying29) (.z zm (.nil ?_))
          refine .forD (N := n) (J := fun k ds fr w => ds = marks [D] ∧ fr = [(7, I (i : Int)), (63, I (i : Int)), (62, I (n : Int)), (6, I (m : Int)), (58, I (m : Int)), (57, I (n : Int)), (3, .pointer (some ⟨b3, 0, none⟩))] ∧ ∃ rs, Sq n rs ∧ WayI n s.arcs m (fun a b => a < i ∨ (a = i ∧ b < k)) (gt rs) ∧ St H2 w (.blk b12 (bs.map (ptr n)) :: (rowsE bs rs ++ (.obj D (.deferred (some [])) :: .blk b3 [.slice (some ⟨b12, 0, none⟩) n n] :: .blk b1 [I s.many, .slice al s.lims.length cl] :: σ)))) (by omega) ?_ ?_ ?_
          · exact .mk ⟨rfl, rfl, rs, hq, hI.skip hcb hm (P := fun _ _ => False) (fun a b h => by omega) (fun _ _ _ _ h => h.elim), hs⟩
          · clear hI hq
            rintro k ds fr w hk ⟨rfl, rfl, rs, hq, hI, hs⟩
            have hrl := hq.1
            have c1 := hI.cl i m hi hm; have c2 := hI.cl m k hm hk
            have u1 := hI.up i m hi hm; have u2 := hI.up m k hm hk
            simp only [free] at u1 u2
            refine .block (.regSeq (.z zm (.z zg (.nil (.regSeq ?_)))))
            first | refine .q hs (q_load rfl Tryz.isAgg29 (hm := by repeat (first | exact .here | assumption | exact Mem.row (by omega) (by omega) | refine .there ?_ | refine Mem.app2 ?_)) (hv := by first | rfl | exact ptr_get (by omega) | exact Is_gt (by assumption) (by omega) (by omega) | exact Is_gi (by first | assumption | omega))) ?_ | refine .q hs (q_loadR rfl Tryz.isAgg29 (by assumption)) ?_
            refine .z zm ?_
            first | (refine .ixw hs Tryz.runUnderlying29 Tryz.sizeOf25 ?_; intro b73 o73 hc73) | refine .z (zix Tryz.runUnderlying29 Tryz.sizeOf25) ?_
            first | refine .q hs (q_load rfl Tryz.isAgg25 (hm := by repeat (first | exact .here | assumption | exact Mem.row (by omega) (by omega) | refine .there ?_ | refine Mem.app2 ?_)) (hv := by first | rfl | exact ptr_get (by omega) | exact Is_gt (by assumption) (by omega) (by omega) | exact Is_gi (by first | assumption | omega))) ?_ | refine .q hs (q_loadR rfl Tryz.isAgg25 (by assumption)) ?_
            refine .z zm ?_
            first | (refine .ixv hs Tryz.runUnderlying25 Tryz.sizeOf3 ?_; intro b76 o76 hc76) | refine .z (zix Tryz.runUnderlying25 Tryz.sizeOf3) ?_
            first | refine .q hs (q_load rfl Tryz.isAgg3 (hm := by repeat (first | exact .here | assumption | exact Mem.row (by omega) (by omega) | refine .there ?_ | refine Mem.app2 ?_)) (hv := by first | rfl | exact ptr_get (by omega) | exact Is_gt (by assumption) (by omega) (by omega) | exact Is_gi (by first | assumption | omega))) ?_ | refine .q hs (q_loadR rfl Tryz.isAgg3 (by assumption)) ?_
            refine .z zlss (.z zm ?_)
            refine .bifD (t' := 79) rfl (fun hb79 => ?_) (fun hb79 => ?_)
            · refine .gT rfl rfl ?_
              first | refine .q hs (q_load rfl Tryz.isAgg29 (hm := by repeat (first | exact .here | assumption | exact Mem.row (by omega) (by omega) | refine .there ?_ | refine Mem.app2 ?_)) (hv := by first | rfl | exact ptr_get (by omega) | exact Is_gt (by assumption) (by omega) (by omega) | exact Is_gi (by first | assumption | omega))) ?_ | refine .q hs (q_loadR rfl Tryz.isAgg29 (by assumption)) ?_
              refine .gT rfl rfl ?_
              refine .z zm ?_
              refine .gT rfl rfl ?_
              first | (refine .ixw hs Tryz.runUnderlying29 Tryz.sizeOf25 ?_; intro b82 o82 hc82) | refine .z (zix Tryz.runUnderlying29 Tryz.sizeOf25) ?_
              refine .gT rfl rfl ?_
              first | refine .q hs (q_load rfl Tryz.isAgg25 (hm := by repeat (first | exact .here | assumption | exact Mem.row (by omega) (by omega) | refine .there ?_ | refine Mem.app2 ?_)) (hv := by first | rfl | exact ptr_get (by omega) | exact Is_gt (by assumption) (by omega) (by omega) | exact Is_gi (by first | assumption | omega))) ?_ | refine .q hs (q_loadR rfl Tryz.isAgg25 (by assumption)) ?_
              refine .gT rfl rfl ?_
              refine .z zm ?_
              refine .gT rfl rfl ?_
              first | (refine .ixv hs Tryz.runUnderlying25 Tryz.sizeOf3 ?_; intro b85 o85 hc85) | refine .z (zix Tryz.runUnderlying25 Tryz.sizeOf3) ?_
              refine .gT rfl rfl ?_
              first | refine .q hs (q_load rfl Tryz.isAgg3 (hm := by repeat (first | exact .here | assumption | exact Mem.row (by omega) (by omega) | refine .there ?_ | refine Mem.app2 ?_)) (hv := by first | rfl | exact ptr_get (by omega) | exact Is_gt (by assumption) (by omega) (by omega) | exact Is_gi (by first | assumption | omega))) ?_ | refine .q hs (q_loadR rfl Tryz.isAgg3 (by assumption)) ?_
              refine .gT rfl rfl ?_
              refine .z zlss (.z zpT (.nil ?_))
              refine (.condD rfl (fun hc88 => ?_) (fun hc88 => ?_))
              · refine .draw mix rfl hs ?_; intro w hs
                first | refine .load (i := 0) hs rfl (by kernel_rfl) .none rfl Tryz.isAgg29 ?_ (by repeat (first | exact .here | assumption | exact Mem.row (by omega) (by omega) | refine .there ?_ | refine Mem.app2 ?_)) (by first | rfl | exact ptr_get (by omega) | exact Is_gt (by assumption) (by omega) (by omega) | exact Is_gi (by first | assumption | omega)) | refine .r (i := 0) hs rfl (by kernel_rfl) .none (q_loadR rfl Tryz.isAgg29 (by assumption)) ?_
                refine .z 1 rfl zm ?_
                first | (refine .ixw 2 rfl hs Tryz.runUnderlying29 Tryz.sizeOf25 ?_; intro b91 o91 hc91) | refine .z 2 rfl (zix Tryz.runUnderlying29 Tryz.sizeOf25) ?_
                first | refine .load (i := 3) hs rfl (by kernel_rfl) .none rfl Tryz.isAgg25 ?_ (by repeat (first | exact .here | assumption | exact Mem.row (by omega) (by omega) | refine .there ?_ | refine Mem.app2 ?_)) (by first | rfl | exact ptr_get (by omega) | exact Is_gt (by assumption) (by omega) (by omega) | exact Is_gi (by first | assumption | omega)) | refine .r (i := 3) hs rfl (by kernel_rfl) .none (q_loadR rfl Tryz.isAgg25 (by assumption)) ?_
                refine .z 4 rfl zm ?_
                first | refine .load (i := 5) hs rfl (by kernel_rfl) .none rfl Tryz.isAgg29 ?_ (by repeat (first | exact .here | assumption | exact Mem.row (by omega) (by omega) | refine .there ?_ | refine Mem.app2 ?_)) (by first | rfl | exact ptr_get (by omega) | exact Is_gt (by assumption) (by omega) (by omega) | exact Is_gi (by first | assumption | omega)) | refine .r (i := 5) hs rfl (by kernel_rfl) .none (q_loadR rfl Tryz.isAgg29 (by assumption)) ?_
                refine .z 6 rfl zm ?_
                first | (refine .ixw 7 rfl hs Tryz.runUnderlying29 Tryz.sizeOf25 ?_; intro b96 o96 hc96) | refine .z 7 rfl (zix Tryz.runUnderlying29 Tryz.sizeOf25) ?_
                first | refine .load (i := 8) hs rfl (by kernel_rfl) .none rfl Tryz.isAgg25 ?_ (by repeat (first | exact .here | assumption | exact Mem.row (by omega) (by omega) | refine .there ?_ | refine Mem.app2 ?_)) (by first | rfl | exact ptr_get (by omega) | exact Is_gt (by assumption) (by omega) (by omega) | exact Is_gi (by first | assumption | omega)) | refine .r (i := 8) hs rfl (by kernel_rfl) .none (q_loadR rfl Tryz.isAgg25 (by assumption)) ?_
                refine .z 9 rfl zm ?_
                first | (refine .ixv 10 rfl hs Tryz.runUnderlying25 Tryz.sizeOf3 ?_; intro b99 o99 hc99) | refine .z 10 rfl (zix Tryz.runUnderlying25 Tryz.sizeOf3) ?_
                first | refine .load (i := 11) hs rfl (by kernel_rfl) .none rfl Tryz.isAgg3 ?_ (by repeat (first | exact .here | assumption | exact Mem.row (by omega) (by omega) | refine .there ?_ | refine Mem.app2 ?_)) (by first | rfl | exact ptr_get (by omega) | exact Is_gt (by assumption) (by omega) (by omega) | exact Is_gi (by first | assumption | omega)) | refine .r (i := 11) hs rfl (by kernel_rfl) .none (q_loadR rfl Tryz.isAgg3 (by assumption)) ?_
                first | refine .load (i := 12) hs rfl (by kernel_rfl) .none rfl Tryz.isAgg29 ?_ (by repeat (first | exact .here | assumption | exact Mem.row (by omega) (by omega) | refine .there ?_ | refine Mem.app2 ?_)) (by first | rfl | exact ptr_get (by omega) | exact Is_gt (by assumption) (by omega) (by omega) | exact Is_gi (by first | assumption | omega)) | refine .r (i := 12) hs rfl (by kernel_rfl) .none (q_loadR rfl Tryz.isAgg29 (by assumption)) ?_
                refine .z 13 rfl zm ?_
                first | (refine .ixw 14 rfl hs Tryz.runUnderlying29 Tryz.sizeOf25 ?_; intro b103 o103 hc103) | refine .z 14 rfl (zix Tryz.runUnderlying29 Tryz.sizeOf25) ?_
                first | refine .load (i := 15) hs rfl (by kernel_rfl) .none rfl Tryz.isAgg25 ?_ (by repeat (first | exact .here | assumption | exact Mem.row (by omega) (by omega) | refine .there ?_ | refine Mem.app2 ?_)) (by first | rfl | exact ptr_get (by omega) | exact Is_gt (by assumption) (by omega) (by omega) | exact Is_gi (by first | assumption | omega)) | refine .r (i := 15) hs rfl (by kernel_rfl) .none (q_loadR rfl Tryz.isAgg25 (by assumption)) ?_
                refine .z 16 rfl zm ?_
                first | (refine .ixv 17 rfl hs Tryz.runUnderlying25 Tryz.sizeOf3 ?_; intro b106 o106 hc106) | refine .z 17 rfl (zix Tryz.runUnderlying25 Tryz.sizeOf3) ?_
                first | refine .load (i := 18) hs rfl (by kernel_rfl) .none rfl Tryz.isAgg3 ?_ (by repeat (first | exact .here | assumption | exact Mem.row (by omega) (by omega) | refine .there ?_ | refine Mem.app2 ?_)) (by first | rfl | exact ptr_get (by omega) | exact Is_gt (by assumption) (by omega) (by omega) | exact Is_gi (by first | assumption | omega)) | refine .r (i := 18) hs rfl (by kernel_rfl) .none (q_loadR rfl Tryz.isAgg3 (by assumption)) ?_
                first | refine .load (i := 19) hs rfl (by kernel_rfl) .none rfl Tryz.isAgg29 ?_ (by repeat (first | exact .here | assumption | exact Mem.row (by omega) (by omega) | refine .there ?_ | refine Mem.app2 ?_)) (by first | rfl | exact ptr_get (by omega) | exact Is_gt (by assumption) (by omega) (by omega) | exact Is_gi (by first | assumption | omega)) | refine .r (i := 19) hs rfl (by kernel_rfl) .none (q_loadR rfl Tryz.isAgg29 (by assumption)) ?_
                refine .z 20 rfl zm ?_
                first | (refine .ixw 21 rfl hs Tryz.runUnderlying29 Tryz.sizeOf25 ?_; intro b110 o110 hc110) | refine .z 21 rfl (zix Tryz.runUnderlying29 Tryz.sizeOf25) ?_
                first | refine .load (i := 22) hs rfl (by kernel_rfl) .none rfl Tryz.isAgg25 ?_ (by repeat (first | exact .here | assumption | exact Mem.row (by omega) (by omega) | refine .there ?_ | refine Mem.app2 ?_)) (by first | rfl | exact ptr_get (by omega) | exact Is_gt (by assumption) (by omega) (by omega) | exact Is_gi (by first | assumption | omega)) | refine .r (i := 22) hs rfl (by kernel_rfl) .none (q_loadR rfl Tryz.isAgg25 (by assumption)) ?_
                refine .z 23 rfl zm ?_
                first | (refine .ixv 24 rfl hs Tryz.runUnderlying25 Tryz.sizeOf3 ?_; intro b113 o113 hc113) | refine .z 24 rfl (zix Tryz.runUnderlying25 Tryz.sizeOf3) ?_
                first | refine .load (i := 25) hs rfl (by kernel_rfl) .none rfl Tryz.isAgg3 ?_ (by repeat (first | exact .here | assumption | exact Mem.row (by omega) (by omega) | refine .there ?_ | refine Mem.app2 ?_)) (by first | rfl | exact ptr_get (by omega) | exact Is_gt (by assumption) (by omega) (by omega) | exact Is_gi (by first | assumption | omega)) | refine .r (i := 25) hs rfl (by kernel_rfl) .none (q_loadR rfl Tryz.isAgg3 (by assumption)) ?_
                refine .z 26 rfl zadd ?_; refine .z 27 rfl zmin ?_
                first | (refine .ixv 28 rfl hs Tryz.runUnderlying25 Tryz.sizeOf3 ?_; intro b117 o117 hc117) | refine .z 28 rfl (zix Tryz.runUnderlying25 Tryz.sizeOf3) ?_
                refine .e1 (i := 29) (by kernel_rfl) rfl rfl .none hs ?_ (hp := by repeat (first | exact .nil | refine .cons (by first | exact HLe.bot _ | exact HLe.refl _ | assumption) (by first | exact .nil | (refine Sub.one ?_; repeat (first | exact .here | assumption | exact Mem.row (by omega) (by omega) | refine .there ?_ | refine Mem.app2 ?_))) ?_))
                refine .store hs rfl rfl Tryz.sizeOf3 ?_ (.there (Upd.row _ (by omega) (by omega))) (blt_Is (by rw [hq.2 _ hi]; exact hk)) (Is_set _ _ _); intro w hs
                refine .go ?_
                refine .done (by kernel_rfl) hs ?_ (hp := by repeat (first | exact .nil | refine .cons (by first | exact HLe.bot _ | exact HLe.refl _ | assumption) (by first | exact .nil | (refine Sub.one ?_; repeat (first | exact .here | assumption | exact Mem.row (by omega) (by omega) | refine .there ?_ | refine Mem.app2 ?_))) ?_))
                refine nB (nT ?_)
                exact .mk ⟨rfl, rfl, _, hq.set hi _, by rw [gt_set hq hi hk]; exact hI.stepS hinn hn65 ⟨p0, hp0⟩ hm hi hk (fun a b h => by omega) (by simp only [free]; omega) (by simp only [free]; omega), hs⟩
              · refine .skip ?_
                refine nB (nT ?_)
                exact .mk ⟨rfl, rfl, rs, hq, hI.skip hcb hm (P := fun a b => a = i ∧ b = k) (fun a b h => by omega) (fun a b _ _ h => by obtain ⟨rfl, rfl⟩ := h; exact .inr (by simp only [free]; omega)), hs⟩
            · refine .gFs 8 8 true rfl rfl rfl ?_
              refine .z zpF (.nil ?_)
              refine (.condF rfl rfl ?_)
              refine .skip ?_
              refine nB (nT ?_)
              exact .mk ⟨rfl, rfl, rs, hq, hI.skip hcb hm (P := fun a b => a = i ∧ b = k) (fun a b h => by omega) (fun a b _ _ h => by obtain ⟨rfl, rfl⟩ := h; exact .inl (by simp only [free]; omega)), hs⟩
          · rintro ds fr w ⟨rfl, rfl, rs, hq, hI, hs⟩
            refine nB (nT ?_)
            exact .mk ⟨rfl, rfl, rs, hq, hI.skip hcb hm (P := fun a b => a = i ∧ n ≤ b) (fun a b h => by omega) (fun a b _ hb h => by omega), hs⟩
        · rintro ds fr w ⟨rfl, rfl, rs, hq, hI, hs⟩
          replace hI : WayI n s.arcs m (fun _ _ => True) (gt rs) := hI.skip hcb hm (P := fun a _ => n ≤ a) (fun a b h => by omega) (fun a b ha _ h => by omega)
          refine nB (nT ?_)
          exact .mk ⟨rfl, rfl, rs, hq, fun h => hI.next hcb h hn65, fun h => hI.done hcb h.symm hn65, hs⟩
      · rintro ds fr w ⟨rfl, rfl, rs, hq, -, hT, hs⟩
        replace hT := hT rfl
        refine nT ?_
        refine .regSeq ?_
        first | refine .q hs (q_load rfl Tryz.isAgg29 (hm := by repeat (first | exact .here | assumption | exact Mem.row (by omega) (by omega) | refine .there ?_ | refine Mem.app2 ?_)) (hv := by first | rfl | exact ptr_get (by omega) | exact Is_gt (by assumption) (by omega) (by omega) | exact Is_gi (by first | assumption | omega))) ?_ | refine .q hs (q_loadR rfl Tryz.isAgg29 (by assumption)) ?_
        refine .z zg (.nil ?_)
        refine .ret ?_
        obtain ⟨H3, g1, g2, hs⟩ := table_publish hq hbl (by omega) hs
        exact Fin.retD [D] [] hs fun w hs => ⟨_, results1 Tryz.results120 rfl, H3, rs, hle1.trans (hle2.trans g1), g2, hq, hT, hs.out⟩
theorem bound_Close_spec {H : Heap} {w : World} {σ : List Ent} {v : Value} {s : Syst} (hs : St H w σ) (hr : RSy H v s) :
    Cl Tryz.prog 134 [v] w fun u w' => ∃ H1 vt e, HLe H H1 ∧ u = .tuple #[vt, I e] ∧ ((s.check ≠ 0 ∧ e = s.check ∧ vt = .slice none 0 0) ∨ (s.Ok ∧ ¬ s.Sound ∧ e = 23 ∧ vt = .slice none 0 0) ∨ (s.Ok ∧ s.Sound ∧ e = 0 ∧ ∃ rs, RT H1 vt rs ∧ Sq s.n rs ∧ WaysT s.n s.arcs (gt rs))) ∧ St H1 w' σ := by
  obtain ⟨ul, rfl, hl⟩ := hr
  obtain ⟨al, cl, rfl⟩ := RL.shape hl
  refine Cl.of Tryz.func134 rfl Tryz.ntmps134 (by simp) (args_cons (k := 0) rfl (args0)) ?_
  refine .regSeq ?_
  refine .o (.box hs rfl rfl ?_); intro b1 w hs
  refine .z zg (.z zg (.nil (.seq (.regSeq (.y hs (zls [_, _] Tryz.isAgg24 Tryz.sizeOf24) ?_)))))
  refine .o (.call Tryz.call119 rfl (bound_ready_spec (s := s) hs ⟨_, rfl, hl⟩) ?_); rintro _ w ⟨H1, e, hle1, rfl, hR, hs⟩
  refine .z zg (.nil (.regSeq (.z zm (.z zneq (.nil ?_)))))
  refine (.condN rfl (fun hc8 => ?_) (fun hc8 => ?_))
  · refine .regSeq (.z zm (.z zg (.z zg (.nil ?_))))
    refine .ret (rT (Fin.ret2 Tryz.results134 rfl rfl ?_))
    exact ⟨H1, _, _, hle1, rfl, by
      cases hR with
      | bad h => exact .inl ⟨h, rfl, rfl⟩
      | clash h h1 => exact .inr (.inl ⟨h, h1, rfl, rfl⟩)
      | ok _ _ => exact (hc8 rfl).elim, hs.out⟩
  · refine .skip ?_
    refine nT ?_
    refine .regSeq (.y hs (zls [_, _] Tryz.isAgg24 Tryz.sizeOf24) ?_)
    obtain ⟨hok, hsd⟩ : s.Ok ∧ s.Sound := by
      generalize hz : e = z at hR
      cases hR with
      | bad h => exact (h (by omega)).elim
      | clash h h1 => omega
      | ok h h1 => exact ⟨h, h1⟩
    refine .o (.call Tryz.call120 rfl (bound_matrix_spec (s := s) hs ⟨_, rfl, hl.mono hle1⟩ hok hsd) ?_); rintro v11 w ⟨H2, rs, hle2, hRT, hSq, hWT, hs⟩
    obtain ⟨at', ct, rfl⟩ := hRT.shape
    refine .z zg (.z zg (.nil ?_))
    refine .ret (Fin.ret2 Tryz.results134 rfl rfl ?_)
    exact ⟨H2, _, _, hle1.trans hle2, rfl, .inr (.inr ⟨hok, hsd, rfl, rs, hRT, hSq, hWT⟩), hs.out⟩
end Go.Proofs.YtiiokdeehlfeeaaGreat

namespace Go.Proofs.YtiiokdeehlfeeaaGreat
open Go.MW
def pkI (l : List Int) (i : Int) : Int := if l = [] then 0 else gi l (i.tmod l.length).toNat
theorem pickI_pk (l : List Int) (i : Int) {n : Int} (hn : 1 ≤ n) : pickI l i n = pkI l i % n := by
  unfold pickI pkI
  by_cases h : l = []
  · rw [if_pos (.inl h), if_pos h]; simp
  · rw [if_neg (fun g => g.elim h (fun g => by omega)), if_neg h]
theorem bound_pick_spec {H : Heap} {w : World} {σ : List Ent} {v : Value} {l : List Int} {i : Int} (hs : St H w σ) (hr : RI H v l) (hi : 0 ≤ i) : Cl Tryz.prog 178 [v, I i] w fun v w' => v = I (pkI l i) ∧ St H w' σ := by
  obtain ⟨a, c, rfl⟩ := RI.shape hr
  have hlen := (RI.len hr).2.2
  refine Cl.of Tryz.func178 rfl Tryz.ntmps178 (by simp) (args_cons (k := 0) rfl (args_cons (k := 1) rfl (args0))) ?_
  refine .regSeq (.z zg (.nil (.seq (.regSeq (.z zm (.z (zlen Tryz.runUnderlying25) (.z zeql (.nil ?_))))))))
  refine (.condD rfl (fun hc7 => ?_) (fun hc7 => ?_))
  · refine .regSeq (.z zg (.nil ?_))
    refine .ret (rT (Fin.ret1 Tryz.results178 rfl ?_))
    exact ⟨by rw [show pkI l i = 0 by unfold pkI; rw [if_pos (List.length_eq_zero_iff.1 (by omega))]], hs⟩
  · refine .skip ?_
    refine nT ?_
    refine .regSeq (.z zm (.z zm (.z zm (.z (zlen Tryz.runUnderlying25) ?_))))
    have hl0 : 0 < l.length := by omega
    have h1 := Int.tmod_nonneg (a := i) (l.length : Int) hi
    have h2 := Int.tmod_lt_of_pos i (b := (l.length : Int)) (by omega)
    have hx := gi_get (l := l) (i := (i.tmod (l.length : Int)).toNat) (by omega)
    refine .z zrem ?_
    refine .ixY hs hr rfl rfl Tryz.runUnderlying25 Tryz.sizeOf3 hx (by omega) ?_; intro b13 o13 hc13
    refine .q hs (q_loadR rfl Tryz.isAgg3 hc13) ?_
    refine .z zg (.nil ?_)
    refine .ret (Fin.ret1 Tryz.results178 rfl ?_)
    exact ⟨by unfold pkI; rw [if_neg (fun h => by rw [h] at hl0; exact Nat.lt_irrefl _ hl0)], hs⟩
theorem choose_TT {lo hi p : Int} (h1 : lo ≠ -free) (h2 : hi ≠ free) : chooseI lo hi p = lo + p := by
  unfold chooseI; rw [if_pos h1, if_pos h2]
theorem choose_TF {lo p : Int} (h1 : lo ≠ -free) : chooseI lo free p = lo := by
  unfold chooseI; rw [if_pos h1, if_neg (by simp)]
theorem choose_FT {hi p : Int} (h2 : hi ≠ free) : chooseI (-free) hi p = hi := by
  unfold chooseI; rw [if_neg (by simp), if_pos h2]
theorem choose_FF {p : Int} : chooseI (-free) free p = 0 := by
  unfold chooseI; rw [if_neg (by simp), if_neg (by simp)]
set_option maxHeartbeats 4000000 in
theorem bound_Point_spec {H : Heap} {w : World} {σ : List Ent} {v vp : Value} {s : Syst} {picks : List Int} (hs : St H w σ) (hr : RSy H v s) (hp : RI H vp picks) :
    Cl Tryz.prog 135 [v, vp] w fun u w' => ∃ H1 vx x e, HLe H H1 ∧ u = .tuple #[vx, I e] ∧ RI H1 vx x ∧ PointR s picks x e ∧ St H1 w' σ := by
  obtain ⟨ul, rfl, hl⟩ := hr
  obtain ⟨al, cl, rfl⟩ := RL.shape hl
  obtain ⟨ap, cp, rfl⟩ := RI.shape hp
  refine Cl.of Tryz.func135 rfl Tryz.ntmps135 (by simp) (args_cons (k := 0) rfl (args_cons (k := 1) rfl (args0))) ?_
  refine .regSeq ?_
  refine .o (.box hs rfl rfl ?_); intro b2 w hs
  refine .z zg (.z zg (.nil (.seq (.regSeq (.y hs (zls [_, _] Tryz.isAgg24 Tryz.sizeOf24) ?_)))))
  refine .o (.call Tryz.call119 rfl (bound_ready_spec (s := s) hs ⟨_, rfl, hl⟩) ?_); rintro _ w ⟨H0, e, hle0, rfl, hR, hs⟩
  refine .z zg (.nil (.regSeq (.z zm (.z zneq (.nil ?_)))))
  refine (.condN rfl (fun hc23 => ?_) (fun hc23 => ?_))
  · refine .regSeq (.z zm (.z zg (.z zg (.nil ?_))))
    refine .ret (rT (Fin.ret2 Tryz.results135 rfl rfl ?_))
    exact ⟨H0, _, [], _, hle0, rfl, RS.nil H0 1 none 0, by
      cases hR with
      | bad h => exact .bad h
      | clash h h1 => exact .clash h h1
      | ok _ _ => exact (hc23 rfl).elim, hs.out⟩
  · refine .skip ?_
    refine nT ?_
    refine .regSeq (.y hs (zls [_, _] Tryz.isAgg24 Tryz.sizeOf24) ?_)
    obtain ⟨hok, hsd⟩ : s.Ok ∧ s.Sound := by
      generalize hz : e = z at hR
      cases hR with
      | bad h => exact (h (by omega)).elim
      | clash h h1 => omega
      | ok h h1 => exact ⟨h, h1⟩
    refine .o (.call Tryz.call120 rfl (bound_matrix_spec (s := s) hs ⟨_, rfl, hl.mono hle0⟩ hok hsd) ?_); rintro v26 w ⟨H1, rs, hle1, hRT, hSq, hWT, hs⟩
    replace hle1 := hle0.trans hle1
    obtain ⟨at', ct, rfl⟩ := hRT.shape
    have hTS := hok.tabS hsd hWT
    have hrl := hSq.1
    have hm0 := hok.m0
    have hm1 := hok.m1
    have hnn : (s.n : Int) = s.many + 1 := by simp only [Syst.n]; omega
    refine .z zg (.nil (.regSeq ?_))
    refine .o (.buildSlice (cells := [_]) hs bls_sl_int_1 rfl rfl ?_); intro b27 w hs
    refine .z zg (.nil (.seq (.regSeq (.z zg (.nil (.block ?_))))))
    refine .loop (fun p : List Int × Value => ⟨129, [], [(9, I (p.1.length : Int)), (8, p.2), (7, .slice at' rs.length ct), (2, .pointer (some ⟨b2, 0, none⟩)), (1, .slice ap picks.length cp)]⟩)
      (fun p w => PtsR (gt rs) (pickI picks) p.1 ∧ p.1.length ≤ s.n ∧ ∃ en, OwnS 1 p.2 (Is p.1) en ∧ St H1 w (en :: .blk b2 [I s.many, .slice al s.lims.length cl] :: σ))
      (fun p => s.n - p.1.length) ([0], .slice (some ⟨b27, 0, none⟩) 1 1) (by repeat (first | exact .nil rfl rfl | refine .cons rfl ?_))
      ⟨.start, s.n_pos, _, .full (len := 1) rfl, hs⟩ ?_
    rintro ⟨X, v8⟩ w ⟨hP, hXn, en, hO, hs⟩
    dsimp only at hP hXn hO ⊢
    have hI := hP.inv (fun i n hn => pickI_bd picks i hn) hTS hXn
    have hX0 := hI.l0
    have hO1 := hO
    obtain ⟨b, cap, sp, rfl, rfl, hcap⟩ := hO.some hX0
    refine .seq (.regSeq (.z zm (.z (zfa fa_api_System_0) (.y hs (zld Tryz.isAgg3) (.z zleq (.nil ?_))))))
    refine (.condD rfl (fun hc31 => ?_) (fun hc31 => ?_))
    · refine .skip ?_
      refine nT ?_
      refine .cut (fun fs w => ∃ Y v8 en8, FSub fs ⟨129, [], [(9, I (X.length : Int)), (8, v8), (7, .slice at' rs.length ct), (2, .pointer (some ⟨b2, 0, none⟩)), (1, .slice ap picks.length cp)]⟩ ∧ PtsR (gt rs) (pickI picks) Y ∧ Y.length = X.length + 1 ∧ OwnS 1 v8 (Is Y) en8 ∧ St H1 w (en8 :: .blk b2 [I s.many, .slice al s.lims.length cl] :: σ)) ?_ ?_
      · refine .block (.regSeq (.z zg (.z zg (.z zg (.z zg (.nil ?_))))))
        have hXl : X.length < s.n := by omega
        refine .seq (.regSeq (.z zm (.z (zlen Tryz.runUnderlying25) (.z zm (.nil ?_)))))
        refine .for (N := X.length) (J := fun k fr w => ∃ lo hi low high, fr = [(10, I lo), (11, I hi), (12, .bool low), (13, .bool high), (34, .slice (some ⟨b, 0, none⟩) X.length cap), (9, I (X.length : Int)), (8, .slice (some ⟨b, 0, none⟩) X.length cap), (7, .slice at' rs.length ct), (2, .pointer (some ⟨b2, 0, none⟩)), (1, .slice ap picks.length cp)] ∧   (low = true → -100000000 ≤ lo ∧ lo ≤ 100000000) ∧ (high = true → -100000000 ≤ hi ∧ hi ≤ 100000000) ∧ LoI (gt rs) X X.length k (bif low then lo else -free) ∧ HiI (gt rs) X X.length k (bif high then hi else free) ∧ St H1 w (.blk b (Is X ++ sp) :: .blk b2 [I s.many, .slice al s.lims.length cl] :: σ)) (by omega) ?_ ?_ ?_
        · exact .mk ⟨0, 0, false, false, rfl, fun h => (by cases h), fun h => (by cases h), .start _ _ _, .start _ _ _, hs⟩
        · rintro k fr w hk ⟨lo, hi, low, high, rfl, hlob, hhib, hLo, hHi, hs⟩
          have hXk := hI.bd k hk
          have hn65 := hTS.n65
          have hr1 : (gr rs X.length).length = s.n := hSq.2 _ hXl
          have hr2 : (gr rs k).length = s.n := hSq.2 _ (by omega)
          have hb1 : gi (gr rs X.length) k ≠ 1000000000 → -1400000 ≤ gi (gr rs X.length) k ∧ gi (gr rs X.length) k ≤ 1400000 := fun h => hTS.bd X.length k hXl (by omega) h
          have hb2 : gi (gr rs k) X.length ≠ 1000000000 → -1400000 ≤ gi (gr rs k) X.length ∧ gi (gr rs k) X.length ≤ 1400000 := fun h => hTS.bd k X.length (by omega) hXl h
          refine .block (.regSeq (.z zm (.z (zix Tryz.runUnderlying25 Tryz.sizeOf3) ?_)))
          refine .q hs (q_load rfl Tryz.isAgg3 (hv := Is_gi_sp hk sp)) ?_
          refine .z zg (.z zg (.nil ?_))
          refine .cut (fun fs w => ∃ lo' low', FSub fs ⟨129, [], [(10, I lo'), (12, .bool low'), (14, I (k : Int)), (15, I (gi X k)), (36, I (k : Int)), (35, I (X.length : Int)), (11, I hi), (13, .bool high), (34, .slice (some ⟨b, 0, none⟩) X.length cap), (9, I (X.length : Int)), (8, .slice (some ⟨b, 0, none⟩) X.length cap), (7, .slice at' rs.length ct), (2, .pointer (some ⟨b2, 0, none⟩)), (1, .slice ap picks.length cp)]⟩ ∧ (low' = true → -100000000 ≤ lo' ∧ lo' ≤ 100000000) ∧ LoI (gt rs) X X.length (k + 1) (bif low' then lo' else -free) ∧ St H1 w (.blk b (Is X ++ sp) :: .blk b2 [I s.many, .slice al s.lims.length cl] :: σ)) ?_ ?_
          · refine .regSeq (.z zm (.z zm ?_))
            refine .ixT hs hRT rfl rfl Tryz.runUnderlying29 Tryz.sizeOf25 (show X.length < rs.length by omega) rfl ?_; intro b43 o43 a43 c43 hc43 hR43
            refine .q hs (q_loadR rfl Tryz.isAgg25 hc43) ?_
            refine .z zm ?_
            refine .ixY hs hR43 rfl rfl Tryz.runUnderlying25 Tryz.sizeOf3 (gi_get (l := gr rs X.length) (i := k) (by omega)) rfl ?_; intro b46 o46 hc46
            refine .q hs (q_loadR rfl Tryz.isAgg3 hc46) ?_
            refine .z zg (.nil (.regSeq (.z zm (.z zneq (.z zm ?_)))))
            refine .bifN (t' := 50) rfl (fun hb50 => ?_) (fun hb50 => ?_)
            · refine .gT rfl rfl ?_
              refine .z zm ?_
              refine .gT rfl rfl ?_
              refine .z znot ?_
              refine .gT rfl rfl ?_
              refine .z zm ?_
              refine .bif (t' := 53) rfl (fun hb53 => ?_) (fun hb53 => ?_)
              · refine .gFs 5 5 false rfl rfl rfl ?_
                refine .gT rfl rfl ?_
                refine .z zpT (.z zpT (.nil ?_))
                refine (.condT rfl rfl ?_)
                refine .region (.z zm (.z zm (.z zsub (.z zg (.z zg (.nil ?_))))))
                refine nT ?_
                obtain rfl : low = false := by simpa using hb53
                have hb1' := hb1 hb50
                exact ⟨gi X k - gi (gr rs X.length) k, true, by repeat (first | exact .nil rfl rfl | refine .cons rfl ?_), fun _ => by omega, hLo.put' hb50 (by show -1000000000 ≤ gi X k - gi (gr rs X.length) k; omega) (by show gi X k - gi (gr rs X.length) k = max (-1000000000) (gi X k - gi (gr rs X.length) k); omega), hs⟩
              · refine .gT rfl rfl ?_
                refine .z zm ?_
                refine .gT rfl rfl ?_
                refine .z zm ?_
                refine .gT rfl rfl ?_
                refine .z zsub ?_
                refine .gT rfl rfl ?_
                refine .z zm ?_
                refine .gT rfl rfl ?_
                refine .z zgtr ?_
                refine .gT rfl rfl ?_
                refine .z zpF (.z zpT (.nil ?_))
                refine (.condD rfl (fun hc60 => ?_) (fun hc60 => ?_))
                · refine .region (.z zm (.z zm (.z zsub (.z zg (.z zg (.nil ?_))))))
                  refine nT ?_
                  obtain rfl : low = true := by simpa using hb53
                  have hb1' := hb1 hb50
                  exact ⟨gi X k - gi (gr rs X.length) k, true, by repeat (first | exact .nil rfl rfl | refine .cons rfl ?_), fun _ => by omega, hLo.put' hb50 (by show -1000000000 ≤ gi X k - gi (gr rs X.length) k; omega) (by show gi X k - gi (gr rs X.length) k = max lo (gi X k - gi (gr rs X.length) k); omega), hs⟩
                · refine .skip ?_
                  refine nT ?_
                  obtain rfl : low = true := by simpa using hb53
                  have hb1' := hb1 hb50
                  exact ⟨lo, true, by repeat (first | exact .nil rfl rfl | refine .cons rfl ?_), hlob, hLo.put' hb50 (by show -1000000000 ≤ gi X k - gi (gr rs X.length) k; omega) (by show lo = max lo (gi X k - gi (gr rs X.length) k); omega), hs⟩
            · refine .gFs 3 2 true rfl rfl rfl ?_
              refine .gFs 5 5 false rfl rfl rfl ?_
              refine .gFs 1 2 true rfl rfl rfl ?_
              refine .z zpF (.nil ?_)
              refine (.condF rfl rfl ?_)
              refine .skip ?_
              refine nT ?_
              exact ⟨lo, low, by repeat (first | exact .nil rfl rfl | refine .cons rfl ?_), hlob, hLo.skip hb50, hs⟩
          · rintro fs w ⟨lo', low', hfs, hlob', hLo', hs⟩
            refine WE.sub ?_ hfs
            refine .regSeq (.z zm (.z zm ?_))
            refine .ixT hs hRT rfl rfl Tryz.runUnderlying29 Tryz.sizeOf25 (show k < rs.length by omega) rfl ?_; intro b66 o66 a66 c66 hc66 hR66
            refine .q hs (q_loadR rfl Tryz.isAgg25 hc66) ?_
            refine .z zm ?_
            refine .ixY hs hR66 rfl rfl Tryz.runUnderlying25 Tryz.sizeOf3 (gi_get (l := gr rs k) (i := X.length) (by omega)) rfl ?_; intro b69 o69 hc69
            refine .q hs (q_loadR rfl Tryz.isAgg3 hc69) ?_
            refine .z zg (.nil (.regSeq (.z zm (.z zneq (.z zm ?_)))))
            refine .bifN (t' := 73) rfl (fun hb73 => ?_) (fun hb73 => ?_)
            · refine .gT rfl rfl ?_
              refine .z zm ?_
              refine .gT rfl rfl ?_
              refine .z znot ?_
              refine .gT rfl rfl ?_
              refine .z zm ?_
              refine .bif (t' := 76) rfl (fun hb76 => ?_) (fun hb76 => ?_)
              · refine .gFs 5 5 false rfl rfl rfl ?_
                refine .gT rfl rfl ?_
                refine .z zpT (.z zpT (.nil ?_))
                refine (.condT rfl rfl ?_)
                refine .region (.z zm (.z zm (.z zadd (.z zg (.z zg (.nil ?_))))))
                refine nB (nT ?_)
                obtain rfl : high = false := by simpa using hb76
                have hb2' := hb2 hb73
                exact .mk ⟨lo', gi X k + gi (gr rs k) X.length, low', true, rfl, hlob', fun _ => by omega, hLo', hHi.put' hb73 (by show gi X k + gi (gr rs k) X.length ≤ 1000000000; omega) (by show gi X k + gi (gr rs k) X.length = min 1000000000 (gi X k + gi (gr rs k) X.length); omega), hs⟩
              · refine .gT rfl rfl ?_
                refine .z zm ?_
                refine .gT rfl rfl ?_
                refine .z zm ?_
                refine .gT rfl rfl ?_
                refine .z zadd ?_
                refine .gT rfl rfl ?_
                refine .z zm ?_
                refine .gT rfl rfl ?_
                refine .z zlss ?_
                refine .gT rfl rfl ?_
                refine .z zpF (.z zpT (.nil ?_))
                refine (.condD rfl (fun hc83 => ?_) (fun hc83 => ?_))
                · refine .region (.z zm (.z zm (.z zadd (.z zg (.z zg (.nil ?_))))))
                  refine nB (nT ?_)
                  obtain rfl : high = true := by simpa using hb76
                  have hb2' := hb2 hb73
                  exact .mk ⟨lo', gi X k + gi (gr rs k) X.length, low', true, rfl, hlob', fun _ => by omega, hLo', hHi.put' hb73 (by show gi X k + gi (gr rs k) X.length ≤ 1000000000; omega) (by show gi X k + gi (gr rs k) X.length = min hi (gi X k + gi (gr rs k) X.length); omega), hs⟩
                · refine .skip ?_
                  refine nB (nT ?_)
                  obtain rfl : high = true := by simpa using hb76
                  have hb2' := hb2 hb73
                  exact .mk ⟨lo', hi, low', true, rfl, hlob', hhib, hLo', hHi.put' hb73 (by show gi X k + gi (gr rs k) X.length ≤ 1000000000; omega) (by show hi = min hi (gi X k + gi (gr rs k) X.length); omega), hs⟩
            · refine .gFs 3 2 true rfl rfl rfl ?_
              refine .gFs 5 5 false rfl rfl rfl ?_
              refine .gFs 1 2 true rfl rfl rfl ?_
              refine .z zpF (.nil ?_)
              refine (.condF rfl rfl ?_)
              refine .skip ?_
              refine nB (nT ?_)
              exact .mk ⟨lo', hi, low', high, rfl, hlob', hhib, hLo', hHi.skip hb73, hs⟩
        · rintro fr w ⟨lo, hi, low, high, rfl, hlob, hhib, hLo, hHi, hs⟩
          have hle := hI.le hTS hXl rfl hLo hHi
          simp only [free] at hle
          refine nT ?_
          refine .regSeq (.z zm (.z zm (.z zsub ?_)))
          refine .o (.call Tryz.call178 rfl (bound_pick_spec (i := (X.length : Int) - 1) hs (hp.mono hle1) (by omega)) ?_); rintro _ w ⟨rfl, hs⟩
          refine .z zg (.nil (.block (.regSeq (.z zm (.z zm ?_)))))
          refine .bif (t' := 97) rfl (fun hb97 => ?_) (fun hb97 => ?_)
          · refine .gT rfl rfl ?_
            refine .z zm (.z zpT (.z zg (.nil ?_)))
            refine (.cond rfl (fun hc95 => ?_) (fun hc95 => ?_))
            · refine .regSeq (.z zm (.z zm ?_))
              have hlo' : low = true := by simpa using hb97
              have hhi' : high = true := by simpa using hc95
              subst hlo'; subst hhi'
              have hlb := hlob rfl
              have hhb := hhib rfl
              simp only [cond_true] at hle
              have hle' := hle (by omega) (by omega)
              have hq1 := Int.tmod_lt_of_pos (pkI picks ((X.length : Int) - 1)) (b := hi - lo + 1) (by omega)
              have hq2 := Int.lt_tmod_of_pos (pkI picks ((X.length : Int) - 1)) (b := hi - lo + 1) (by omega)
              have hq3 := rem_emod (n := pkI picks ((X.length : Int) - 1)) (m := hi - lo + 1) (by omega)
              have hq4 := Int.emod_nonneg (pkI picks ((X.length : Int) - 1)) (b := hi - lo + 1) (by omega)
              have hq5 := Int.emod_lt_of_pos (pkI picks ((X.length : Int) - 1)) (b := hi - lo + 1) (by omega)
              refine .z zsub (.z zadd (.z zg (.nil (.region (.z zm (.z zm (.z zm (.z zm (.z zrem ?_)))))))))
              refine .z zm (.z zadd (.z zm (.z zrem (.z zadd ?_))))
              refine .o (.buildSlice (cells := [_]) hs bls_sl_int_1 rfl rfl ?_); intro b114 w hs
              refine .o (.append (ys := Is [lo + ((pkI picks ((X.length : Int) - 1)).tmod (hi - lo + 1) + (hi - lo + 1)).tmod (hi - lo + 1)]) hs app_sl_int_int rfl rfl hO1 (.own .here rfl rfl) (Is_cell _) (fun l' h => by simp at h; have := hTS.n65; omega) ?_); intro v115 en115 w hO2 hs
              rw [← List.map_append] at hO2
              have hz := hP.snoc hLo hHi
              simp only [cond_true] at hz
              rw [choose_TT (show lo ≠ -1000000000 by omega) (show hi ≠ 1000000000 by omega), pickI_pk picks _ (show 1 ≤ hi - lo + 1 by omega), ← hq3] at hz
              refine .z zg (.nil ?_)
              refine nB (nB (nT ?_))
              exact ⟨_, v115, en115, by repeat (first | exact .nil rfl rfl | refine .cons rfl ?_), hz, by simp, hO2, hs.sub (by repeat (first | exact Sub.refl _ | constructor | apply Sub.weaken))⟩
            · refine .regSeq (.z zm (.z zg (.nil ?_)))
              refine (.cond rfl (fun hc116 => ?_) (fun hc116 => ?_))
              · refine .region (.z zm (.z zm ?_))
                refine .o (.buildSlice (cells := [_]) hs bls_sl_int_1 rfl rfl ?_); intro b120 w hs
                refine .o (.append (ys := Is [lo]) hs app_sl_int_int rfl rfl hO1 (.own .here rfl rfl) (Is_cell _) (fun l' h => by simp at h; have := hTS.n65; omega) ?_); intro v115 en115 w hO2 hs
                rw [← List.map_append] at hO2
                refine .z zg (.nil ?_)
                refine nB (nB (nT ?_))
                obtain rfl : low = true := by simpa using hb97
                obtain rfl : high = false := by simpa using hc95
                have hlb := hlob rfl
                have hz := hP.snoc hLo hHi
                simp only [cond_true, cond_false] at hz
                rw [choose_TF (show lo ≠ -1000000000 by omega)] at hz
                exact ⟨_, v115, en115, by repeat (first | exact .nil rfl rfl | refine .cons rfl ?_), hz, by simp, hO2, hs.sub (by repeat (first | exact Sub.refl _ | constructor | apply Sub.weaken))⟩
              · refine .regSeq (.z zm (.z zg (.nil ?_)))
                refine (.cond rfl (fun hc122 => ?_) (fun hc122 => ?_))
                · refine .region (.z zm (.z zm ?_))
                  refine .o (.buildSlice (cells := [_]) hs bls_sl_int_1 rfl rfl ?_); intro b126 w hs
                  refine .o (.append (ys := Is [hi]) hs app_sl_int_int rfl rfl hO1 (.own .here rfl rfl) (Is_cell _) (fun l' h => by simp at h; have := hTS.n65; omega) ?_); intro v115 en115 w hO2 hs
                  rw [← List.map_append] at hO2
                  refine .z zg (.nil ?_)
                  refine nB (nB (nT ?_))
                  exfalso; have h1 : low = true := by simpa using hb97
                  have h2 : low = false := by simpa using hc116
                  rw [h1] at h2; cases h2
                · refine .region (.z zm ?_)
                  refine .o (.buildSlice (cells := [_]) hs bls_sl_int_1 rfl rfl ?_); intro b93 w hs
                  refine .o (.append (ys := Is [0]) hs app_sl_int_int rfl rfl hO1 (.own .here rfl rfl) (Is_cell _) (fun l' h => by simp at h; have := hTS.n65; omega) ?_); intro v115 en115 w hO2 hs
                  rw [← List.map_append] at hO2
                  refine .z zg (.nil ?_)
                  refine nB (nB (nT ?_))
                  exfalso; have h1 : low = true := by simpa using hb97
                  have h2 : low = false := by simpa using hc116
                  rw [h1] at h2; cases h2
          · refine .gFs 1 1 true rfl rfl rfl ?_
            refine .z zpF (.z zg (.nil ?_))
            refine (.condF rfl rfl ?_)
            refine .regSeq (.z zm (.z zg (.nil ?_)))
            refine (.cond rfl (fun hc116 => ?_) (fun hc116 => ?_))
            · refine .region (.z zm (.z zm ?_))
              refine .o (.buildSlice (cells := [_]) hs bls_sl_int_1 rfl rfl ?_); intro b120 w hs
              refine .o (.append (ys := Is [lo]) hs app_sl_int_int rfl rfl hO1 (.own .here rfl rfl) (Is_cell _) (fun l' h => by simp at h; have := hTS.n65; omega) ?_); intro v115 en115 w hO2 hs
              rw [← List.map_append] at hO2
              refine .z zg (.nil ?_)
              refine nB (nB (nT ?_))
              exfalso; have h1 : low = false := by simpa using hb97
              have h2 : low = true := by simpa using hc116
              rw [h1] at h2; cases h2
            · refine .regSeq (.z zm (.z zg (.nil ?_)))
              refine (.cond rfl (fun hc122 => ?_) (fun hc122 => ?_))
              · refine .region (.z zm (.z zm ?_))
                refine .o (.buildSlice (cells := [_]) hs bls_sl_int_1 rfl rfl ?_); intro b126 w hs
                refine .o (.append (ys := Is [hi]) hs app_sl_int_int rfl rfl hO1 (.own .here rfl rfl) (Is_cell _) (fun l' h => by simp at h; have := hTS.n65; omega) ?_); intro v115 en115 w hO2 hs
                rw [← List.map_append] at hO2
                refine .z zg (.nil ?_)
                refine nB (nB (nT ?_))
                obtain rfl : low = false := by simpa using hb97
                obtain rfl : high = true := by simpa using hc122
                have hhb := hhib rfl
                have hz := hP.snoc hLo hHi
                simp only [cond_true, cond_false] at hz
                rw [choose_FT (show hi ≠ 1000000000 by omega)] at hz
                exact ⟨_, v115, en115, by repeat (first | exact .nil rfl rfl | refine .cons rfl ?_), hz, by simp, hO2, hs.sub (by repeat (first | exact Sub.refl _ | constructor | apply Sub.weaken))⟩
              · refine .region (.z zm ?_)
                refine .o (.buildSlice (cells := [_]) hs bls_sl_int_1 rfl rfl ?_); intro b93 w hs
                refine .o (.append (ys := Is [0]) hs app_sl_int_int rfl rfl hO1 (.own .here rfl rfl) (Is_cell _) (fun l' h => by simp at h; have := hTS.n65; omega) ?_); intro v115 en115 w hO2 hs
                rw [← List.map_append] at hO2
                refine .z zg (.nil ?_)
                refine nB (nB (nT ?_))
                obtain rfl : low = false := by simpa using hb97
                obtain rfl : high = false := by simpa using hc122
                have hz := hP.snoc hLo hHi
                simp only [cond_false] at hz
                rw [choose_FF] at hz
                exact ⟨_, v115, en115, by repeat (first | exact .nil rfl rfl | refine .cons rfl ?_), hz, by simp, hO2, hs.sub (by repeat (first | exact Sub.refl _ | constructor | apply Sub.weaken))⟩
      · rintro fs w ⟨Y, v8, en8, hfs, hPY, hYl, hO2, hs⟩
        refine WE.sub ?_ hfs
        refine .region (.z zm (.z zadd (.z zg (.nil ?_))))
        refine nT ?_
        exact ⟨(Y, v8), .consI rfl (by simp [hYl]) (by repeat (first | exact .nil rfl rfl | refine .cons rfl ?_)), ⟨hPY, by dsimp only; omega, _, hO2, hs⟩, by dsimp only; omega⟩
    · refine .exit ?_
      refine xT (xT (xB (nT ?_)))
      refine .regSeq (.z zm (.z zg (.z zg (.nil ?_))))
      refine .ret (Fin.ret2 Tryz.results135 rfl rfl ?_)
      obtain ⟨H2, hle2, hRX, hs⟩ := OwnS.publishI hO1 (by have := hTS.n65; omega) hs .here
      exact ⟨H2, _, X, 0, hle1.trans hle2, rfl, hRX, .ok hok hsd ⟨gt rs, hWT, hP, by omega⟩, hs.out⟩
end Go.Proofs.YtiiokdeehlfeeaaGreat

namespace Go.Proofs.YtiiokdeehlfeeaaGreat
open Go.MW
theorem slices_Index_int {H : Heap} {w : World} {σ : List Ent} {v : Value} {ls : List Int} {x : Int} (hs : St H w σ) (hr : RI H v ls) :
    Cl Tryz.prog 177 [v, I x] w fun u w' => ∃ i, u = I i ∧ (0 ≤ i ↔ x ∈ ls) ∧ St H w' σ := by
  obtain ⟨a, c, rfl⟩ := RI.shape hr
  have hl := (RI.len hr).2.2
  refine Cl.of Tryz.func177 rfl Tryz.ntmps177 (by simp) (args_cons (k := 0) rfl (args_cons (k := 1) rfl (args0))) ?_
  refine .regSeq (.z zg (.nil (.seq (.regSeq (.z zm (.z (zlen Tryz.runUnderlying25) (.z zm (.nil ?_))))))))
  refine .for (N := ls.length) (J := fun k fr w => fr = [(1, I x), (0, .slice a ls.length c)] ∧ St H w σ ∧ ∀ j < k, ∀ y, ls[j]? = some y → ¬ x = y) (by omega) ?_ ?_ ?_
  · exact .mk ⟨rfl, hs, fun j hj => by omega⟩
  · rintro k fr w hk ⟨rfl, hs, hno⟩
    obtain ⟨y, hy⟩ := nth hk
    refine .block (.regSeq (.z zm (.z zg (.nil (.regSeq (.z zm (.z zm (.z zm ?_))))))))
    refine .ixY hs hr rfl rfl Tryz.runUnderlying25 Tryz.sizeOf3 hy rfl ?_; intro b14 o14 hc14
    refine .q hs (q_loadR rfl Tryz.isAgg3 hc14) ?_
    refine .z zeql (.nil ?_)
    refine (.condD rfl (fun hc16 => ?_) (fun hc16 => ?_))
    · refine .regSeq (.z zm (.z zg (.nil ?_)))
      refine .ret (rB (rT (rB (rT (Fin.ret1 Tryz.results177 rfl ?_)))))
      exact ⟨_, rfl, ⟨fun _ => by rw [hc16]; exact List.mem_of_getElem? hy, fun _ => by omega⟩, hs⟩
    · refine .skip ?_
      refine nB (nT ?_)
      exact .mk ⟨rfl, hs, upto_succ hno hy hc16⟩
  · rintro fr w ⟨rfl, hs, hno⟩
    refine nT ?_
    refine .regSeq (.z zg (.nil ?_))
    refine .ret (Fin.ret1 Tryz.results177 rfl ?_)
    exact ⟨_, rfl, ⟨fun h => by omega, fun h => by
      obtain ⟨j, hj⟩ := List.getElem?_of_mem h
      exact (hno j (List.getElem?_eq_some_iff.1 hj).1 x hj rfl).elim⟩, hs⟩
theorem slices_Contains_int {H : Heap} {w : World} {σ : List Ent} {v : Value} {ls : List Int} {x : Int} (hs : St H w σ) (hr : RI H v ls) :
    Cl Tryz.prog 127 [v, I x] w fun u w' => u = .bool (decide (x ∈ ls)) ∧ St H w' σ := by
  refine Cl.of Tryz.func127 rfl Tryz.ntmps127 (by simp) (args_cons (k := 0) rfl (args_cons (k := 1) rfl (args0))) ?_
  refine .regSeq (.z zg (.nil (.regSeq (.z zm (.z zm ?_)))))
  refine .o (.call Tryz.call177 rfl (slices_Index_int hs hr) ?_); rintro _ w ⟨i, rfl, hi, hs⟩
  refine .z zgeq (.z zg (.nil ?_))
  refine .ret (Fin.ret1 Tryz.results127 rfl ?_)
  exact ⟨by simp only [hi], hs⟩
set_option maxHeartbeats 1000000 in
theorem bound_only_spec {H : Heap} {w : World} {σ : List Ent} {v : Value} {s : Syst} {g : Nat} {cap : List Value} (q : Nat → Lim → Bool) (hs : St H w σ) (hr : RSy H v s) (hlen : s.lims.length ≤ 4398046510976) (hc : ∀ args w, (callFunc g args).run Tryz.prog w = .ok (.enter g args) w)
    (hp : ∀ w σ (k : Nat) (l : Lim), s.lims[k]? = some l → St H w σ → Cl Tryz.prog g ([I k, .agg l.c.toArray] ++ cap) w fun u w' => u = .bool (q k l) ∧ St H w' σ) :
    Cl Tryz.prog 121 [v, .func (.func g) #[] cap.toArray] w fun u w' => ∃ H1, HLe H H1 ∧ RSy H1 u ⟨s.many, pickTo q s.lims s.lims.length⟩ ∧ St H1 w' σ := by
  obtain ⟨ul, rfl, hl⟩ := hr
  obtain ⟨al, cl, rfl⟩ := RL.shape hl
  refine Cl.of Tryz.func121 rfl Tryz.ntmps121 (by simp) (args_cons (k := 0) rfl (args_cons (k := 1) rfl (args0))) ?_
  refine .regSeq ?_
  refine .o (.box hs rfl rfl ?_); intro b2 w hs
  refine .o (.alloc hs Tryz.zeroValue24 rfl ?_); intro b4 w hs
  refine .nil (.regSeq (.z (zfa fa_api_System_0) (.y hs (zld Tryz.isAgg3) (.z (zbd [_, _] bld_api_System) ?_))))
  refine .o (.alloc hs Tryz.zeroValue24 rfl ?_); intro b5 w hs
  refine .o (.stores (vs := [_, _]) hs rfl rfl Tryz.sizeOf24 ?_); intro w hs
  refine .nil (.seq (.regSeq (.z (zfa fa_api_System_1) (.y hs (zld Tryz.isAgg22) (.z (zlen Tryz.runUnderlying22) (.z zm (.nil ?_)))))))
  refine .for (N := s.lims.length) (J := fun k fr w => fr = [(12, .slice al s.lims.length cl), (1, .func (.func g) #[] cap.toArray), (5, .pointer (some ⟨b5, 0, none⟩)), (4, .pointer (some ⟨b4, 0, none⟩))] ∧ ∃ vL en, OwnS 4 vL (Lims (pickTo q s.lims k)) en ∧ St H w (.blk b5 [I s.many, vL] :: .blk b4 [I 0, .slice none 0 0] :: en :: σ)) (by omega) ?_ ?_ ?_
  · exact .mk ⟨rfl, _, _, .nil 4 none, hs.nul.sub (by repeat (first | exact Sub.refl _ | constructor | apply Sub.weaken))⟩
  · rintro k fr w hk ⟨rfl, vL, en, hO, hs⟩
    obtain ⟨x, hx⟩ := nth (l := s.lims) hk
    obtain ⟨aL, lL, cL, rfl, hL⟩ := hO.shape
    have hpl := pickTo_length q s.lims k
    refine .block (.regSeq (.z zm ?_))
    refine .ixX hs hl rfl rfl Tryz.runUnderlying22 Tryz.sizeOf157 hx rfl ?_; intro b17 o17 hc17
    refine .q hs (q_loadsR (vs := x.c) rfl Tryz.isAgg157 Tryz.sizeOf157 hc17) ?_
    refine .o (.alloc hs Tryz.zeroValue157 rfl ?_); intro b7 w hs
    refine .z zg ?_
    refine .o (.stores (vs := x.c) hs rfl rfl Tryz.sizeOf157 ?_); intro w hs
    refine .nil (.regSeq (.z zm (.z zm (.y hs (zls [_, _, _, _] Tryz.isAgg157 Tryz.sizeOf157) ?_))))
    refine .o (.callG (first := []) (cap := cap) rfl rfl hc (hp _ _ k x hx hs) ?_); rintro _ w ⟨rfl, hs⟩
    refine .nil ?_
    refine (.cond rfl (fun hc22 => ?_) (fun hc22 => ?_))
    · refine .region (.z (zfa fa_api_System_1) (.y hs (zld Tryz.isAgg22) (.y hs (zls [_, _, _, _] Tryz.isAgg157 Tryz.sizeOf157) ?_)))
      refine .o (.buildSlice (cells := x.c) hs bls_sl_api_Limit_1 rfl rfl ?_); intro b26 w hs
      refine .o (.append (ys := x.c) hs app_sl_api_Limit_api_Limit rfl rfl hO (.own .here rfl rfl) (by simp [Lim.c, Value.oneCell']) (fun l h => by rw [Lims_length] at h; omega) ?_); intro v27 en27 w hO2 hs
      obtain ⟨a27, l27, c27, rfl, h27⟩ := hO2.shape
      refine .z (zfa fa_api_System_1) ?_
      refine .o (.store hs rfl rfl Tryz.sizeOf22 ?_); intro w hs
      refine .nil ?_
      refine nB (nT ?_)
      have e : pickTo q s.lims (k + 1) = pickTo q s.lims k ++ [x] := by rw [pickTo_succ hx, if_pos hc22]
      rw [← Lims_one, ← Lims_append, ← e] at hO2
      exact .mk ⟨rfl, _, _, hO2, hs.sub (by repeat (first | exact Sub.refl _ | constructor | apply Sub.weaken))⟩
    · refine .skip ?_
      refine nB (nT ?_)
      have e : pickTo q s.lims (k + 1) = pickTo q s.lims k := by rw [pickTo_succ hx, hc22]; simp
      exact .mk ⟨rfl, _, _, by rw [e]; exact hO, hs.sub (by repeat (first | exact Sub.refl _ | constructor | apply Sub.weaken))⟩
  · rintro fr w ⟨rfl, vL, en, hO, hs⟩
    obtain ⟨aL, lL, cL, rfl, hL⟩ := hO.shape
    have hpl := pickTo_length q s.lims s.lims.length
    refine nT ?_
    refine .regSeq (.y hs (zls [_, _] Tryz.isAgg24 Tryz.sizeOf24) ?_)
    refine .o (.stores (vs := [_, _]) hs rfl rfl Tryz.sizeOf24 ?_); intro w hs
    refine .nil ?_
    refine .ret ?_
    obtain ⟨H1, g1, r1, hs⟩ := OwnS.publish (m := 4) (cs := (pickTo q s.lims s.lims.length).map Lim.c) hO (fun c hc => by simp only [List.mem_map] at hc; obtain ⟨x, _, rfl⟩ := hc; rfl) (by omega) (by rw [List.length_map]; omega) hs (by repeat constructor)
    exact Fin.retD [] [] hs fun w hs => ⟨_, results1 Tryz.results121 (rcells (vs := [_, _]) hs rfl Tryz.isAgg24 Tryz.sizeOf24), H1, g1, ⟨_, rfl, r1⟩, hs.out⟩
theorem bound_Without_1 {H : Heap} {w : World} {σ : List Ent} {b : Nat} {i : Int} {l : Lim} {vb : Value} {bs : List Int} (hs : St H w σ) (hb : Row H b [vb]) (hr : RI H vb bs) :
    Cl Tryz.prog 163 [I i, .agg l.c.toArray, .pointer (some ⟨b, 0, none⟩)] w fun u w' => u = .bool (!decide (l.S ∈ bs)) ∧ St H w' σ := by
  have hb0 : cellAt H b 0 = some vb := by rw [hb.cell]; rfl
  refine Cl.of Tryz.func163 rfl Tryz.ntmps163 (by simp) (args_cons (k := 0) rfl (args_cons (k := 1) rfl (args_cons (k := 2) rfl (args0)))) ?_
  refine .regSeq ?_
  refine .o (.box hs rfl rfl ?_); intro b4 w hs
  refine .z zg (.nil (.regSeq (.y hs (zld Tryz.isAgg25) (.z (zfa fa_api_Limit_3) (.y hs (zld Tryz.isAgg3) ?_)))))
  refine .o (.call Tryz.call127 rfl (slices_Contains_int hs hr) ?_); rintro _ w ⟨rfl, hs⟩
  refine .z znot (.z zg (.nil ?_))
  refine .ret (Fin.ret1 Tryz.results163 rfl ?_)
  exact ⟨rfl, hs.out⟩
theorem bound_Without_spec {H : Heap} {w : World} {σ : List Ent} {v vb : Value} {s : Syst} {bs : List Int} (hs : St H w σ) (hr : RSy H v s) (hb : RI H vb bs) (hlen : s.lims.length ≤ 4398046510976) :
    Cl Tryz.prog 109 [v, vb] w fun u w' => ∃ H1, HLe H H1 ∧ RSy H1 u (s.wo bs) ∧ St H1 w' σ := by
  obtain ⟨ul, rfl, hl⟩ := hr
  obtain ⟨al, cl, rfl⟩ := RL.shape hl
  obtain ⟨ab, cb, rfl⟩ := RI.shape hb
  refine Cl.of Tryz.func109 rfl Tryz.ntmps109 (by simp) (args_cons (k := 0) rfl (args_cons (k := 1) rfl (args0))) ?_
  refine .regSeq ?_
  refine .o (.box hs rfl rfl ?_); intro b2 w hs
  refine .o (.box hs rfl rfl ?_); intro b3 w hs
  refine .o (.alloc hs Tryz.zeroValue24 rfl ?_); intro b4 w hs
  refine .nil (.regSeq (.y hs (zls [_, _] Tryz.isAgg24 Tryz.sizeOf24) ?_))
  refine .q hs (q_makeFunc (f := []) (c := [_]) rfl rfl) ?_
  obtain ⟨H1, hle1, r3, hs⟩ := hs.publish (b := b3) (by repeat constructor)
  refine .o (.call Tryz.call121 rfl (bound_only_spec (g := 163) (cap := [.pointer (some ⟨b3, 0, none⟩)]) (s := s) (fun _ l => !decide (l.S ∈ bs)) hs ⟨_, rfl, hl.mono hle1⟩ hlen Tryz.call163 (fun w σ k l _ hs => bound_Without_1 hs r3 (hb.mono hle1))) ?_); rintro _ w ⟨H2, hle2, ⟨u7, rfl, hL7⟩, hs⟩
  rw [pickTo_all] at hL7
  obtain ⟨a7, c7, rfl⟩ := RL.shape hL7
  refine .o (.stores (vs := [_, _]) hs rfl rfl Tryz.sizeOf24 ?_); intro w hs
  refine .nil ?_
  refine .ret ?_
  exact Fin.retD [] [] hs fun w hs => ⟨_, results1 Tryz.results109 (rcells (vs := [_, _]) hs rfl Tryz.isAgg24 Tryz.sizeOf24), H2, hle1.trans hle2, ⟨_, rfl, hL7⟩, hs.out⟩
end Go.Proofs.YtiiokdeehlfeeaaGreat

namespace Go.Proofs.YtiiokdeehlfeeaaGreat
open Go.MW
theorem slices_Sort_own {H : Heap} {w : World} {σ : List Ent} {b cap : Nat} {xs : List Int} {sp : List Value} (hs : St H w (.blk b (Is xs ++ sp) :: σ)) (hl : xs.length ≤ 17592186044416) :
    Cl Tryz.prog 192 [.slice (some ⟨b, 0, none⟩) xs.length cap] w fun u w' => u = .tuple #[] ∧ St H w' (.blk b (Is (xs.mergeSort fun x y => decide (x ≤ y)) ++ sp) :: σ) :=
  (srt_Sort b 0 cap xs w hs.holds (hs.lt .here) (by omega)).mono fun e w' ⟨he, m, os, hw⟩ => ⟨_, he, rfl, by
    rw [hw]
    exact (hs.putRow (List.length_mergeSort _)).grow os⟩
theorem slices_Sort_none {H : Heap} {w : World} {σ : List Ent} {a : Option Addr} {cap : Nat} (hs : St H w σ) :
    Cl Tryz.prog 192 [.slice a 0 cap] w fun u w' => u = .tuple #[] ∧ St H w' σ :=
  (srt_Sort_none a cap w).mono fun e w' ⟨he, hw⟩ => ⟨_, he, rfl, by rw [hw]; exact hs⟩
theorem slices_Compact_own {H : Heap} {w : World} {σ : List Ent} {b cap : Nat} {xs : List Int} {sp : List Value} (hs : St H w (.blk b (Is xs ++ sp) :: σ)) (hl : xs.length ≤ 17592186044416) (hcap : xs.length ≤ cap) :
    Cl Tryz.prog 193 [.slice (some ⟨b, 0, none⟩) xs.length cap] w fun u w' => u = .slice (some ⟨b, 0, none⟩) (Go.Lib.compact xs).length cap ∧ St H w' (.blk b (Is (Go.Lib.compact xs) ++ (Is (List.replicate (xs.length - (Go.Lib.compact xs).length) 0) ++ sp)) :: σ) :=
  (srt_Compact b 0 cap xs w hs.holds (by omega) hcap).mono fun e w' ⟨he, m, hw⟩ => ⟨_, he, rfl, by
    rw [hw]
    have h := Go.Lib.compact_length_le xs
    have := hs.putRow (m := m) (ys := Go.Lib.compact xs ++ List.replicate (xs.length - (Go.Lib.compact xs).length) 0) (by simp; omega)
    have e2 : Is (Go.Lib.compact xs ++ List.replicate (xs.length - (Go.Lib.compact xs).length) 0) = Is (Go.Lib.compact xs) ++ Is (List.replicate (xs.length - (Go.Lib.compact xs).length) 0) := List.map_append
    rw [e2, List.append_assoc] at this
    exact this⟩
theorem slices_Compact_none {H : Heap} {w : World} {σ : List Ent} {a : Option Addr} {cap : Nat} (hs : St H w σ) :
    Cl Tryz.prog 193 [.slice a 0 cap] w fun u w' => u = .slice a 0 cap ∧ St H w' σ :=
  (srt_Compact_none a cap w).mono fun e w' ⟨he, hw⟩ => ⟨_, he, rfl, by rw [hw]; exact hs⟩
theorem bound_put_spec {H : Heap} {w : World} {σ : List Ent} {v : Value} {xs : List Int} {en : Ent} (hs : St H w (en :: σ)) (hO : OwnS 1 v (Is xs) en) (hl : xs.length ≤ 17592186044416) :
    Cl Tryz.prog 162 [v] w fun u w' => ∃ L en', OwnS 1 u (Is L) en' ∧ L.length ≤ xs.length ∧ RiseOf (fun x => x ∈ xs) L ∧ St H w' (en' :: σ) := by
  rcases hO with ⟨a, rfl, h0, rfl⟩ | ⟨b, len, cap, sp, rfl, rfl, h3, h4, h5⟩
  · have hx : xs = [] := by simpa using h0
    subst hx
    refine Cl.of Tryz.func162 rfl Tryz.ntmps162 (by simp) (args_cons (k := 0) rfl (args0)) ?_
    refine .regSeq (.z zg (.nil (.regSeq (.z zm ?_))))
    refine .o (.call Tryz.call192 rfl (slices_Sort_none hs) ?_); rintro _ w ⟨rfl, hs⟩
    refine .nil (.regSeq (.z zm ?_))
    refine .o (.call Tryz.call193 rfl (slices_Compact_none hs) ?_); rintro _ w ⟨rfl, hs⟩
    refine .z zg (.nil ?_)
    refine .ret (Fin.ret1 Tryz.results162 rfl ?_)
    exact ⟨[], _, .nil 1 a, by simp, .nil (by simp), hs.out⟩
  · obtain rfl : len = xs.length := by simpa using h3.symm
    refine Cl.of Tryz.func162 rfl Tryz.ntmps162 (by simp) (args_cons (k := 0) rfl (args0)) ?_
    refine .regSeq (.z zg (.nil (.regSeq (.z zm ?_))))
    refine .o (.call Tryz.call192 rfl (slices_Sort_own hs hl) ?_); rintro _ w ⟨rfl, hs⟩
    refine .nil (.regSeq (.z zm ?_))
    have hml : (xs.mergeSort fun x y => decide (x ≤ y)).length = xs.length := List.length_mergeSort _
    rw [← hml]
    refine .o (.call Tryz.call193 rfl (slices_Compact_own hs (by omega) (by omega)) ?_); rintro _ w ⟨rfl, hs⟩
    refine .z zg (.nil ?_)
    refine .ret (Fin.ret1 Tryz.results162 rfl ?_)
    have hcl := Go.Lib.compact_length_le (xs.mergeSort fun x y => decide (x ≤ y))
    have h4' : xs.length + sp.length = cap := by simpa using h4
    exact ⟨_, _, .inr ⟨b, _, cap, Is (List.replicate ((xs.mergeSort fun x y => decide (x ≤ y)).length - (Go.Lib.compact (xs.mergeSort fun x y => decide (x ≤ y))).length) 0) ++ sp, rfl, rfl, by simp, by simp; omega, by omega⟩, by omega, sorted_rise, hs⟩
theorem bound_Sources_spec {H : Heap} {w : World} {σ : List Ent} {v : Value} {s : Syst} (hs : St H w σ) (hr : RSy H v s) (hlen : s.lims.length ≤ 4398046510976) :
    Cl Tryz.prog 107 [v] w fun u w' => ∃ L en, OwnS 1 u (Is L) en ∧ L.length ≤ s.lims.length ∧ RiseOf (SrcS s.lims) L ∧ St H w' (en :: σ) := by
  obtain ⟨ul, rfl, hl⟩ := hr
  obtain ⟨al, cl, rfl⟩ := RL.shape hl
  refine Cl.of Tryz.func107 rfl Tryz.ntmps107 (by simp) (args_cons (k := 0) rfl (args0)) ?_
  refine .regSeq ?_
  refine .o (.box hs rfl rfl ?_); intro b1 w hs
  refine .z zg (.nil (.regSeq (.z zg (.nil (.seq (.regSeq (.z (zfa fa_api_System_1) (.y hs (zld Tryz.isAgg22) (.z (zlen Tryz.runUnderlying22) ?_)))))))))
  refine .z zm (.nil ?_)
  refine .for (N := s.lims.length) (J := fun k fr w => ∃ v3 en, OwnS 1 v3 (Is ((s.lims.take k).map Lim.S)) en ∧ fr = [(3, v3), (7, .slice al s.lims.length cl)] ∧ St H w (en :: σ)) (by omega) ?_ ?_ ?_
  · exact .mk ⟨_, _, .nil 1 none, rfl, hs.nul.sub (by repeat (first | exact Sub.refl _ | constructor | apply Sub.weaken))⟩
  · rintro k fr w hk ⟨v3, en, hO, rfl, hs⟩
    obtain ⟨x, hx⟩ := nth (l := s.lims) hk
    obtain ⟨a3, l3, c3, rfl, h3⟩ := hO.shape
    refine .block (.regSeq ?_)
    refine .ixX hs hl rfl rfl Tryz.runUnderlying22 Tryz.sizeOf157 hx rfl ?_; intro b11 o11 hc11
    refine .q hs (q_loadsR (vs := x.c) rfl Tryz.isAgg157 Tryz.sizeOf157 hc11) ?_
    refine .o (.alloc hs Tryz.zeroValue157 rfl ?_); intro b5 w hs
    refine .o (.stores (vs := x.c) hs rfl rfl Tryz.sizeOf157 ?_); intro w hs
    refine .nil (.region (.z zm (.z (zfa fa_api_Limit_3) (.y hs (zld Tryz.isAgg3) ?_))))
    refine .o (.buildSlice (cells := [_]) hs bls_sl_int_1 rfl rfl ?_); intro b16 w hs
    refine .o (.append (ys := Is [x.S]) hs app_sl_int_int rfl rfl hO (.own .here rfl rfl) (Is_cell _) (fun l' h => by simp at h; omega) ?_); intro v17 en17 w hO2 hs
    rw [← List.map_append] at hO2
    refine .z zg (.nil ?_)
    refine nB (nT ?_)
    exact .mk ⟨_, _, by rw [take_snoc hx, List.map_append]; exact hO2, rfl, hs.sub (by repeat (first | exact Sub.refl _ | constructor | apply Sub.weaken))⟩
  · rintro fr w ⟨v3, en, hO, rfl, hs⟩
    rw [List.take_length] at hO
    refine nT ?_
    refine .regSeq (.z zm ?_)
    refine .o (.call Tryz.call162 rfl (bound_put_spec hs hO (by rw [List.length_map]; omega)) ?_); rintro v20 w ⟨L, en', hO', hL, hR, hs⟩
    rw [List.length_map] at hL
    refine .z zg (.nil ?_)
    refine .ret (Fin.ret1 Tryz.results107 rfl ?_)
    exact ⟨L, en', hO', hL, hR.congr fun x => by simp [SrcS], hs⟩
end Go.Proofs.YtiiokdeehlfeeaaGreat

namespace Go.Proofs.YtiiokdeehlfeeaaGreat
open Go.MW
theorem slices_IndexFunc_own {H : Heap} {w : World} {σ : List Ent} {v : Value} {en : Ent} {xs : List Int} {g : Nat} {cap : List Value} (q : Int → Bool) (hs : St H w (en :: σ)) (hO : OwnS 1 v (Is xs) en) (hl : xs.length ≤ 17592186044416) (hc : ∀ args w, (callFunc g args).run Tryz.prog w = .ok (.enter g args) w)
    (hp : ∀ H' w σ (n : Int), n ∈ xs → HLe H H' → St H' w σ → Cl Tryz.prog g ([I n] ++ cap) w fun u w' => ∃ H1, HLe H' H1 ∧ u = .bool (q n) ∧ St H1 w' σ) :
    Cl Tryz.prog 161 [v, .func (.func g) #[] cap.toArray] w fun u w' => ∃ H1 i, HLe H H1 ∧ u = I i ∧ ((i = -1 ∧ ∀ x ∈ xs, q x = false) ∨ (∃ (k : Nat) (x : Int), i = k ∧ xs[k]? = some x ∧ q x = true ∧ ∀ j < k, ∀ y, xs[j]? = some y → q y = false)) ∧ St H1 w' (en :: σ) := by
  obtain ⟨a, c, rfl⟩ := hO.shapeI
  refine Cl.of Tryz.func161 rfl Tryz.ntmps161 (by simp) (args_cons (k := 0) rfl (args_cons (k := 1) rfl (args0))) ?_
  refine .regSeq (.z zg (.nil (.seq (.regSeq (.z zm (.z (zlen Tryz.runUnderlying25) (.z zm (.nil ?_))))))))
  refine .for (N := xs.length) (J := fun k fr w => fr = [(1, .func (.func g) #[] cap.toArray), (0, .slice a xs.length c)] ∧ ∃ H1, HLe H H1 ∧ (∀ j < k, ∀ y, xs[j]? = some y → q y = false) ∧ St H1 w (en :: σ)) (by omega) ?_ ?_ ?_
  · exact .mk ⟨rfl, H, HLe.refl H, fun j hj => by omega, hs⟩
  · rintro k fr w hk ⟨rfl, H1, hle1, hno, hs⟩
    have hx := gi_get hk
    obtain ⟨b, c', sp, hv, rfl, _⟩ := hO.blk (by omega)
    cases hv
    refine .block (.regSeq (.z zm (.z zg (.nil (.regSeq (.z zm (.z zm (.z zm (.z (zix Tryz.runUnderlying25 Tryz.sizeOf3) ?_)))))))))
    refine .q hs (q_load rfl Tryz.isAgg3 (hv := Is_gi_sp hk sp)) ?_
    refine .o (.callG (first := []) (cap := cap) rfl rfl hc (hp _ _ _ (gi xs k) (List.mem_of_getElem? hx) hle1 hs) ?_); rintro _ w ⟨H2, hle2, rfl, hs⟩
    refine .nil ?_
    refine (.cond rfl (fun hc16 => ?_) (fun hc16 => ?_))
    · refine .regSeq (.z zm (.z zg (.nil ?_)))
      refine .ret (rB (rT (rB (rT (Fin.ret1 Tryz.results161 rfl ?_)))))
      exact ⟨H2, _, hle1.trans hle2, rfl, .inr ⟨k, _, rfl, hx, hc16, hno⟩, hs⟩
    · refine .skip ?_
      refine nB (nT ?_)
      exact .mk ⟨rfl, H2, hle1.trans hle2, upto_succ hno hx hc16, hs⟩
  · rintro fr w ⟨rfl, H1, hle1, hno, hs⟩
    refine nT ?_
    refine .regSeq (.z zg (.nil ?_))
    refine .ret (Fin.ret1 Tryz.results161 rfl ?_)
    exact ⟨H1, _, hle1, rfl, .inl ⟨rfl, fun x hx => by
      obtain ⟨j, hj⟩ := List.getElem?_of_mem hx
      exact hno j (List.getElem?_eq_some_iff.1 hj).1 x hj⟩, hs⟩
set_option maxHeartbeats 1000000 in
theorem slices_DeleteFunc_spec {H : Heap} {w : World} {σ : List Ent} {v : Value} {en : Ent} {xs : List Int} {g : Nat} {cap : List Value} (q : Int → Bool) (hs : St H w (en :: σ)) (hO : OwnS 1 v (Is xs) en) (hl : xs.length ≤ 17592186044416) (hc : ∀ args w, (callFunc g args).run Tryz.prog w = .ok (.enter g args) w)
    (hp : ∀ H' w σ (n : Int), n ∈ xs → HLe H H' → St H' w σ → Cl Tryz.prog g ([I n] ++ cap) w fun u w' => ∃ H1, HLe H' H1 ∧ u = .bool (q n) ∧ St H1 w' σ) :
    Cl Tryz.prog 106 [v, .func (.func g) #[] cap.toArray] w fun u w' => ∃ H1 en', HLe H H1 ∧ OwnS 1 u (Is (xs.filter fun x => !q x)) en' ∧ St H1 w' (en' :: σ) := by
  obtain ⟨a, c, rfl⟩ := hO.shapeI
  refine Cl.of Tryz.func106 rfl Tryz.ntmps106 (by simp) (args_cons (k := 0) rfl (args_cons (k := 1) rfl (args0))) ?_
  refine .regSeq (.z zg (.nil (.regSeq (.z zm (.z zm ?_)))))
  refine .o (.call Tryz.call161 rfl (slices_IndexFunc_own q hs hO hl hc hp) ?_); rintro _ w ⟨H1, i0, hle1, rfl, hcase, hs⟩
  refine .z zg (.nil (.seq (.regSeq (.z zm (.z zeql (.nil ?_))))))
  refine (.condD rfl (fun hc12 => ?_) (fun hc12 => ?_))
  · refine .regSeq (.z zm (.z zg (.nil ?_)))
    refine .ret (rT (Fin.ret1 Tryz.results106 rfl ?_))
    have hno : ∀ x ∈ xs, q x = false := by
      rcases hcase with ⟨_, h⟩ | ⟨k, x, h, _⟩
      · exact h
      · omega
    have e : xs.filter (fun x => !q x) = xs := List.filter_eq_self.2 fun x hx => by simp [hno x hx]
    exact ⟨H1, en, hle1, by rw [e]; exact hO, hs⟩
  · refine .skip ?_
    refine nT ?_
    refine .seq (.regSeq (.z zm ?_))
    obtain ⟨k0, x0, rfl, hx0, hq0, hno⟩ : ∃ (k : Nat) (x : Int), i0 = k ∧ xs[k]? = some x ∧ q x = true ∧ ∀ j < k, ∀ y, xs[j]? = some y → q y = false := hcase.resolve_left fun h => hc12 h.1
    have hk0 := (List.getElem?_eq_some_iff.1 hx0).1
    obtain ⟨b, c', sp, hv, rfl, hc'⟩ := hO.blk (by omega)
    cases hv
    refine .z zadd (.z zg (.nil (.block ?_)))
    refine .loop (fun p : Nat × Nat => ⟨42, [], [(5, I (p.1 : Int)), (6, I (p.2 : Int)), (1, .func (.func g) #[] cap.toArray), (0, .slice (some ⟨b, 0, none⟩) xs.length c)]⟩)
      (fun p w => k0 < p.2 ∧ ∃ Y H1, HLe H H1 ∧ DelI q xs Y p.1 p.2 ∧ St H1 w (.blk b (Is Y ++ sp) :: σ))
      (fun p => xs.length - p.2) (k0, k0 + 1) (.cons rfl (.consI rfl (by dsimp only; omega) (by repeat (first | exact .nil rfl rfl | refine .cons rfl ?_))))
      ⟨by dsimp only; omega, xs, H1, hle1, .start hx0 hq0 hno, hs⟩ ?_
    clear hs hle1 hcase
    rintro ⟨i, j⟩ w ⟨hkj, Y, H1, hle1, hD, hs⟩
    dsimp only at hkj hD ⊢
    have hYl := hD.len
    have hij := hD.le
    have hjl := hD.jl
    have hilt := hD.lt hx0 hq0 hkj
    refine .seq (.regSeq (.z zm (.z zm (.z (zlen Tryz.runUnderlying25) (.z zlss (.nil ?_))))))
    refine (.condD rfl (fun hc19 => ?_) (fun hc19 => ?_))
    · refine .skip ?_
      refine nT ?_
      refine .seq (.block (.regSeq (.z zm (.z zm ?_))))
      have hj : j < Y.length := by omega
      have hx : xs[j]? = some (gi Y j) := by rw [hD.rest j (Nat.le_refl _)]; exact gi_get (by omega)
      refine .z (zix Tryz.runUnderlying25 Tryz.sizeOf3) ?_
      refine .q hs (q_load rfl Tryz.isAgg3 (hv := Is_gi_sp hj sp)) ?_
      refine .z zg (.nil (.regSeq (.z zm (.z zm ?_))))
      refine .o (.callG (first := []) (cap := cap) rfl rfl hc (hp _ _ _ (gi Y j) (List.mem_of_getElem? hx) hle1 hs) ?_); rintro _ w ⟨H2, hle2, rfl, hs⟩
      refine .z znot (.nil ?_)
      refine (.cond rfl (fun hc29 => ?_) (fun hc29 => ?_))
      · refine .regSeq (.z zm (.z zm (.z zm (.z (zix Tryz.runUnderlying25 Tryz.sizeOf3) ?_))))
        refine .o (.store hs rfl rfl Tryz.sizeOf3 ?_ .here (blt_Is_sp (show i < Y.length by omega) sp) (Is_set_sp (show i < Y.length by omega) sp _)); intro w hs
        refine .nil (.region (.z zm (.z zadd (.z zg (.nil ?_)))))
        refine nB (nT ?_)
        refine .region (.z zm (.z zadd (.z zg (.nil ?_))))
        refine nT ?_
        exact ⟨(i + 1, j + 1), .consI rfl (by dsimp only; omega) (.consI rfl (by dsimp only; omega) (by repeat (first | exact .nil rfl rfl | refine .cons rfl ?_))), ⟨by dsimp only; omega, _, H2, hle1.trans hle2, hD.keep hx (by simpa using hc29), hs⟩, by dsimp only; omega⟩
      · refine .skip ?_
        refine nB (nT ?_)
        refine .region (.z zm (.z zadd (.z zg (.nil ?_))))
        refine nT ?_
        exact ⟨(i, j + 1), .cons rfl (.consI rfl (by dsimp only; omega) (by repeat (first | exact .nil rfl rfl | refine .cons rfl ?_))), ⟨by dsimp only; omega, _, H2, hle1.trans hle2, hD.skip hx (by simpa using hc29), hs⟩, by dsimp only; omega⟩
    · refine .exit ?_
      refine xT (xT (xB (nT ?_)))
      refine .regSeq (.z zm (.z zm ?_))
      obtain rfl : xs.length = j := by omega
      refine .q hs (q_sliceLI (k := i) rfl rfl Tryz.runUnderlying25 Tryz.sizeOf3 (by omega) (by omega)) ?_
      rw [show 0 + i * 1 = i by omega]
      refine .o (.clearI (c := Is Y ++ sp) hs rfl Tryz.runUnderlying25 Tryz.zeroValue3 (by simp; omega) ?_); intro w hs
      rw [hD.done sp] at hs
      have hil := hD.il
      rw [List.take_length] at hil
      refine .nil (.regSeq (.z zm (.z zm ?_)))
      refine .q hs (q_sliceHI (k := i) rfl rfl Tryz.runUnderlying25 Tryz.sizeOf3 (by omega)) ?_
      refine .z zg (.nil ?_)
      refine .ret (Fin.ret1 Tryz.results106 rfl ?_)
      exact ⟨H1, _, hle1, .inr ⟨b, i, c, List.replicate (xs.length - i) (I 0) ++ sp, rfl, rfl, by simp [hil], by simp [← hil]; omega, by omega⟩, hs⟩
theorem bound_span_spec {H : Heap} {w : World} {σ : List Ent} {v vw : Value} {s : Syst} {ws : List Int} (hs : St H w σ) (hr : RSy H v s) (hrw : RI H vw ws) :
    Cl Tryz.prog 105 [v, vw] w fun u w' => ∃ H1 lo hi e, HLe H H1 ∧ u = .agg #[I lo, I hi, I e] ∧ RangeR s ws lo hi e ∧ St H1 w' σ := by
  obtain ⟨ul, rfl, hl⟩ := hr
  obtain ⟨al, cl, rfl⟩ := RL.shape hl
  refine Cl.of Tryz.func105 rfl Tryz.ntmps105 (by simp) (args_cons (k := 0) rfl (args_cons (k := 1) rfl (args0))) ?_
  refine .regSeq ?_
  refine .o (.box hs rfl rfl ?_); intro b2 w hs
  refine .o (.alloc hs Tryz.zeroValue143 rfl ?_); intro b4 w hs
  refine .nil (.regSeq (.y hs (zls [_, _] Tryz.isAgg24 Tryz.sizeOf24) (.z zm ?_)))
  refine .o (.call Tryz.call73 rfl (bound_Range_spec (s := s) hs ⟨_, rfl, hl⟩ hrw) ?_); rintro _ w ⟨H1, lo, hi, e, hle1, rfl, hR, hs⟩
  refine .z zm (.z zex (.z zex (.z zex (.z zg (.z zg (.z zg (.nil (.regSeq (.z zm ?_)))))))))
  refine .z zm (.z zm (.z (zbd [_, _, _] bld_bound_told) ?_))
  refine .o (.stores (vs := [_, _, _]) hs rfl rfl Tryz.sizeOf143 ?_); intro w hs
  refine .nil ?_
  refine .ret ?_
  exact Fin.retD [] [] hs fun w hs => ⟨_, results1 Tryz.results105 (rcells (vs := [_, _, _]) hs rfl Tryz.isAgg143 Tryz.sizeOf143), H1, lo, hi, e, hle1, rfl, hR, hs.out⟩
set_option maxRecDepth 100000 in
theorem told_stood : Tryz.prog.stoodInHeld 143 = false := by kernel_rfl
set_option maxRecDepth 100000 in
theorem told_guard : Tryz.prog.eqGuardType Tryz.prog.depth 143 = false := by kernel_rfl
theorem RangeR.told {s : Syst} {ws : List Int} {a b e lo hi : Int} (h : RangeR s ws a b e) : (a = lo ∧ b = hi ∧ e = 0) ↔ RangeR s ws lo hi 0 := by
  constructor
  · rintro ⟨rfl, rfl, rfl⟩; exact h
  · intro g
    exact h.uniq g
set_option maxRecDepth 4000 in
theorem bound_Moves_1 {H : Heap} {w : World} {σ : List Ent} {n lo hi : Int} {b2 b3 b6 : Nat} {s : Syst} {ws : List Int} {ul vw : Value} (hs : St H w σ) (r2 : Row H b2 [I s.many, ul]) (hl : RL H ul s.lims) (r3 : Row H b3 [vw]) (hw : RI H vw ws) (r6 : Row H b6 [I lo, I hi, I 0]) (hlen : s.lims.length ≤ 4398046510976) :
    Cl Tryz.prog 108 [I n, .pointer (some ⟨b2, 0, none⟩), .pointer (some ⟨b3, 0, none⟩), .pointer (some ⟨b6, 0, none⟩)] w fun u w' => ∃ H1 bb, HLe H H1 ∧ u = .bool bb ∧ (bb = true ↔ RangeR (s.wo [n]) ws lo hi 0) ∧ St H1 w' σ := by
  obtain ⟨al, cl, rfl⟩ := RL.shape hl
  obtain ⟨aw, cw, rfl⟩ := RI.shape hw
  have c2 := r2.cells 0 [I s.many, .slice al s.lims.length cl]
  have c3 := r3.at 0
  have c6 := r6.cells 0 [I lo, I hi, I 0]
  refine Cl.of Tryz.func108 rfl Tryz.ntmps108 (by simp) (args_cons (k := 0) rfl (args_cons (k := 1) rfl (args_cons (k := 2) rfl (args_cons (k := 3) rfl (args0))))) ?_
  refine .regSeq (.z zg (.nil ?_))
  refine .seq (.draw mix rfl hs ?_); intro w hs
  refine .ys 0 rfl hs [_, _] Tryz.isAgg24 Tryz.sizeOf24 ?_; refine .z 1 rfl zm ?_
  refine .r (i := 4) hs rfl (by kernel_rfl) .none (q_loadR rfl Tryz.isAgg25 c3) ?_
  refine .r (i := 6) hs rfl (by kernel_rfl) .none (q_loadsR (vs := [I lo, I hi, I 0]) rfl Tryz.isAgg143 Tryz.sizeOf143 c6) ?_
  refine .e1 (i := 2) (by kernel_rfl) rfl rfl .none hs ?_
  refine .buildSlice (cells := [_]) hs bls_sl_int_1 rfl rfl ?_; intro b8 w hs
  refine .go ?_
  refine .e1 (i := 3) (by kernel_rfl) rfl rfl .none hs ?_
  obtain ⟨H1, hle1, r8, hs⟩ := OwnS.publishI (xs := [n]) (v := .slice (some ⟨b8, 0, none⟩) 1 1) (.full (len := 1) rfl) (by simp) hs (by repeat constructor)
  refine .call Tryz.call109 rfl (bound_Without_spec (s := s) hs ⟨_, rfl, hl.mono hle1⟩ r8 hlen) ?_; rintro _ w ⟨H2, hle2, hS9, hs⟩
  have hle02 := hle1.trans hle2
  refine .go ?_
  refine .e1 (i := 5) (by kernel_rfl) rfl rfl .none hs ?_
  refine .call Tryz.call105 rfl (bound_span_spec hs hS9 (hw.mono hle02)) ?_; rintro _ w ⟨H3, a, b, e, hle3, rfl, hR, hs⟩
  have hle03 := hle02.trans hle3
  refine .go ?_
  refine .p (i := 7) rfl (by kernel_rfl) .none (q_eqS3 rfl rfl Tryz.runUnderlying143 told_stood told_guard (fun f hf => by
    simp only [List.mem_cons, List.not_mem_nil, or_false] at hf
    rcases hf with rfl | rfl | rfl <;> first | exact ⟨by decide, Tryz.runUnderlying3, Tryz.isAgg3⟩ | exact ⟨by decide, Tryz.runUnderlying30, Tryz.isAgg30⟩)) ?_
  refine .z 8 rfl zg ?_; refine .done (by kernel_rfl) hs ?_
  refine .ret (Fin.ret1 Tryz.results108 rfl ?_)
  exact ⟨H3, _, hle03, rfl, by rw [decide_eq_true_eq]; exact RangeR.told hR, hs.out⟩
open Classical in
theorem bound_Moves_spec {H : Heap} {w : World} {σ : List Ent} {v vw : Value} {s : Syst} {ws : List Int} (hs : St H w σ) (hr : RSy H v s) (hrw : RI H vw ws) :
    Cl Tryz.prog 43 [v, vw] w fun u w' => ∃ H1 vx L e, HLe H H1 ∧ u = .tuple #[vx, I e] ∧ RI H1 vx L ∧ MovesR s ws L e ∧ St H1 w' σ := by
  obtain ⟨ul, rfl, hl⟩ := hr
  obtain ⟨al, cl, rfl⟩ := RL.shape hl
  obtain ⟨aw, cw, rfl⟩ := RI.shape hrw
  refine Cl.of Tryz.func43 rfl Tryz.ntmps43 (by simp) (args_cons (k := 0) rfl (args_cons (k := 1) rfl (args0))) ?_
  refine .regSeq ?_
  refine .o (.box hs rfl rfl ?_); intro b2 w hs
  refine .o (.box hs rfl rfl ?_); intro b3 w hs
  refine .z zg (.z zg (.nil (.regSeq (.y hs (zls [_, _] Tryz.isAgg24 Tryz.sizeOf24) (.y hs (zld Tryz.isAgg25) ?_)))))
  refine .o (.call Tryz.call105 rfl (bound_span_spec (s := s) hs ⟨_, rfl, hl⟩ hrw) ?_); rintro _ w ⟨H1, lo, hi, e, hle1, rfl, hR, hs⟩
  refine .o (.alloc hs Tryz.zeroValue143 rfl ?_); intro b6 w hs
  refine .o (.stores (vs := [_, _, _]) hs rfl rfl Tryz.sizeOf143 ?_); intro w hs
  refine .nil (.seq (.regSeq (.z (zfa fa_bound_told_2) (.y hs (zld Tryz.isAgg30) (.z zneq (.nil ?_))))))
  refine (.condN rfl (fun hc12 => ?_) (fun hc12 => ?_))
  · refine .seq (.draw mix rfl hs ?_); intro w hs
    refine .z 0 rfl (zfa fa_bound_told_2) ?_; refine .y 1 rfl hs Tryz.isAgg30 ?_; refine .z 2 rfl zg ?_; refine .z 3 rfl zg ?_; refine .done (by kernel_rfl) hs ?_
    refine .ret (rT (Fin.ret2 Tryz.results43 rfl rfl ?_))
    exact ⟨H1, _, [], _, hle1, rfl, RS.nil H1 1 none 0, .bad hR hc12, hs.out⟩
  · refine .skip ?_
    refine nT ?_
    refine .regSeq (.y hs (zls [_, _] Tryz.isAgg24 Tryz.sizeOf24) ?_)
    obtain rfl : e = 0 := hc12
    have hok := (askErr_ok hR.ask).1
    have hll := hok.len
    refine .o (.call Tryz.call107 rfl (bound_Sources_spec (s := s) hs ⟨_, rfl, hl.mono hle1⟩ (by omega)) ?_); rintro v16 w ⟨L, en, hO, hLl, hRise, hs⟩
    refine .q hs (q_makeFunc (f := []) (c := [_, _, _]) rfl rfl) ?_
    obtain ⟨H2, hle2, r2, hs⟩ := hs.publish (b := b2) (by repeat constructor)
    obtain ⟨H3, hle3, r3, hs⟩ := hs.publish (b := b3) (by repeat constructor)
    obtain ⟨H4, hle4, r6, hs⟩ := hs.publish (b := b6) (by repeat constructor)
    have hle04 := hle1.trans (hle2.trans (hle3.trans hle4))
    refine .o (.call Tryz.call106 rfl (slices_DeleteFunc_spec (g := 108) (cap := [.pointer (some ⟨b2, 0, none⟩), .pointer (some ⟨b3, 0, none⟩), .pointer (some ⟨b6, 0, none⟩)]) (fun n => decide (RangeR (s.wo [n]) ws lo hi 0)) hs hO (by omega) Tryz.call108
      (fun H' w σ n _ hle hs => (bound_Moves_1 (s := s) (ws := ws) (lo := lo) (hi := hi) hs ((r2.mono (hle3.trans hle4)).mono hle) (hl.mono (hle04.trans hle)) ((r3.mono hle4).mono hle) (hrw.mono (hle04.trans hle)) (r6.mono hle) (by omega)).mono fun u w' ⟨H1, bb, g1, g2, g3, g4⟩ => ⟨H1, g1, by rw [g2]; congr 1; rw [Bool.eq_iff_iff, decide_eq_true_eq]; exact g3, g4⟩)) ?_); rintro v18 w ⟨H5, en5, hle5, hO5, hs⟩
    refine .z zg (.z zg (.nil ?_))
    refine .ret (Fin.ret2 Tryz.results43 rfl rfl ?_)
    have hfl := List.length_filter_le (fun n => !decide (RangeR (s.wo [n]) ws lo hi 0)) L
    obtain ⟨H6, hle6, hR6, hs⟩ := OwnS.publishI hO5 (by omega) hs .here
    exact ⟨H6, _, _, 0, hle04.trans (hle5.trans hle6), rfl, hR6, .ok hR ((hRise.filter _).congr fun x => by simp), hs.out⟩
end Go.Proofs.YtiiokdeehlfeeaaGreat

namespace Go.Proofs.YtiiokdeehlfeeaaGreat
open Go.MW
def backL (L : List Int) : List (List Value) := (List.range L.length).map fun j => [I ((L.length - 1 - j : Nat) : Int), I (gi L (L.length - 1 - j))]
theorem backL_length (L : List Int) : (backL L).length = L.length := by simp [backL]
theorem backL_get {L : List Int} {j : Nat} (h : j < (backL L).length) : (backL L)[j] = [I ((L.length - 1 - j : Nat) : Int), I (gi L (L.length - 1 - j))] := by simp [backL]
theorem slices_Backward_1_iter {H : Heap} {b : Nat} {v : Value} {L : List Int} (hb : Row H b [v]) (hr : RI H v L) : Iter Tryz.prog 173 [.pointer (some ⟨b, 0, none⟩)] H (backL L) := by
  intro l II Ix _ _ hy H0 σb0 σf w hle hI0 hs
  obtain ⟨a, c, rfl⟩ := RI.shape hr
  have hlen := (RI.len hr).2.2
  have hb0 : cellAt H0 b 0 = some (.slice a L.length c) := cellAt.mono (hb.at 0) hle
  refine Cl.of Tryz.func173 rfl Tryz.ntmps173 (by simp) (args_cons (k := 0) rfl (args_cons (k := 1) rfl (args0))) ?_
  refine .regSeq (.y hs (zld Tryz.isAgg25) (.z (zlen Tryz.runUnderlying25) (.z zsub (.z zg (.nil (.block ?_))))))
  refine .loop (fun j : Nat => ⟨19, [], [(3, I ((L.length : Int) - 1 - (j : Int))), (0, .func (.yield l) #[] #[]), (1, .pointer (some ⟨b, 0, none⟩))]⟩)
    (fun j w => j ≤ L.length ∧ ∃ H1 σb, HLe H H1 ∧ HLe H0 H1 ∧ II j H1 σb ∧ St H1 w (σb ++ σf)) (fun j => L.length - j) 0 (.consI rfl (by simp) (by repeat (first | exact .nil rfl rfl | refine .cons rfl ?_)))
    ⟨Nat.zero_le _, H0, σb0, hle, HLe.refl _, hI0, hs⟩ ?_
  clear hs hI0
  rintro j w ⟨hj, H1, σb, hle1, hle0, hI, hs⟩
  have hb1 : cellAt H1 b 0 = some (.slice a L.length c) := cellAt.mono hb0 hle0
  refine .seq (.regSeq (.z zm (.z zgeq (.nil ?_))))
  refine (.condD rfl (fun hc8 => ?_) (fun hc8 => ?_))
  · refine .skip ?_
    refine nT ?_
    refine .seq (.block (.regSeq (.z zm (.z zm (.y hs (zld Tryz.isAgg25) (.z zm ?_))))))
    refine .ixY hs (hr.mono hle1) rfl rfl Tryz.runUnderlying25 Tryz.sizeOf3 (gi_get (l := L) (i := L.length - 1 - j) (by omega)) (by omega) ?_; intro b15 o15 hc15
    refine .q hs (q_loadR rfl Tryz.isAgg3 hc15) ?_
    have hk' : j < (backL L).length := by rw [backL_length]; omega
    have hyd := hy j hk' H1 σb σf w hle1 hI hs
    rw [backL_get hk', show ((L.length - 1 - j : Nat) : Int) = (L.length : Int) - 1 - (j : Int) by omega] at hyd
    refine .o (.yield rfl rfl hyd ?_); rintro v17 w ⟨H2, σ2, g1, hs, g3⟩
    obtain ⟨bb, rfl, gT, gF⟩ := yd_bool g3
    refine .z znot (.nil ?_)
    refine (.cond rfl (fun hc18 => ?_) (fun hc18 => ?_))
    · refine .ret (rB (rT (rT (rB (Fin.ret0 Tryz.results173 ?_)))))
      exact ⟨H2, σ2, hle0.trans g1, hs, .inr (gF (by simpa using hc18))⟩
    · refine .skip ?_
      refine nB (nT ?_)
      refine .region (.z zm (.z zsub (.z zg (.nil ?_))))
      refine nT ?_
      exact ⟨j + 1, .consI rfl (by simp; omega) (by repeat (first | exact .nil rfl rfl | refine .cons rfl ?_)), ⟨by omega, H2, σ2, hle1.trans g1, hle0.trans g1, gT (by simpa using hc18), hs⟩, by omega⟩
  · refine .exit ?_
    refine xT (xT (xB ?_))
    obtain rfl : L.length = j := by omega
    exact Fin.end0 Tryz.results173 ⟨H1, σb, hle0, hs, .inl (by rw [backL_length]; exact hI)⟩
theorem slices_Backward_spec {H : Heap} {w : World} {σ : List Ent} {v : Value} {L : List Int} (hs : St H w σ) (hr : RI H v L) :
    Cl Tryz.prog 115 [v] w fun u w' => ∃ H1 b, HLe H H1 ∧ u = .func (.func 173) #[] #[.pointer (some ⟨b, 0, none⟩)] ∧ Iter Tryz.prog 173 [.pointer (some ⟨b, 0, none⟩)] H1 (backL L) ∧ St H1 w' σ := by
  obtain ⟨a, c, rfl⟩ := RI.shape hr
  refine Cl.of Tryz.func115 rfl Tryz.ntmps115 (by simp) (args_cons (k := 0) rfl (args0)) ?_
  refine .regSeq ?_
  refine .o (.box hs rfl rfl ?_); intro b1 w hs
  refine .z zg (.nil (.regSeq ?_))
  refine .q hs (q_makeFunc (f := []) (c := [_]) rfl rfl) ?_
  refine .z zg (.nil ?_)
  refine .ret (Fin.ret1 Tryz.results115 rfl ?_)
  obtain ⟨H1, g1, g2, hs⟩ := hs.publish .here
  exact ⟨H1, b1, g1, rfl, slices_Backward_1_iter g2 (hr.mono g1), hs⟩
theorem bound_Conflict_1 {H : Heap} {w : World} {σ : List Ent} {n m : Int} {b : Nat} (hs : St H w σ) (hb : Row H b [I m]) :
    Cl Tryz.prog 116 [I n, .pointer (some ⟨b, 0, none⟩)] w fun u w' => u = .bool (decide (n = m)) ∧ St H w' σ := by
  have hb0 : cellAt H b 0 = some (I m) := hb.at 0
  refine Cl.of Tryz.func116 rfl Tryz.ntmps116 (by simp) (args_cons (k := 0) rfl (args_cons (k := 1) rfl (args0))) ?_
  refine .regSeq (.z zg (.nil (.regSeq (.z zm (.y hs (zld Tryz.isAgg3) (.z zeql (.z zg (.nil ?_))))))))
  refine .ret (Fin.ret1 Tryz.results116 rfl ?_)
  exact ⟨rfl, hs⟩
set_option maxHeartbeats 1000000 in
theorem bound_Conflict_spec {H : Heap} {w : World} {σ : List Ent} {v : Value} {s : Syst} (hs : St H w σ) (hr : RSy H v s) :
    Cl Tryz.prog 45 [v] w fun u w' => ∃ H1 vx out e, HLe H H1 ∧ u = .tuple #[vx, I e] ∧ RI H1 vx out ∧ ConfR s out e ∧ St H1 w' σ := by
  obtain ⟨ul, rfl, hl⟩ := hr
  obtain ⟨al, cl, rfl⟩ := RL.shape hl
  refine Cl.of Tryz.func45 rfl Tryz.ntmps45 (by simp) (args_cons (k := 0) rfl (args0)) ?_
  refine .regSeq ?_
  refine .o (.box hs rfl rfl ?_); intro b1 w hs
  refine .z zg (.z zg (.nil (.seq (.regSeq (.y hs (zls [_, _] Tryz.isAgg24 Tryz.sizeOf24) ?_)))))
  refine .o (.call Tryz.call113 rfl (bound_Check_spec (s := s) hs ⟨_, rfl, hl⟩) ?_); rintro _ w ⟨rfl, hs⟩
  refine .z zg (.nil (.regSeq (.z zm (.z zneq (.nil ?_)))))
  refine (.condN rfl (fun hc12 => ?_) (fun hc12 => ?_))
  · refine .regSeq (.z zm (.z zg (.z zg (.nil ?_))))
    refine .ret (rT (?_))
    exact Fin.retD [] [] hs fun w hs => ⟨_, results2 Tryz.results45 rfl rfl, H, _, [], _, HLe.refl H, rfl, RS.nil H 1 none 0, .bad hc12, hs.out⟩
  · refine .skip ?_
    refine nT ?_
    refine .seq (.regSeq (.y hs (zls [_, _] Tryz.isAgg24 Tryz.sizeOf24) ?_))
    have hok : s.Ok := s.ok_iff.1 (by simpa using hc12)
    have hll := hok.len
    refine .o (.call Tryz.call114 rfl (bound_isSound_spec (s := s) hs hok ⟨_, rfl, hl⟩) ?_); rintro _ w ⟨H1, bb, hle1, rfl, hbb, hs⟩
    refine .nil ?_
    refine (.cond rfl (fun hc15 => ?_) (fun hc15 => ?_))
    · refine .regSeq (.z zg (.z zg (.nil ?_)))
      refine .ret (rT (?_))
      exact Fin.retD [] [] hs fun w hs => ⟨_, results2 Tryz.results45 rfl rfl, H1, _, [], _, hle1, rfl, RS.nil H1 1 none 0, .none hok (hbb.1 hc15), hs.out⟩
    · refine .skip ?_
      refine nT ?_
      refine .regSeq (.y hs (zls [_, _] Tryz.isAgg24 Tryz.sizeOf24) ?_)
      have hns : ¬ s.Sound := fun h => by rw [hbb.2 h] at hc15; cases hc15
      refine .o (.call Tryz.call107 rfl (bound_Sources_spec (s := s) hs ⟨_, rfl, hl.mono hle1⟩ (by omega)) ?_); rintro v17 w ⟨L, en, hO, hLl, hRise, hs⟩
      obtain ⟨a17, l17, c17, rfl, h17⟩ := hO.shape
      refine .o (.alloc hs Tryz.zeroValue25 rfl ?_); intro b5 w hs
      refine .o (.store hs rfl rfl Tryz.sizeOf25 ?_); intro w hs
      refine .nil (.seq (.regSeq (.y hs (zls [_, _] Tryz.isAgg24 Tryz.sizeOf24) ?_)))
      refine .o (.call Tryz.call107 rfl (bound_Sources_spec (s := s) hs ⟨_, rfl, hl.mono hle1⟩ (by omega)) ?_); rintro v19 w ⟨L', en', hO', hLl', hRise', hs⟩
      obtain rfl : L = L' := hRise.uniq hRise'
      obtain ⟨H2, hle2, hR19, hs⟩ := OwnS.publishI hO' (by omega) hs .here
      refine .o (.call Tryz.call115 rfl (slices_Backward_spec hs hR19) ?_); rintro _ w ⟨H3, b20, hle3, rfl, hit, hs⟩
      have hle03 := hle1.trans (hle2.trans hle3)
      refine .nil (.block ?_)
      refine .rangeFunc (gf := 173) (cap := [.pointer (some ⟨b20, 0, none⟩)]) (xs := backL L) (σb := [.blk b1 [I s.many, .slice al s.lims.length cl], .blk b5 [.slice a17 l17 c17], en]) (σf := σ) (hs.sub (by repeat (first | exact Sub.refl _ | constructor | apply Sub.weaken)) : St H3 w (.blk b1 _ :: .blk b5 _ :: en :: σ)) trivial rfl hit Tryz.call173 (fun x hx => by
          simp only [backL, List.mem_map] at hx
          obtain ⟨j, _, rfl⟩ := hx; rfl) rfl
        (I := fun j H' σb => ∃ (t : Syst) (ut vo : Value) (out : List Int) (en : Ent), σb = [.blk b1 [I t.many, ut], .blk b5 [vo], en] ∧ RL H' ut t.lims ∧ OwnS 1 vo (Is out) en ∧ out.length ≤ L.length ∧ t.Ok ∧ ConfI s L (L.length - j) t out) (Ix := fun _ _ _ => False)
        (fun j _ _ σ g1 ⟨t, ut, vo, out, en, g2, g3, g4⟩ => ⟨t, ut, vo, out, en, g2, g3.mono g1, g4⟩) (fun _ _ _ _ _ h => h)
        ⟨s, _, _, L, en, rfl, hl.mono hle03, hO, Nat.le_refl _, hok, .start⟩ ?_ ?_ (fun D c H' σb w _ h _ => h.elim)
      · rintro l j hj H4 σb2 σf2 w hle4 ⟨t, ut, vo, out, en, rfl, hut, hOo, hol, htok, hC⟩ hs ⟨rr, hrr⟩
        rw [backL_get hj]
        have hjL : j < L.length := by rw [backL_length] at hj; exact hj
        obtain ⟨at', ct, rfl⟩ := RL.shape hut
        obtain ⟨ao, lo, co, rfl, hlo⟩ := hOo.shape
        refine .region ?_
        refine .o (.alloc hs Tryz.zeroValue3 rfl ?_); intro b7 w hs
        refine .o (.store hs rfl rfl Tryz.sizeOf3 ?_); intro w hs
        refine .nil ?_
        refine nT ?_
        refine ⟨H4, [.blk b7 [I (gi L (L.length - 1 - j))], .blk b1 [I t.many, .slice at' t.lims.length ct], .blk b5 [.slice ao lo co], en], HLe.refl _, hs, ?_⟩; rintro w σf4 - hs
        refine .block (.regSeq (.y hs (zls [_, _] Tryz.isAgg24 Tryz.sizeOf24) (.y hs (zld Tryz.isAgg3) ?_)))
        refine .o (.buildSlice (cells := [_]) hs bls_sl_int_1 rfl rfl ?_); intro b25 w hs
        obtain ⟨H5, hle5, r25, hs⟩ := OwnS.publishI (xs := [gi L (L.length - 1 - j)]) (v := .slice (some ⟨b25, 0, none⟩) 1 1) (.full (len := 1) rfl) (by simp) hs (by repeat constructor)
        refine .o (.call Tryz.call109 rfl (bound_Without_spec (s := t) hs ⟨_, rfl, hut.mono hle5⟩ r25 (by have := htok.len; omega)) ?_); rintro _ w ⟨H6, hle6, ⟨u26, rfl, hL26⟩, hs⟩
        obtain ⟨a26, c26, rfl⟩ := RL.shape hL26
        refine .o (.alloc hs Tryz.zeroValue24 rfl ?_); intro b8 w hs
        refine .o (.stores (vs := [_, _]) hs rfl rfl Tryz.sizeOf24 ?_); intro w hs
        refine .nil (.regSeq (.y hs (zls [_, _] Tryz.isAgg24 Tryz.sizeOf24) ?_))
        refine .o (.call Tryz.call114 rfl (bound_isSound_spec (s := t.wo [gi L (L.length - 1 - j)]) hs (htok.wo _) ⟨_, rfl, hL26⟩) ?_); rintro _ w ⟨H7, b28, hle7, rfl, hb28, hs⟩
        have hle47 := hle5.trans (hle6.trans hle7)
        refine .z znot (.nil ?_)
        refine (.cond rfl (fun hc29 => ?_) (fun hc29 => ?_))
        · refine .regSeq (.y hs (zls [_, _] Tryz.isAgg24 Tryz.sizeOf24) ?_)
          refine .o (.stores (vs := [_, _]) hs rfl rfl Tryz.sizeOf24 ?_); intro w hs
          refine .nil (.region (.y hs (zld Tryz.isAgg25) ?_))
          refine .q hs (q_makeFunc (f := []) (c := [_]) rfl rfl) ?_
          obtain ⟨H8, hle8, r7, hs⟩ := hs.publish (b := b7) (by repeat constructor)
          replace hs : St H8 w (en :: .blk b1 [I t.many, .slice a26 (t.wo [gi L (L.length - 1 - j)]).lims.length c26] :: .blk b5 [.slice ao lo co] :: σf4) := hs.sub (by repeat (first | exact Sub.refl _ | constructor | apply Sub.weaken))
          refine .o (.call Tryz.call106 rfl (slices_DeleteFunc_spec (g := 116) (cap := [.pointer (some ⟨b7, 0, none⟩)]) (fun n => decide (n = gi L (L.length - 1 - j))) hs hOo (by omega) Tryz.call116
            (fun H' w σ n _ hle hs => (bound_Conflict_1 hs (r7.mono hle)).mono fun u w' ⟨g1, g2⟩ => ⟨H', HLe.refl _, g1, g2⟩)) ?_); rintro v33 w ⟨H9, en9, hle9, hO9, hs⟩
          obtain ⟨a33, l33, c33, rfl, h33⟩ := hO9.shape
          refine .o (.store hs rfl rfl Tryz.sizeOf25 ?_); intro w hs
          refine .nil ?_
          refine nB ?_
          have hfl := List.length_filter_le (fun n => !decide (n = gi L (L.length - 1 - j))) out
          have e : L.length - (j + 1) = L.length - 1 - j := by omega
          have hns' : ¬ (t.wo [gi L (L.length - 1 - j)]).Sound := fun h => by rw [hb28.2 h] at hc29; cases hc29
          exact ⟨H9, [.blk b1 [I t.many, .slice a26 (t.wo [gi L (L.length - 1 - j)]).lims.length c26], .blk b5 [.slice a33 l33 c33], en9], hle47.trans (hle8.trans hle9), (hs.sub (by repeat (first | exact Sub.refl _ | constructor | apply Sub.weaken)) : St H9 w (.blk b1 _ :: .blk b5 _ :: en9 :: σf4)), t.wo [gi L (L.length - 1 - j)], _, _, _, _, rfl, hL26.mono (hle7.trans (hle8.trans hle9)), hO9, by omega, htok.wo _, by
            rw [e]
            exact .drop (by rw [show L.length - 1 - j + 1 = L.length - j by omega]; exact hC) hns'⟩
        · refine .skip ?_
          refine nB ?_
          have e : L.length - (j + 1) = L.length - 1 - j := by omega
          have hsd' : (t.wo [gi L (L.length - 1 - j)]).Sound := hb28.1 (by simpa using hc29)
          exact ⟨H7, [.blk b1 [I t.many, .slice at' t.lims.length ct], .blk b5 [.slice ao lo co], en], hle47, (hs.sub (by repeat (first | exact Sub.refl _ | constructor | apply Sub.weaken)) : St H7 w (.blk b1 _ :: .blk b5 _ :: en :: σf4)), t, _, _, _, _, rfl, hut.mono hle47, hOo, hol, htok, by
            rw [e]
            exact .keep (by rw [show L.length - 1 - j + 1 = L.length - j by omega]; exact hC) hsd'⟩
      · rintro D H4 σb2 w hle4 ⟨t, ut, vo, out, en, rfl, hut, hOo, hol, htok, hC⟩ hs
        rw [backL_length, Nat.sub_self] at hC
        obtain ⟨ao, lo, co, rfl, hlo⟩ := hOo.shape
        replace hs : St H4 w (.obj D (.deferred (some [])) :: .blk b1 [I t.many, ut] :: .blk b5 [.slice ao lo co] :: en :: σ) := hs
        refine nB (nT ?_)
        refine .regSeq (.y hs (zld Tryz.isAgg25) (.z zg (.z zg (.nil ?_))))
        refine .ret ?_
        obtain ⟨H5, hle5, hR5, hs⟩ := OwnS.publishI hOo (by omega) hs (by repeat constructor)
        exact Fin.retD [D] [] hs fun w hs => ⟨_, results2 Tryz.results45 rfl rfl, H5, _, out, 0, hle03.trans (hle4.trans hle5), rfl, hR5, .ok hok hns hRise hC, hs.out⟩
end Go.Proofs.YtiiokdeehlfeeaaGreat

namespace Go.Proofs.YtiiokdeehlfeeaaGreat
open Go.MW
theorem law02_system_spec {H : Heap} {w : World} {σ : List Ent} (hs : St H w σ) : Cl Tryz.prog 133 [] w fun v w' => ∃ b, v = .agg #[I 3, .slice (some ⟨b, 0, none⟩) 7 7] ∧ St H w' (.blk b (Lims exT.lims) :: σ) := by
  refine Cl.of Tryz.func133 rfl Tryz.ntmps133 (by simp) (args0) ?_
  refine .regSeq ?_
  refine .o (.alloc hs Tryz.zeroValue24 rfl ?_); intro b0 w hs
  refine .nil (.regSeq (.z (zbd [_, _, _, _] bld_api_Limit) (.z (zbd [_, _, _, _] bld_api_Limit) (.z (zbd [_, _, _, _] bld_api_Limit) (.z (zbd [_, _, _, _] bld_api_Limit) (.z (zbd [_, _, _, _] bld_api_Limit) (.z (zbd [_, _, _, _] bld_api_Limit) (.z (zbd [_, _, _, _] bld_api_Limit) ?_))))))))
  refine .o (.buildSlice (cells := Lims exT.lims) hs bls_sl_api_Limit_7 rfl (by kernel_rfl) ?_); intro b8 w hs
  refine .z (zbd [_, _] bld_api_System) ?_
  refine .o (.stores (vs := [_, _]) hs rfl rfl Tryz.sizeOf24 ?_); intro w hs
  refine .nil ?_
  refine .ret ?_
  exact Fin.retD [] [] hs fun w hs => ⟨_, results1 Tryz.results133 (rcells (vs := [_, _]) hs rfl Tryz.isAgg24 Tryz.sizeOf24), b8, rfl, hs.sub (by repeat (first | exact Sub.refl _ | constructor | apply Sub.weaken))⟩
set_option maxHeartbeats 2000000 in
theorem law02_sane_spec {H : Heap} {w : World} {σ : List Ent} (hs : St H w σ) : Cl Tryz.prog 51 [] w fun v w' => v = .bool true ∧ ∃ H1, HLe H H1 ∧ St H1 w' σ := by
  refine Cl.of Tryz.func51 rfl Tryz.ntmps51 (by simp) (args0) ?_
  refine .regSeq (.z zg (.nil (.regSeq ?_)))
  refine .o (.call Tryz.call133 rfl (law02_system_spec hs) ?_); rintro _ w ⟨bs, rfl, hs⟩
  obtain ⟨H1, hle, hl, hs⟩ := OwnS.publish (m := 4) (v := .slice (some ⟨bs, 0, none⟩) 7 7) (cs := exT.lims.map Lim.c) (.full rfl) (by decide) (by decide) (by decide) hs .here
  refine .o (.alloc hs Tryz.zeroValue24 rfl ?_); intro b1 w hs
  refine .o (.stores (vs := [_, _]) hs rfl rfl Tryz.sizeOf24 ?_); intro w hs
  refine .nil (.regSeq ?_)
  refine .o (.buildSlice (cells := Is [0, 1, 1, -2]) hs bls_sl_int_4 rfl (by kernel_rfl) ?_); intro b20 w hs
  obtain ⟨H2, hle2, hw, hs⟩ := OwnS.publishI (v := .slice (some ⟨b20, 0, none⟩) 4 4) (xs := [0, 1, 1, -2]) (.full rfl) (by decide) hs .here
  replace hl : RL H2 _ exT.lims := RS.mono hl hle2
  replace hle := hle.trans hle2
  refine .z zg (.nil (.regSeq (.y hs (zls [_, _] Tryz.isAgg24 Tryz.sizeOf24) ?_)))
  refine .o (.call Tryz.call134 rfl (bound_Close_spec (s := exT) hs ⟨_, rfl, hl⟩) ?_); rintro _ w ⟨H3, vt, e, hle3, rfl, hcase, hs⟩
  obtain ⟨rfl, rs, hRT, hSq, hWT⟩ : e = 0 ∧ ∃ rs, RT H3 vt rs ∧ Sq exT.n rs ∧ WaysT exT.n exT.arcs (gt rs) := by
    rcases hcase with ⟨h, _⟩ | ⟨_, h, _⟩ | ⟨_, _, h1, h2⟩
    · exact (h (exT.ok_iff.2 exT_ok)).elim
    · exact (h exT_sound).elim
    · exact ⟨h1, h2⟩
  obtain rfl := exT_rows hSq hWT
  obtain ⟨at', ct, rfl⟩ := hRT.shape
  replace hl := hl.mono hle3; replace hw := hw.mono hle3; replace hle := hle.trans hle3
  refine .z zm (.z zex (.z zex (.z zg (.z zg (.nil (.regSeq (.y hs (zls [_, _] Tryz.isAgg24 Tryz.sizeOf24) ?_)))))))
  refine .o (.buildSlice (cells := Is [1, 2, 3]) hs bls_sl_int_3 rfl (by kernel_rfl) ?_); intro b28 w hs
  obtain ⟨H4, hle4, hp, hs⟩ := OwnS.publishI (v := .slice (some ⟨b28, 0, none⟩) 3 3) (xs := [1, 2, 3]) (.full rfl) (by decide) hs .here
  replace hl := hl.mono hle4; replace hw := hw.mono hle4; replace hRT := hRT.mono hle4; replace hle := hle.trans hle4
  refine .o (.call Tryz.call135 rfl (bound_Point_spec (s := exT) hs ⟨_, rfl, hl⟩ hp) ?_); rintro _ w ⟨H5, vx, x, e, hle5, rfl, hRx, hPx, hs⟩
  obtain ⟨rfl, rfl⟩ := exT_point hPx
  obtain ⟨ax, cx, rfl⟩ := RI.shape hRx
  replace hl := hl.mono hle5; replace hw := hw.mono hle5; replace hRT := hRT.mono hle5; replace hle := hle.trans hle5
  refine .z zm (.z zex (.z zex (.z zg (.z zg (.nil (.regSeq (.y hs (zls [_, _] Tryz.isAgg24 Tryz.sizeOf24) (.z zm ?_))))))))
  refine .o (.call Tryz.call136 rfl (bound_Most_spec (s := exT) hs ⟨_, rfl, hl⟩ hw) ?_); rintro _ w ⟨H6, n, e, hle6, rfl, hM, hs⟩
  obtain ⟨rfl, rfl⟩ := exT_most hM
  replace hl := hl.mono hle6; replace hw := hw.mono hle6; replace hRT := hRT.mono hle6; replace hRx := hRx.mono hle6; replace hle := hle.trans hle6
  refine .z zm (.z zex (.z zex (.z zg (.z zg (.nil (.regSeq (.y hs (zls [_, _] Tryz.isAgg24 Tryz.sizeOf24) (.z zm ?_))))))))
  refine .o (.call Tryz.call137 rfl (bound_Best_spec (s := exT) hs ⟨_, rfl, hl⟩ hw) ?_); rintro _ w ⟨H7, vb, xb, e, hle7, rfl, hA, hRb, _, hB, hs⟩
  obtain rfl := hA.uniq hM.1
  obtain rfl := exT_best (hB rfl)
  obtain ⟨ab, cb, rfl⟩ := RI.shape hRb
  replace hl := hl.mono hle7; replace hw := hw.mono hle7; replace hRT := hRT.mono hle7; replace hRx := hRx.mono hle7; replace hle := hle.trans hle7
  refine .z zm (.z zex (.z zex (.z zg (.z zg (.nil (.regSeq (.y hs (zls [_, _] Tryz.isAgg24 Tryz.sizeOf24) ?_)))))))
  refine .o (.buildSlice (cells := Is [0, 0, 1, 0]) hs bls_sl_int_4 rfl (by kernel_rfl) ?_); intro b46 w hs
  obtain ⟨H8, hle8, hw8, hs⟩ := OwnS.publishI (v := .slice (some ⟨b46, 0, none⟩) 4 4) (xs := [0, 0, 1, 0]) (.full rfl) (by decide) hs .here
  replace hl := hl.mono hle8; replace hRT := hRT.mono hle8; replace hRx := hRx.mono hle8; replace hRb := hRb.mono hle8; replace hle := hle.trans hle8
  refine .o (.call Tryz.call43 rfl (bound_Moves_spec (s := exT) hs ⟨_, rfl, hl⟩ hw8) ?_); rintro _ w ⟨H9, vm, L, e, hle9, rfl, hRm, hMv, hs⟩
  obtain ⟨rfl, rfl⟩ := exT_moves hMv
  obtain ⟨am, cm, rfl⟩ := RI.shape hRm
  replace hl := hl.mono hle9; replace hRT := hRT.mono hle9; replace hRx := hRx.mono hle9; replace hRb := hRb.mono hle9; replace hle := hle.trans hle9
  refine .z zm (.z zex (.z zex (.z zg (.z zg (.nil (.regSeq ?_))))))
  refine .o (.call Tryz.call133 rfl (law02_system_spec hs) ?_); rintro _ w ⟨bs2, rfl, hs⟩
  refine .q hs (q_field (k := 1) rfl Tryz.runUnderlying24 rfl Tryz.isAgg22 rfl) ?_
  refine .z (zbd [_, _, _, _] bld_api_Limit) ?_
  refine .o (.buildSlice (cells := (⟨2, 0, -13, 9⟩ : Lim).c) hs bls_sl_api_Limit_1 rfl (by kernel_rfl) ?_); intro b53 w hs
  refine .o (.append (xs := Lims exT.lims) (ys := (⟨2, 0, -13, 9⟩ : Lim).c) hs app_sl_api_Limit_api_Limit rfl rfl (.full (len := 7) rfl) (.own .here rfl rfl) (by simp [Lim.c, Value.oneCell']) (fun l h => by rw [Lims_length] at h; change 7 * 4 = l * 4 at h; omega) ?_); intro v54 en54 w hO54 hs
  rw [← Lims_one, ← Lims_append] at hO54
  obtain ⟨H10, hle10, hl10, hs⟩ := OwnS.publish (m := 4) (cs := exC.lims.map Lim.c) hO54 (by decide) (by decide) (by decide) hs .here
  obtain ⟨a54, c54, rfl⟩ := RL.shape (ls := exC.lims) hl10
  replace hl := hl.mono hle10; replace hRT := hRT.mono hle10; replace hRx := hRx.mono hle10; replace hRb := hRb.mono hle10; replace hRm := hRm.mono hle10; replace hle := hle.trans hle10
  refine .z zg (.nil (.regSeq (.z zm (.z (zbd [_, _] bld_api_System) ?_))))
  refine .o (.call Tryz.call45 rfl (bound_Conflict_spec (s := exC) hs ⟨_, rfl, hl10⟩) ?_); rintro _ w ⟨H11, vc, out, e, hle11, rfl, hRc, hCf, hs⟩
  obtain ⟨rfl, rfl⟩ := exC_conf hCf
  obtain ⟨ac, cc, rfl⟩ := RI.shape hRc
  replace hl := hl.mono hle11; replace hRT := hRT.mono hle11; replace hRx := hRx.mono hle11; replace hRb := hRb.mono hle11; replace hRm := hRm.mono hle11; replace hle := hle.trans hle11
  refine .z zm (.z zex (.z zex (.z zg (.z zg (.nil (.regSeq (.y hs (zls [_, _] Tryz.isAgg24 Tryz.sizeOf24) ?_)))))))
  refine .o (.buildSlice (cells := Is [1, 4]) hs bls_sl_int_2 rfl (by kernel_rfl) ?_); intro b63 w hs
  obtain ⟨H12, hle12, hb12, hs⟩ := OwnS.publishI (v := .slice (some ⟨b63, 0, none⟩) 2 2) (xs := [1, 4]) (.full rfl) (by decide) hs .here
  refine .o (.call Tryz.call109 rfl (bound_Without_spec (s := exT) hs ⟨_, rfl, hl.mono hle12⟩ hb12 (by decide)) ?_); rintro _ w ⟨H13, hle13, ⟨u64, rfl, hL64⟩, hs⟩
  obtain ⟨a64, c64, rfl⟩ := RL.shape hL64
  refine .o (.buildSlice (cells := Is [0, 1, 0, 0]) hs bls_sl_int_4 rfl (by kernel_rfl) ?_); intro b65 w hs
  obtain ⟨H14, hle14, hw14, hs⟩ := OwnS.publishI (v := .slice (some ⟨b65, 0, none⟩) 4 4) (xs := [0, 1, 0, 0]) (.full rfl) (by decide) hs .here
  refine .o (.call Tryz.call136 rfl (bound_Most_spec (s := exT.wo [1, 4]) hs ⟨_, rfl, hL64.mono hle14⟩ hw14) ?_); rintro _ w ⟨H15, n, e, hle15, rfl, hM15, hs⟩
  obtain rfl := exT_open hM15
  have hle5 := hle12.trans (hle13.trans (hle14.trans hle15))
  replace hl := hl.mono hle5; replace hRT := hRT.mono hle5; replace hRx := hRx.mono hle5; replace hRb := hRb.mono hle5; replace hRm := hRm.mono hle5; replace hRc := hRc.mono hle5; replace hle := hle.trans hle5
  refine .z zm (.z zex (.z zex (.z zg (.z zg (.nil (.regSeq (.z zm (.z zeql (.z zm ?_)))))))))
  refine .gT rfl rfl ?_
  refine .z zm ?_
  refine .gT rfl rfl ?_
  refine .z zeql (.z zpT (.z zm ?_))
  refine .gT rfl rfl ?_
  refine .z zm ?_
  refine .gT rfl rfl ?_
  refine .z zeql (.z zpT (.z zm ?_))
  refine .gT rfl rfl ?_
  refine .z zm ?_
  refine .gT rfl rfl ?_
  refine .z zeql (.z zpT (.z zm ?_))
  refine .gT rfl rfl ?_
  refine .z zm ?_
  refine .gT rfl rfl ?_
  refine .z zeql (.z zpT (.z zm ?_))
  refine .gT rfl rfl ?_
  refine .z zm ?_
  refine .gT rfl rfl ?_
  refine .z zeql (.z zpT (.z zg (.nil (.regSeq (.z zm (.z zm ?_))))))
  refine .gT rfl rfl ?_
  refine .z zm ?_
  refine .gT rfl rfl ?_
  refine .z (zlen Tryz.runUnderlying29) ?_
  refine .gT rfl rfl ?_
  refine .z zeql (.z zpT (.z zm ?_))
  refine .gT rfl rfl ?_
  refine .z zm ?_
  refine .gT rfl rfl ?_
  refine .ixT hs hRT rfl rfl Tryz.runUnderlying29 Tryz.sizeOf25 (k := 3) (by decide) rfl ?_; intro b99 o99 a99 c99 hc99 hR99
  refine .gT rfl rfl ?_
  refine .q hs (q_loadR rfl Tryz.isAgg25 hc99) ?_
  refine .gT rfl rfl ?_
  refine .z (zlen Tryz.runUnderlying25) ?_
  refine .gT rfl rfl ?_
  refine .z zeql (.z zpT (.z zm ?_))
  refine .gT rfl rfl ?_
  refine .z zm ?_
  refine .gT rfl rfl ?_
  refine .ixT hs hRT rfl rfl Tryz.runUnderlying29 Tryz.sizeOf25 (k := 3) (by decide) rfl ?_; intro b106 o106 a106 c106 hc106 hR106
  refine .gT rfl rfl ?_
  refine .q hs (q_loadR rfl Tryz.isAgg25 hc106) ?_
  refine .gT rfl rfl ?_
  refine .ixY hs hR106 rfl rfl Tryz.runUnderlying25 Tryz.sizeOf3 (k := 2) (x' := 12) rfl rfl ?_; intro b108 o108 hc108
  refine .gT rfl rfl ?_
  refine .q hs (q_loadR rfl Tryz.isAgg3 hc108) ?_
  refine .gT rfl rfl ?_
  refine .z zeql (.z zpT (.z zm ?_))
  refine .gT rfl rfl ?_
  refine .z zm ?_
  refine .gT rfl rfl ?_
  refine .o (.buildSlice (cells := Is [0, 5, 7, 3]) hs bls_sl_int_4 rfl (by kernel_rfl) ?_); intro b114 w hs
  obtain ⟨H16, hle16, hq1, hs⟩ := OwnS.publishI (v := .slice (some ⟨b114, 0, none⟩) 4 4) (xs := [0, 5, 7, 3]) (.full rfl) (by decide) hs .here
  refine .gT rfl rfl ?_
  refine .o (.call Tryz.call20 rfl (ref02_Same_spec hs (hRx.mono hle16) hq1) ?_); rintro _ w ⟨rfl, hs⟩
  refine .z zpT (.z zm ?_)
  refine .gT rfl rfl ?_
  refine .z zm ?_
  refine .gT rfl rfl ?_
  refine .z zeql (.z zpT (.z zm ?_))
  refine .gT rfl rfl ?_
  refine .z zm ?_
  refine .gT rfl rfl ?_
  refine .o (.buildSlice (cells := Is [0, 10, 12, 0]) hs bls_sl_int_4 rfl (by kernel_rfl) ?_); intro b123 w hs
  obtain ⟨H17, hle17, hq2, hs⟩ := OwnS.publishI (v := .slice (some ⟨b123, 0, none⟩) 4 4) (xs := [0, 10, 12, 0]) (.full rfl) (by decide) hs .here
  refine .gT rfl rfl ?_
  refine .o (.call Tryz.call20 rfl (ref02_Same_spec hs (hRb.mono (hle16.trans hle17)) hq2) ?_); rintro _ w ⟨rfl, hs⟩
  refine .z zpT (.z zm ?_)
  refine .gT rfl rfl ?_
  refine .z zm ?_
  refine .gT rfl rfl ?_
  refine .o (.buildSlice (cells := Is [1, 2, 4]) hs bls_sl_int_3 rfl (by kernel_rfl) ?_); intro b128 w hs
  obtain ⟨H18, hle18, hq3, hs⟩ := OwnS.publishI (v := .slice (some ⟨b128, 0, none⟩) 3 3) (xs := [1, 2, 4]) (.full rfl) (by decide) hs .here
  refine .gT rfl rfl ?_
  refine .o (.call Tryz.call20 rfl (ref02_Same_spec hs (hRm.mono (hle16.trans (hle17.trans hle18))) hq3) ?_); rintro _ w ⟨rfl, hs⟩
  refine .z zpT (.z zm ?_)
  refine .gT rfl rfl ?_
  refine .z zm ?_
  refine .gT rfl rfl ?_
  refine .o (.buildSlice (cells := Is [4, 9]) hs bls_sl_int_2 rfl (by kernel_rfl) ?_); intro b133 w hs
  obtain ⟨H19, hle19, hq4, hs⟩ := OwnS.publishI (v := .slice (some ⟨b133, 0, none⟩) 2 2) (xs := [4, 9]) (.full rfl) (by decide) hs .here
  have hle69 := hle16.trans (hle17.trans (hle18.trans hle19))
  refine .gT rfl rfl ?_
  refine .o (.call Tryz.call20 rfl (ref02_Same_spec hs (hRc.mono hle69) hq4) ?_); rintro _ w ⟨rfl, hs⟩
  refine .z zpT (.z zm ?_)
  refine .gT rfl rfl ?_
  refine .z zm ?_
  refine .gT rfl rfl ?_
  refine .z zeql (.z zpT (.z zg (.nil ?_)))
  refine .ret (Fin.ret1 Tryz.results51 rfl ?_)
  exact ⟨rfl, H19, hle.trans hle69, hs.out⟩
end Go.Proofs.YtiiokdeehlfeeaaGreat

namespace Go.Proofs.YtiiokdeehlfeeaaGreat
open Go.MW
theorem ref02_SameTable_spec {H : Heap} {w : World} {σ : List Ent} {v1 v2 : Value} {as_ bs : List (List Int)} (hs : St H w σ) (h1 : RT H v1 as_) (h2 : RT H v2 bs) :
    Cl Tryz.prog 125 [v1, v2] w fun u w' => u = .bool (decide (as_ = bs)) ∧ St H w' σ := by
  obtain ⟨a1, c1, rfl⟩ := h1.shape
  obtain ⟨a2, c2, rfl⟩ := h2.shape
  have hl1 := h1.len.2.2
  refine Cl.of Tryz.func125 rfl Tryz.ntmps125 (by simp) (args_cons (k := 0) rfl (args_cons (k := 1) rfl (args0))) ?_
  refine .regSeq (.z zg (.nil (.seq (.regSeq (.z zm (.z (zlen Tryz.runUnderlying29) (.z zm (.z (zlen Tryz.runUnderlying29) (.z zneq ?_)))))))))
  refine .nil ?_
  refine (.condN rfl (fun hc10 => ?_) (fun hc10 => ?_))
  · refine .regSeq (.z zg (.nil ?_))
    refine .ret (rT (Fin.ret1 Tryz.results125 rfl ?_))
    exact ⟨by rw [decide_eq_false (fun h => hc10 (by rw [h]))], hs⟩
  · refine .skip ?_
    refine nT ?_
    refine .seq (.regSeq (.z zm (.z (zlen Tryz.runUnderlying29) (.z zm (.nil ?_)))))
    refine .for (N := as_.length) (J := fun k fr w => fr = [(0, .slice a1 as_.length c1), (1, .slice a2 bs.length c2)] ∧ (∀ j < k, as_[j]? = bs[j]?) ∧ St H w σ) (by omega) ?_ ?_ ?_
    · exact .mk ⟨rfl, fun j hj => by omega, hs⟩
    · rintro k fr w hk ⟨rfl, h0, hs⟩
      have g1 := gr_get (rs := as_) (i := k) hk
      have g2 := gr_get (rs := bs) (i := k) (by omega)
      refine .block (.regSeq (.z zm (.z zg (.nil ?_))))
      refine .seq (.draw mix rfl hs ?_); intro w hs
      refine .z 0 rfl zm ?_; refine .z 1 rfl zm ?_
      refine .ixT (i := 2) hs rfl (by kernel_rfl) .none h1 rfl rfl Tryz.runUnderlying29 Tryz.sizeOf25 (show k < _ by omega) (by first | rfl | assumption | omega) ?_; intro b18 o18 a18 c18 hc18 hR18
      refine .r (i := 3) hs rfl (by kernel_rfl) .none (q_loadR rfl Tryz.isAgg25 hc18) ?_
      refine .z 4 rfl zm ?_; refine .z 5 rfl zm ?_
      refine .ixT (i := 6) hs rfl (by kernel_rfl) .none h2 rfl rfl Tryz.runUnderlying29 Tryz.sizeOf25 (show k < _ by omega) (by first | rfl | assumption | omega) ?_; intro b22 o22 a22 c22 hc22 hR22
      refine .r (i := 7) hs rfl (by kernel_rfl) .none (q_loadR rfl Tryz.isAgg25 hc22) ?_
      refine .e1 (i := 8) (by kernel_rfl) rfl rfl .none hs ?_
      refine .call Tryz.call20 rfl (ref02_Same_spec hs hR18 hR22) ?_; rintro _ w ⟨rfl, hs⟩
      refine .go ?_
      refine .z 9 rfl znot ?_; refine .done (by kernel_rfl) hs ?_
      refine (.cond rfl (fun hc25 => ?_) (fun hc25 => ?_))
      · refine .regSeq (.z zg (.nil ?_))
        refine .ret (rB (rT (rB (rT (Fin.ret1 Tryz.results125 rfl ?_)))))
        exact ⟨by rw [decide_eq_false (fun h => by
          subst h
          have h7 := hc25
          rw [g1] at g2
          simp at h7)], hs⟩
      · refine .skip ?_
        refine nB (nT ?_)
        exact .mk ⟨rfl, fun j hj => by
          by_cases e : j = k
          · subst e; rw [g1, g2, show gr as_ j = gr bs j by simpa using hc25]
          · exact h0 j (by omega), hs⟩
    · rintro fr w ⟨rfl, h0, hs⟩
      refine nT ?_
      refine .regSeq (.z zg (.nil ?_))
      refine .ret (Fin.ret1 Tryz.results125 rfl ?_)
      exact ⟨by rw [decide_eq_true (List.ext_getElem? fun j => by
        by_cases e : j < as_.length
        · exact h0 j e
        · rw [List.getElem?_eq_none (by omega), List.getElem?_eq_none (by omega)])], hs⟩
end Go.Proofs.YtiiokdeehlfeeaaGreat

namespace Go.Proofs.YtiiokdeehlfeeaaGreat
open Go.MW
theorem CycR.round {s : Syst} {xs : List Int} (h : CycR s xs 0) (hn : ¬ s.Sound) : RoundP s xs ∧ xs.length ≤ s.n := by
  generalize hz : (0 : Int) = y at h
  cases h with
  | bad h => exact (h hz.symm).elim
  | sound _ h1 _ => exact (hn h1).elim
  | @chain st x z k hok h1 h2 h3 h4 h5 h6 h7 =>
    obtain ⟨r, hN, hr⟩ := h2
    have hr' := hr (by simp)
    have hxin := hok.arcs.2 x (hN.ovm x rfl)
    have hreal := par_real hN hr' hxin.2.1
    have hre : ∀ i, ga st.by_ (parK st.by_ z i) ∈ s.arcs ∧ (ga st.by_ (parK st.by_ z i)).t = parK st.by_ z i := fun i => by
      have := hreal (s.n + 1 + i)
      rw [parK_add, ← h3] at this
      exact this
    have hlim : ∀ i, 0 ≤ (ga st.by_ (parK st.by_ z i)).l ∧ (ga st.by_ (parK st.by_ z i)).l < s.lims.length ∧ (lmA s (ga st.by_ (parK st.by_ z i)).l).A = ((ga st.by_ (parK st.by_ z i)).f : Int) ∧ (lmA s (ga st.by_ (parK st.by_ z i)).l).B = ((ga st.by_ (parK st.by_ z i)).t : Int) ∧ (lmA s (ga st.by_ (parK st.by_ z i)).l).M = (ga st.by_ (parK st.by_ z i)).c := fun i => by
      obtain ⟨q, l, g1, g2⟩ := arcsOf_mem (hre i).1
      rw [g2]
      have hq := (List.getElem?_eq_some_iff.1 g1).1
      have ha := hok.arc (List.mem_of_getElem? g1) q
      have e1 : (l.arc q).l = (q : Int) := rfl
      have e2 : lmA s (l.arc q).l = l := by
        rw [e1]
        have := lmA_get (s := s) (i := (q : Int)) (by omega)
        rw [Int.toNat_natCast, g1] at this
        exact (Option.some.inj this).symm
      rw [e2]
      exact ⟨by omega, by omega, ha.1.symm, ha.2.1.symm, rfl⟩
    have hxl : xs.length = k := by rw [h7, List.length_reverse, idxTo_length]
    have hget : ∀ p < k, gi xs p = (ga st.by_ (parK st.by_ z (k - 1 - p))).l := fun p hp => by
      have hp' : p < (idxTo st.by_ z k).reverse.length := by rw [List.length_reverse, idxTo_length]; exact hp
      have := gi_get hp'
      rw [List.getElem?_reverse (by simpa using hp'), idxTo_length] at this
      rw [h7]
      have e : (idxTo st.by_ z k)[k - 1 - p]? = some (ga st.by_ (parK st.by_ z (k - 1 - p))).l := by
        simp [idxTo, show k - 1 - p < k by omega]
      rw [e] at this
      exact (Option.some.inj this).symm
    have hpar : ∀ i, (ga st.by_ (parK st.by_ z i)).f = parK st.by_ z (i + 1) := fun _ => rfl
    have hn65 := hok.n65
    refine ⟨⟨by omega, by omega, fun p hp => ?_, fun p hp => ?_, ?_⟩, by omega⟩
    · rw [hget p (by omega)]
      exact ⟨(hlim _).1, (hlim _).2.1⟩
    · rw [hxl] at hp ⊢
      have hm := Nat.mod_lt (p + 1) (show k > 0 by omega)
      rw [hget p hp, hget _ hm, (hlim _).2.2.2.1, (hlim _).2.2.1, (hre _).2, hpar]
      by_cases e : p + 1 < k
      · rw [Nat.mod_eq_of_lt e, show k - 1 - (p + 1) + 1 = k - 1 - p by omega]
      · rw [show p + 1 = k by omega, Nat.mod_self, show k - 1 - 0 + 1 = k by omega, h6, show k - 1 - p = 0 by omega]; rfl
    · rw [hxl, sumTo_congr (g := fun p => (ga st.by_ (parK st.by_ z (k - 1 - p))).c) (fun p hp => by rw [hget p hp, (hlim _).2.2.2.2]), sumTo_rev (fun i => (ga st.by_ (parK st.by_ z i)).c) k]
      have hb := par_back (b := st.by_) (v := z) (k := k) fun i _ => (hlim i).1
      rw [h6] at hb
      obtain ⟨k', rfl⟩ : ∃ k', k = k' + 1 := ⟨k - 1, by omega⟩
      refine hN.cyc z ?_ k' _ hb
      have := (hok.arcs.2 _ (hre 0).1).2.1
      rw [(hre 0).2] at this
      exact this
end Go.Proofs.YtiiokdeehlfeeaaGreat

namespace Go.Proofs.YtiiokdeehlfeeaaGreat
open Go.MW
theorem ref02_Has_spec {H : Heap} {w : World} {σ : List Ent} {v : Value} {ls : List Int} {x : Int} (hs : St H w σ) (hr : RI H v ls) :
    Cl Tryz.prog 131 [v, I x] w fun u w' => u = .bool (decide (x ∈ ls)) ∧ St H w' σ := by
  obtain ⟨a, c, rfl⟩ := RI.shape hr
  have hl := (RI.len hr).2.2
  refine Cl.of Tryz.func131 rfl Tryz.ntmps131 (by simp) (args_cons (k := 0) rfl (args_cons (k := 1) rfl (args0))) ?_
  refine .regSeq (.z zg (.nil (.seq (.regSeq (.z zm (.z (zlen Tryz.runUnderlying25) (.z zm (.nil ?_))))))))
  refine .for (N := ls.length) (J := fun k fr w => fr = [(1, I x), (7, .slice a ls.length c)] ∧ St H w σ ∧ ∀ j < k, ∀ y, ls[j]? = some y → ¬ y = x) (by omega) ?_ ?_ ?_
  · exact .mk ⟨rfl, hs, fun j hj => by omega⟩
  · rintro k fr w hk ⟨rfl, hs, hno⟩
    have hy := gi_get hk
    refine .block (.regSeq ?_)
    refine .ixY hs hr rfl rfl Tryz.runUnderlying25 Tryz.sizeOf3 (gi_get (l := ls) (i := k) (by omega)) (by first | rfl | assumption | omega) ?_; intro b11 o11 hc11
    refine .q hs (q_loadR rfl Tryz.isAgg3 hc11) ?_
    refine .z zg (.nil (.regSeq (.z zm (.z zm (.z zeql (.nil ?_))))))
    refine (.condD rfl (fun hc15 => ?_) (fun hc15 => ?_))
    · refine .regSeq (.z zg (.nil ?_))
      refine .ret (rB (rT (rB (rT (Fin.ret1 Tryz.results131 rfl ?_)))))
      exact ⟨by rw [decide_eq_true (hc15 ▸ List.mem_of_getElem? hy)], hs⟩
    · refine .skip ?_
      refine nB (nT ?_)
      exact .mk ⟨rfl, hs, upto_succ hno hy hc15⟩
  · rintro fr w ⟨rfl, hs, hno⟩
    refine nT ?_
    refine .regSeq (.z zg (.nil ?_))
    refine .ret (Fin.ret1 Tryz.results131 rfl ?_)
    exact ⟨by rw [decide_eq_false (fun h => by
      obtain ⟨j, hj⟩ := List.getElem?_of_mem h
      exact (hno j (List.getElem?_eq_some_iff.1 hj).1 x hj rfl).elim)], hs⟩
set_option maxHeartbeats 1000000 in
theorem ref02_Without_spec {H : Heap} {w : World} {σ : List Ent} {v vb : Value} {s : Syst} {bs : List Int} (hs : St H w σ) (hr : RSy H v s) (hb : RI H vb bs) (hlen : s.lims.length ≤ 4398046510976) :
    Cl Tryz.prog 112 [v, vb] w fun u w' => ∃ H1, HLe H H1 ∧ RSy H1 u (s.wo bs) ∧ St H1 w' σ := by
  obtain ⟨ul, rfl, hl⟩ := hr
  obtain ⟨al, cl, rfl⟩ := RL.shape hl
  obtain ⟨ab, cb, rfl⟩ := RI.shape hb
  refine Cl.of Tryz.func112 rfl Tryz.ntmps112 (by simp) (args_cons (k := 0) rfl (args_cons (k := 1) rfl (args0))) ?_
  refine .regSeq ?_
  refine .o (.box hs rfl rfl ?_); intro b2 w hs
  refine .o (.alloc hs Tryz.zeroValue24 rfl ?_); intro b4 w hs
  refine .nil (.regSeq (.z (zfa fa_api_System_0) (.y hs (zld Tryz.isAgg3) (.z (zbd [_, _] bld_api_System) ?_))))
  refine .o (.alloc hs Tryz.zeroValue24 rfl ?_); intro b5 w hs
  refine .o (.stores (vs := [_, _]) hs rfl rfl Tryz.sizeOf24 ?_); intro w hs
  refine .nil (.seq (.regSeq (.z (zfa fa_api_System_1) (.y hs (zld Tryz.isAgg22) (.z (zlen Tryz.runUnderlying22) (.z zm (.nil ?_)))))))
  refine .for (N := s.lims.length) (J := fun k fr w => fr = [(12, .slice al s.lims.length cl), (1, .slice ab bs.length cb), (5, .pointer (some ⟨b5, 0, none⟩)), (4, .pointer (some ⟨b4, 0, none⟩))] ∧ ∃ vL en, OwnS 4 vL (Lims (pickTo (fun _ l => !decide (l.S ∈ bs)) s.lims k)) en ∧ St H w (.blk b5 [I s.many, vL] :: .blk b4 [I 0, .slice none 0 0] :: en :: σ)) (by omega) ?_ ?_ ?_
  · exact .mk ⟨rfl, _, _, .nil 4 none, hs.nul.sub (by repeat (first | exact Sub.refl _ | constructor | apply Sub.weaken))⟩
  · rintro k fr w hk ⟨rfl, vL, en, hO, hs⟩
    obtain ⟨x, hx⟩ := nth (l := s.lims) hk
    obtain ⟨aL, lL, cL, rfl, hL⟩ := hO.shape
    have hpl := pickTo_length (fun _ l => !decide (l.S ∈ bs)) s.lims k
    refine .block (.regSeq ?_)
    refine .ixX (enc := Lim.c) hs hl rfl rfl Tryz.runUnderlying22 Tryz.sizeOf157 hx (by first | rfl | assumption | omega) ?_; intro b16 o16 hc16
    refine .q hs (q_loadsR (vs := (Lim.c x)) rfl Tryz.isAgg157 Tryz.sizeOf157 hc16) ?_
    refine .o (.alloc hs Tryz.zeroValue157 rfl ?_); intro b7 w hs
    refine .o (.stores (vs := x.c) hs rfl rfl Tryz.sizeOf157 ?_); intro w hs
    refine .nil (.regSeq (.z zm (.z (zfa fa_api_Limit_3) (.y hs (zld Tryz.isAgg3) ?_))))
    refine .o (.call Tryz.call131 rfl (ref02_Has_spec hs hb) ?_); rintro _ w ⟨rfl, hs⟩
    refine .z znot (.nil ?_)
    refine (.cond rfl (fun hc22 => ?_) (fun hc22 => ?_))
    · refine .region (.z (zfa fa_api_System_1) (.y hs (zld Tryz.isAgg22) (.y hs (zls [_, _, _, _] Tryz.isAgg157 Tryz.sizeOf157) ?_)))
      refine .o (.buildSlice (cells := x.c) hs bls_sl_api_Limit_1 rfl rfl ?_); intro b26 w hs
      refine .o (.append (ys := x.c) hs app_sl_api_Limit_api_Limit rfl rfl hO (.own .here rfl rfl) (by simp [Lim.c, Value.oneCell']) (fun l h => by rw [Lims_length] at h; omega) ?_); intro v27 en27 w hO2 hs
      obtain ⟨a27, l27, c27, rfl, h27⟩ := hO2.shape
      refine .z (zfa fa_api_System_1) ?_
      refine .o (.store hs rfl rfl Tryz.sizeOf22 ?_); intro w hs
      refine .nil ?_
      refine nB (nT ?_)
      have e : pickTo (fun _ l => !decide (l.S ∈ bs)) s.lims (k + 1) = pickTo (fun _ l => !decide (l.S ∈ bs)) s.lims k ++ [x] := by rw [pickTo_succ hx, if_pos hc22]
      rw [← Lims_one, ← Lims_append, ← e] at hO2
      exact .mk ⟨rfl, _, _, hO2, hs.sub (by repeat (first | exact Sub.refl _ | constructor | apply Sub.weaken))⟩
    · refine .skip ?_
      refine nB (nT ?_)
      have e : pickTo (fun _ l => !decide (l.S ∈ bs)) s.lims (k + 1) = pickTo (fun _ l => !decide (l.S ∈ bs)) s.lims k := by rw [pickTo_succ hx, hc22]; simp
      exact .mk ⟨rfl, _, _, by rw [e]; exact hO, hs.sub (by repeat (first | exact Sub.refl _ | constructor | apply Sub.weaken))⟩
  · rintro fr w ⟨rfl, vL, en, hO, hs⟩
    obtain ⟨aL, lL, cL, rfl, hL⟩ := hO.shape
    rw [pickTo_all] at hO
    have hpl : (s.wo bs).lims.length ≤ s.lims.length := List.length_filter_le _ _
    refine nT ?_
    refine .regSeq (.y hs (zls [_, _] Tryz.isAgg24 Tryz.sizeOf24) ?_)
    refine .o (.stores (vs := [_, _]) hs rfl rfl Tryz.sizeOf24 ?_); intro w hs
    refine .nil ?_
    refine .ret ?_
    obtain ⟨H1, g1, r1, hs⟩ := OwnS.publish (m := 4) (cs := (s.wo bs).lims.map Lim.c) hO (fun c hc => by simp only [List.mem_map] at hc; obtain ⟨x, _, rfl⟩ := hc; rfl) (by omega) (by rw [List.length_map]; omega) hs (by repeat constructor)
    exact Fin.retD [] [] hs fun w hs => ⟨_, results1 Tryz.results112 (rcells (vs := [_, _]) hs rfl Tryz.isAgg24 Tryz.sizeOf24), H1, g1, ⟨_, rfl, r1⟩, hs.out⟩
set_option maxHeartbeats 1000000 in
theorem ref02_Put_spec {H : Heap} {w : World} {σ : List Ent} {v : Value} {ls : List Int} {n : Int} {S : Int → Prop} (hs : St H w σ) (hr : RI H v ls) (hR : RiseOf S ls) (hlen : ls.length ≤ 17592186044000) :
    Cl Tryz.prog 164 [v, I n] w fun u w' => ∃ H1 L, HLe H H1 ∧ RI H1 u L ∧ RiseOf (fun x => S x ∨ x = n) L ∧ L.length ≤ ls.length + 1 ∧ St H1 w' σ := by
  obtain ⟨a, c, rfl⟩ := RI.shape hr
  have hcap := RI.len hr
  refine Cl.of Tryz.func164 rfl Tryz.ntmps164 (by simp) (args_cons (k := 0) rfl (args_cons (k := 1) rfl (args0))) ?_
  refine .regSeq (.z zg (.nil (.regSeq (.z zm (.z (zlen Tryz.runUnderlying25) (.z zg (.nil ?_)))))))
  refine .cut (fun fs w => ∃ t : Nat, FSub fs ⟨49, [], [(5, I (t : Int)), (1, I n), (0, .slice a ls.length c)]⟩ ∧ t ≤ ls.length ∧ (∀ j, t ≤ j → j < ls.length → n ≤ gi ls j) ∧ (∀ j < t, j < ls.length → gi ls j < n) ∧ St H w σ) ?_ ?_
  · refine .block ?_
    refine .loop (fun t : Nat => ⟨49, [], [(5, I (t : Int)), (1, I n), (0, .slice a ls.length c)]⟩)
      (fun t w => t ≤ ls.length ∧ (∀ j, t ≤ j → j < ls.length → n ≤ gi ls j) ∧ St H w σ) (fun t => t) ls.length (by repeat (first | exact .nil rfl rfl | refine .cons rfl ?_)) ⟨Nat.le_refl _, fun j _ _ => by omega, hs⟩ ?_
    clear hs
    rintro t w ⟨ht, hge, hs⟩
    refine .seq (.regSeq (.z zm (.z zgtr (.z zm ?_))))
    refine .bifD (t' := 11) rfl (fun hb11 => ?_) (fun hb11 => ?_)
    · refine .gT rfl rfl ?_
      refine .z zm ?_
      refine .gT rfl rfl ?_
      refine .z zm ?_
      refine .gT rfl rfl ?_
      refine .z zsub ?_
      refine .gT rfl rfl ?_
      refine .ixY hs hr rfl rfl Tryz.runUnderlying25 Tryz.sizeOf3 (gi_get (l := ls) (i := (t - 1)) (by omega)) (by first | rfl | assumption | omega) ?_; intro b15 o15 hc15
      refine .gT rfl rfl ?_
      refine .q hs (q_loadR rfl Tryz.isAgg3 hc15) ?_
      refine .gT rfl rfl ?_
      refine .z zm ?_
      refine .gT rfl rfl ?_
      refine .z zgeq (.z zpT (.nil ?_))
      refine (.condD rfl (fun hc19 => ?_) (fun hc19 => ?_))
      · refine .skip ?_
        refine nT ?_
        refine .block (.region (.z zm (.z zsub (.z zg (.nil ?_)))))
        refine nB (nT ?_)
        exact ⟨t - 1, .consI rfl (by omega) (by repeat (first | exact .nil rfl rfl | refine .cons rfl ?_)), ⟨by omega, fun j h1 h2 => by
          by_cases e : j = t - 1
          · subst e; omega
          · exact hge j (by omega) h2, hs⟩, by omega⟩
      · refine .exit ?_
        refine xT (xT (xB (nT ?_)))
        exact ⟨t, by repeat (first | exact .nil rfl rfl | refine .cons rfl ?_), ht, hge, fun j h1 h2 => by
          by_cases e : j = t - 1
          · subst e; omega
          · have := rise_gi hR (i := j) (j := t - 1) (by omega) (by omega); omega, hs⟩
    · refine .gFs 7 2 true rfl rfl rfl ?_
      refine .z zpF (.nil ?_)
      refine (.condF rfl rfl ?_)
      refine .exit ?_
      refine xT (xT (xB (nT ?_)))
      exact ⟨t, by repeat (first | exact .nil rfl rfl | refine .cons rfl ?_), ht, hge, fun j h1 h2 => by omega, hs⟩
  · rintro fs w ⟨t, hfs, ht, hge, hlt, hs⟩
    refine WE.sub ?_ hfs
    refine .seq (.regSeq (.z zm (.z zm (.z (zlen Tryz.runUnderlying25) (.z zlss (.z zm ?_))))))
    refine .bifD (t' := 26) rfl (fun hb26 => ?_) (fun hb26 => ?_)
    · refine .gT rfl rfl ?_
      refine .z zm ?_
      refine .gT rfl rfl ?_
      refine .z zm ?_
      refine .gT rfl rfl ?_
      refine .ixY hs hr rfl rfl Tryz.runUnderlying25 Tryz.sizeOf3 (gi_get (l := ls) (i := t) (by omega)) (by first | rfl | assumption | omega) ?_; intro b29 o29 hc29
      refine .gT rfl rfl ?_
      refine .q hs (q_loadR rfl Tryz.isAgg3 hc29) ?_
      refine .gT rfl rfl ?_
      refine .z zm ?_
      refine .gT rfl rfl ?_
      refine .z zeql (.z zpT (.nil ?_))
      refine (.condD rfl (fun hc33 => ?_) (fun hc33 => ?_))
      · refine .regSeq (.z zm (.z zg (.nil ?_)))
        refine .ret (rT (Fin.ret1 Tryz.results164 rfl ?_))
        exact ⟨H, ls, HLe.refl H, hr, hR.congr fun x => ⟨.inl, fun h => h.elim id fun e => by
          subst e
          rw [← hc33]
          exact (hR.mem _).1 (List.mem_of_getElem? (gi_get (by omega)))⟩, by omega, hs⟩
      · refine .skip ?_
        refine nT ?_
        refine .regSeq ?_
        refine .o (.buildSlice (cells := []) hs bls_sl_int_0 rfl rfl ?_); intro b35 w hs
        refine .z zm (.z zm ?_)
        refine .q hs (q_sliceHX (k := t) rfl rfl Tryz.runUnderlying25 Tryz.sizeOf3 rfl (by omega)) ?_
        refine .o (.append (xs := []) (ys := Is (ls.take t)) hs app_sl_int_int rfl rfl (.full (len := 0) rfl) (.ints (RI.head hr (k := t) ht)) (Is_cell _) (fun l h => by simp at h; rw [List.length_take]; omega) ?_); intro v39 en39 w hO1 hs
        rw [List.nil_append] at hO1
        obtain ⟨a39, l39, c39, rfl, h39⟩ := hO1.shape
        refine .z zg (.nil (.regSeq (.z zm (.z zm ?_))))
        refine .o (.buildSlice (cells := [_]) hs bls_sl_int_1 rfl rfl ?_); intro b42 w hs
        refine .o (.append (ys := Is [n]) hs app_sl_int_int rfl rfl hO1 (.own .here rfl rfl) (Is_cell _) (fun l h => by simp at h; omega) ?_); intro v43 en43 w hO2 hs
        rw [← List.map_append] at hO2
        obtain ⟨a43, l43, c43, rfl, h43⟩ := hO2.shape
        refine .z zg (.nil (.regSeq (.z zm (.z zm (.z zm ?_)))))
        refine .q hs (q_sliceLX (k := t) rfl rfl Tryz.runUnderlying25 Tryz.sizeOf3 (by omega) (by omega)) ?_
        refine .o (.append (ys := Is (ls.drop t)) hs app_sl_int_int rfl rfl hO2 (.ints (RI.tail hr (k := t) ht)) (Is_cell _) (fun l h => by simp at h; rw [List.length_drop]; omega) ?_); intro v48 en48 w hO3 hs
        rw [← List.map_append, List.append_assoc, List.singleton_append] at hO3
        have hfin : ¬ (t < ls.length ∧ gi ls t = n) := fun h => by first | omega | (exact hc33 h.2)
        have hR3 := hR.put (k := t) (z := n) (take_all hlt) (drop_all fun j h1 h2 => by
          have h3 := hge j h1 h2
          by_cases e : j = t
          · subst e; omega
          · have := rise_gi hR (i := t) (j := j) (by omega) h2
            have := hge t (Nat.le_refl _) (by omega)
            omega)
        obtain ⟨H1, g1, r1, hs⟩ := OwnS.publishI hO3 (by simp; omega) hs .here
        refine .z zg (.nil ?_)
        refine .ret (Fin.ret1 Tryz.results164 rfl ?_)
        exact ⟨H1, _, g1, r1, hR3, by simp; omega, hs.out⟩
    · refine .gFs 6 4 true rfl rfl rfl ?_
      refine .z zpF (.nil ?_)
      refine (.condF rfl rfl ?_)
      refine .skip ?_
      refine nT ?_
      refine .regSeq ?_
      refine .o (.buildSlice (cells := []) hs bls_sl_int_0 rfl rfl ?_); intro b35 w hs
      refine .z zm (.z zm ?_)
      refine .q hs (q_sliceHX (k := t) rfl rfl Tryz.runUnderlying25 Tryz.sizeOf3 rfl (by omega)) ?_
      refine .o (.append (xs := []) (ys := Is (ls.take t)) hs app_sl_int_int rfl rfl (.full (len := 0) rfl) (.ints (RI.head hr (k := t) ht)) (Is_cell _) (fun l h => by simp at h; rw [List.length_take]; omega) ?_); intro v39 en39 w hO1 hs
      rw [List.nil_append] at hO1
      obtain ⟨a39, l39, c39, rfl, h39⟩ := hO1.shape
      refine .z zg (.nil (.regSeq (.z zm (.z zm ?_))))
      refine .o (.buildSlice (cells := [_]) hs bls_sl_int_1 rfl rfl ?_); intro b42 w hs
      refine .o (.append (ys := Is [n]) hs app_sl_int_int rfl rfl hO1 (.own .here rfl rfl) (Is_cell _) (fun l h => by simp at h; omega) ?_); intro v43 en43 w hO2 hs
      rw [← List.map_append] at hO2
      obtain ⟨a43, l43, c43, rfl, h43⟩ := hO2.shape
      refine .z zg (.nil (.regSeq (.z zm (.z zm (.z zm ?_)))))
      refine .q hs (q_sliceLX (k := t) rfl rfl Tryz.runUnderlying25 Tryz.sizeOf3 (by omega) (by omega)) ?_
      refine .o (.append (ys := Is (ls.drop t)) hs app_sl_int_int rfl rfl hO2 (.ints (RI.tail hr (k := t) ht)) (Is_cell _) (fun l h => by simp at h; rw [List.length_drop]; omega) ?_); intro v48 en48 w hO3 hs
      rw [← List.map_append, List.append_assoc, List.singleton_append] at hO3
      have hfin : ¬ (t < ls.length ∧ gi ls t = n) := fun h => by first | omega | (exact hc33 h.2)
      have hR3 := hR.put (k := t) (z := n) (take_all hlt) (drop_all fun j h1 h2 => by
        have h3 := hge j h1 h2
        by_cases e : j = t
        · subst e; omega
        · have := rise_gi hR (i := t) (j := j) (by omega) h2
          have := hge t (Nat.le_refl _) (by omega)
          omega)
      obtain ⟨H1, g1, r1, hs⟩ := OwnS.publishI hO3 (by simp; omega) hs .here
      refine .z zg (.nil ?_)
      refine .ret (Fin.ret1 Tryz.results164 rfl ?_)
      exact ⟨H1, _, g1, r1, hR3, by simp; omega, hs.out⟩
theorem ref02_Sources_spec {H : Heap} {w : World} {σ : List Ent} {v : Value} {s : Syst} (hs : St H w σ) (hr : RSy H v s) (hlen : s.lims.length ≤ 4398046510976) :
    Cl Tryz.prog 110 [v] w fun u w' => ∃ H1 L, HLe H H1 ∧ RI H1 u L ∧ L.length ≤ s.lims.length ∧ RiseOf (SrcS s.lims) L ∧ St H1 w' σ := by
  obtain ⟨ul, rfl, hl⟩ := hr
  obtain ⟨al, cl, rfl⟩ := RL.shape hl
  refine Cl.of Tryz.func110 rfl Tryz.ntmps110 (by simp) (args_cons (k := 0) rfl (args0)) ?_
  refine .regSeq ?_
  refine .o (.box hs rfl rfl ?_); intro b1 w hs
  refine .z zg (.nil (.regSeq (.z zg (.nil (.seq (.regSeq (.z (zfa fa_api_System_1) (.y hs (zld Tryz.isAgg22) (.z (zlen Tryz.runUnderlying22) ?_)))))))))
  refine .z zm (.nil ?_)
  refine .for (N := s.lims.length) (J := fun k fr w => ∃ v3 H1 L, fr = [(3, v3), (7, .slice al s.lims.length cl)] ∧ HLe H H1 ∧ RI H1 v3 L ∧ L.length ≤ k ∧ RiseOf (SrcS (s.lims.take k)) L ∧ St H1 w σ) (by omega) ?_ ?_ ?_
  · exact .mk ⟨_, H, [], rfl, HLe.refl H, RS.nil H 1 none 0, by simp, .nil (by simp [SrcS]), hs.out⟩
  · rintro k fr w hk ⟨v3, H1, L, rfl, hle1, hRL, hLk, hRise, hs⟩
    obtain ⟨x, hx⟩ := nth (l := s.lims) hk
    obtain ⟨a3, c3, rfl⟩ := RI.shape hRL
    refine .block (.regSeq ?_)
    refine .ixX (enc := Lim.c) hs (hl.mono hle1) rfl rfl Tryz.runUnderlying22 Tryz.sizeOf157 hx (by first | rfl | assumption | omega) ?_; intro b11 o11 hc11
    refine .q hs (q_loadsR (vs := (Lim.c x)) rfl Tryz.isAgg157 Tryz.sizeOf157 hc11) ?_
    refine .o (.alloc hs Tryz.zeroValue157 rfl ?_); intro b5 w hs
    refine .o (.stores (vs := x.c) hs rfl rfl Tryz.sizeOf157 ?_); intro w hs
    refine .nil (.region (.z zm (.z (zfa fa_api_Limit_3) (.y hs (zld Tryz.isAgg3) ?_))))
    refine .o (.call Tryz.call164 rfl (ref02_Put_spec hs hRL hRise (by omega)) ?_); rintro v16 w ⟨H2, L2, hle2, hRL2, hRise2, hL2, hs⟩
    refine .z zg (.nil ?_)
    refine nB (nT ?_)
    exact .mk ⟨_, H2, L2, rfl, hle1.trans hle2, hRL2, by omega, hRise2.congr fun y => by
      rw [take_snoc hx]
      simp only [SrcS, List.mem_append, List.mem_singleton]
      constructor
      · rintro (⟨l, h1, h2⟩ | h)
        · exact ⟨l, .inl h1, h2⟩
        · exact ⟨x, .inr rfl, h.symm⟩
      · rintro ⟨l, h1 | h1, h2⟩
        · exact .inl ⟨l, h1, h2⟩
        · subst h1; exact .inr h2.symm, hs.out⟩
  · rintro fr w ⟨v3, H1, L, rfl, hle1, hRL, hLk, hRise, hs⟩
    rw [List.take_length] at hRise
    refine nT ?_
    refine .regSeq (.z zm (.z zg (.nil ?_)))
    refine .ret (Fin.ret1 Tryz.results110 rfl ?_)
    exact ⟨H1, L, hle1, hRL, hLk, hRise, hs⟩
end Go.Proofs.YtiiokdeehlfeeaaGreat
