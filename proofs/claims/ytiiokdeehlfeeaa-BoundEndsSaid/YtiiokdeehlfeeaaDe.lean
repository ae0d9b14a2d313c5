/-
  Texts of these claims, joined: Wx Wy Wz Xb Xc Xe Xf Xg Xh Xi Xj Xk Xl Xn Xo Xq Xt Xu Xw Srt Ya Yb Yc Yd Ye.
-/
import Derived.Test.YtiiokdeehlfeeaaDd
import Derived.Shelf.Sort.Plain
import Derived.Shelf.Slices.CompactI
import Derived.Shelf.Slices.In.SortNone
import Derived.Lib.RowBridge
namespace Go.Proofs.Ytiiokdeehlfeeaa
open Go.MW
set_option maxHeartbeats 8000000 in
theorem ref02_Least_spec {H : Heap} {w : World} {σ : List Ent} {vm vw : Value} {Ms : List (List Int)} {ws : List Int} {n : Nat} {es : List Arc} (hs : St H w σ) (hM : RT H vm Ms) (hqM : Sq (n + 1) Ms) (hw : RI H vw ws) (hl : ws.length = n + 1) (hn : n + 1 ≤ 65) (hz : sizesTo ws (n + 1) ≤ FF)
    (hT : Tab (n + 1) (gt Ms) es) (hfe : ∃ p, Feas es p) (hcb : ∀ x ∈ es, -1400000 ≤ x.c ∧ x.c ≤ 1400000) (hbd : ∀ m, OptS es (wtOf ws (n + 1)) (n + 1) m → -BB ≤ m ∧ m ≤ BB) :
    Cl Try.prog 194 [vm, vw] w fun u w' => ∃ H1 v b, HLe H H1 ∧ u = .tuple #[I v, .bool b] ∧ ((b = true ∧ OptS es (wtOf ws (n + 1)) (n + 1) v) ∨ (b = false ∧ OpenS es (wtOf ws (n + 1)) (n + 1))) ∧ St H1 w' σ := by
  obtain ⟨am, cm, rfl⟩ := hM.shape
  have hml : Ms.length = n + 1 := hqM.1
  rw [hml] at hM ⊢
  have hnum := hT.numb
  have hC0 : ArcsC es (n + 1) := fun x hx => by
    have h1 := hT.ok x hx
    have h2 := (hT.at hx).2
    have h3 := hcb x hx
    exact ⟨h1.1, h1.2.1, h3.1, h3.2, by omega, h1.2.2.1⟩
  have hin : ∀ x ∈ es, x.f < n + 1 ∧ x.t < n + 1 := fun x hx => by have := hC0 x hx; omega
  have hw0 := wt_sum ws (n := n + 1) (by omega)
  have hFF : FF = 3600000000000 := rfl
  have hBB : BB = 4608000000000000000 := rfl
  have hfree : free = 1000000000 := rfl
  refine Cl.of Try.func194 rfl Try.ntmps194 (by simp) (args_cons (k := 0) rfl (args_cons (k := 1) rfl (args0))) ?_
  refine .regSeq (.z zg (.z zg (.nil (.regSeq (.z zm ?_)))))
  refine .o (.call Try.call208 rfl (ref02_balance_spec hs hw hl (by omega) hz) ?_); rintro _ w ⟨b21, cap, sp, lf0, rfl, hlf1, hlf2, hs⟩
  refine .z zg (.nil (.regSeq (.z zm (.z (zlen Try.runUnderlying87) ?_))))
  refine .o (.makeP (n + 1) hs rfl rfl Try.runUnderlying87 Try.typeInfo22 rfl Try.sizeOf22 Try.zeroValue22 (by omega) ?_); intro b24 w hs
  refine .z zg (.nil (.seq (.regSeq (.z zm (.z (zlen Try.runUnderlying87) (.z zm (.nil ?_)))))))
  refine .for (N := n + 1) (J := fun k fr w => fr = [(7, .slice (some ⟨b24, 0, none⟩) (n + 1) (n + 1)), (0, .slice am (n + 1) cm), (6, .slice (some ⟨b21, 0, none⟩) (n + 1) cap)] ∧ ∃ bs : List Nat, bs.length = k ∧ St H w (.blk b24 (bs.map (ptr (n + 1)) ++ List.replicate (n + 1 - k) (.slice none 0 0)) :: (rowsE bs (tabR (fun _ _ => 0) (n + 1) k) ++ (.blk b21 (Is lf0 ++ sp) :: σ)))) (by omega) ?_ ?_ ?_
  · exact .mk ⟨rfl, [], rfl, hs⟩
  · rintro k fr w hk ⟨rfl, bs, hbl, hs⟩
    refine .block (.regSeq (.z zm (.z zg (.nil (.region (.z zm (.z zm (.z zm (.z (zlen Try.runUnderlying87) ?_)))))))))
    refine .o (.makeI (n + 1) hs rfl rfl Try.runUnderlying22 Try.typeInfo3 rfl Try.sizeOf3 Try.zeroValue3 (by omega) ?_); intro b34 w hs
    first | (refine .ixw hs Try.runUnderlying87 Try.sizeOf22 ?_; intro b35 o35 hc35) | refine .z (zix Try.runUnderlying87 Try.sizeOf22) ?_
    refine .o (.store hs rfl rfl Try.sizeOf22 ?_ (by repeat constructor) (by simp [hbl]; omega) (ptr_set hbl hk)); intro w hs
    refine .nil ?_
    refine nB (nT ?_)
    rw [range_const (fun _ => 0) (n + 1) 0 (fun _ _ => rfl)] at hs
    replace hs := hs.rowIn (by rw [hbl, tabR_length])
    rw [← tabR_succ (fun _ _ => 0)] at hs
    exact .mk ⟨rfl, bs ++ [b34], by simp [hbl], hs⟩
  · rintro fr w ⟨rfl, bs, hbl, hs⟩
    rw [Nat.sub_self, List.replicate_zero, List.append_nil] at hs
    have hq0 := tabR_sq (fun _ _ => 0) (n + 1)
    have hc0 : Corr (n + 1) es (List.replicate es.length 0) (gt (tabR (fun _ _ => 0) (n + 1) (n + 1))) := by
      have h := Corr.zero (n + 1) hT
      exact ⟨h.len, fun x hx => by rw [h.arc x hx, tabR_gt _ (hin x hx).1 (hin x hx).2], fun a b ha hb _ => tabR_gt _ ha hb⟩
    have hF0 := FInv.start (es := es) hz hlf1 hlf2 hfe
    refine nT ?_
    refine .block ?_
    refine .loop (fun _ : List (List Int) × List Int × List Int => ⟨183, [], [(7, .slice (some ⟨b24, 0, none⟩) (n + 1) (n + 1)), (0, .slice am (n + 1) cm), (6, .slice (some ⟨b21, 0, none⟩) (n + 1) cap)]⟩) (fun p w => (Sq (n + 1) p.1 ∧ Corr (n + 1) es p.2.1 (gt p.1) ∧ FInv (n + 1) es (wtOf ws (n + 1)) p.2.1 p.2.2) ∧ ∃ H1, HLe H H1 ∧ St H1 w (.blk b24 (bs.map (ptr (n + 1))) :: (rowsE bs p.1 ++ (.blk b21 (Is p.2.2 ++ sp) :: σ)))) (fun p => (rem (n + 1) p.2.2).toNat) (tabR (fun _ _ => 0) (n + 1) (n + 1), List.replicate es.length 0, lf0) (by repeat (first | exact .nil rfl rfl | refine .cons rfl ?_)) ⟨⟨hq0, hc0, hF0⟩, H, HLe.refl H, hs⟩ ?_
    clear hq0 hc0 hF0 hlf1 hlf2 hs
    rintro ⟨Fs, ts, lf⟩ w ⟨⟨hqF, hC, hI⟩, H1, hle1, hs⟩
    dsimp only at hqF hC hI hs ⊢
    obtain ⟨D, hg⟩ := resid_VG (by omega) hn hC0 hI.lt.symm hI.fe
    have hfl := hqF.1
    have hll := hI.ll
    refine .block (.regSeq (.z zm (.z zm (.z zm ?_))))
    refine .o (.call Try.call209 rfl (ref02_reach_spec (need := lf) (spN := sp) hs (hM.mono hle1) hqM .here hbl hqF (fun i hi => .there (Mem.row (by omega) (by omega))) (.there (Mem.app2 .here)) hll hT hC hg) ?_); rintro _ w ⟨H2, vd, vb, s, hle2, rfl, hRd, hRb, hV, hs⟩
    obtain ⟨ad, cd, rfl⟩ := RI.shape hRd
    obtain ⟨ab, cb, eb⟩ := hRb.shape
    rw [List.length_map] at eb
    subst eb
    have hlc := hV.lc
    have hlb := hV.lb
    have hle02 := hle1.trans hle2
    refine .z zm (.z zex (.z zex (.z zg (.z zg (.nil (.regSeq (.z zg (.nil (.regSeq ?_)))))))))
    refine .z zg (.nil (.seq (.regSeq (.z zm (.z (zlen Try.runUnderlying22) (.z zm (.nil ?_)))))))
    refine .for (N := n + 1) (J := fun k fr w => ∃ to left, fr = [(11, I to), (12, .bool left), (44, .slice (some ⟨b21, 0, none⟩) (n + 1) cap), (7, .slice (some ⟨b24, 0, none⟩) (n + 1) (n + 1)), (0, .slice am (n + 1) cm), (6, .slice (some ⟨b21, 0, none⟩) (n + 1) cap), (9, .slice ad s.cost.length cd), (10, .slice ab s.by_.length cb)] ∧ Scan lf s.cost k to left ∧ St H2 w (.blk b24 (bs.map (ptr (n + 1))) :: (rowsE bs Fs ++ (.blk b21 (Is lf ++ sp) :: σ)))) (by omega) ?_ ?_ ?_
    · exact .mk ⟨-1, false, rfl, .start lf s.cost, hs⟩
    · rintro k fr w hk ⟨to, left, rfl, hSc, hs⟩
      have hto := hSc.lo
      have hto2 := hSc.som
      have hcap : k < n + 1 := hk
      refine .block (.regSeq (.z zm ?_))
      refine .q hs (q_ixO (k := k) rfl rfl Try.runUnderlying22 Try.sizeOf3 rfl hk) ?_
      refine .q hs (q_load rfl Try.isAgg3 (hm := .there (Mem.app2 .here)) (hv := Is_get (gi_get (l := lf) (i := k) (by omega)) sp)) ?_
      refine .z zg (.z zg (.nil (.regSeq (.z zm (.z zm ?_)))))
      refine .bif (t' := 52) rfl (fun hb52 => ?_) (fun hb52 => ?_)
      · refine .gFs 2 1 false rfl rfl rfl ?_
        refine .z zpT (.z zg (.nil ?_))
        refine WE.sub (t := ⟨183, [], [(12, .bool (left || decide (0 < gi lf k))), (13, I (k : Int)), (14, I (gi lf k)), (11, I to), (46, I (k : Int)), (45, I ((n + 1 : Nat) : Int)), (44, .slice (some ⟨b21, 0, none⟩) (n + 1) cap), (7, .slice (some ⟨b24, 0, none⟩) (n + 1) (n + 1)), (0, .slice am (n + 1) cm), (6, .slice (some ⟨b21, 0, none⟩) (n + 1) cap), (9, .slice ad s.cost.length cd), (10, .slice ab s.by_.length cb)]⟩) ?_ (by first | exact .consV rfl (by simp_all) (by repeat (first | exact .nil rfl rfl | refine .cons rfl ?_)) | repeat (first | exact .nil rfl rfl | refine .cons rfl ?_))
        refine .cut (fun fs w => ∃ p, FSub fs ⟨183, [], [(79, .bool p), (12, .bool (left || decide (0 < gi lf k))), (13, I (k : Int)), (11, I to), (46, I (k : Int)), (45, I ((n + 1 : Nat) : Int)), (44, .slice (some ⟨b21, 0, none⟩) (n + 1) cap), (7, .slice (some ⟨b24, 0, none⟩) (n + 1) (n + 1)), (0, .slice am (n + 1) cm), (6, .slice (some ⟨b21, 0, none⟩) (n + 1) cap), (9, .slice ad s.cost.length cd), (10, .slice ab s.by_.length cb)]⟩ ∧ (p = true → 0 < gi lf k ∧ gi s.cost k ≠ free) ∧ (p = false → ¬ 0 < gi lf k ∨ gi s.cost k = free ∨ 0 ≤ to) ∧ St H2 w (.blk b24 (bs.map (ptr (n + 1))) :: (rowsE bs Fs ++ (.blk b21 (Is lf ++ sp) :: σ)))) ?_ ?_
        · refine .draw mix rfl hs ?_; intro w hs
          refine .z 0 rfl zm ?_; refine .z 1 rfl zgtr ?_; refine .z 2 rfl zm ?_
          refine .bifD (t' := 58) rfl (fun hb58 => ?_) (fun hb58 => ?_)
          · refine .z 3 rfl zm ?_; refine .z 4 rfl zm ?_
            refine .ixX (enc := fun x => [I x]) (i := 5) hs rfl (by kernel_rfl) (.some rfl rfl) hRd rfl rfl Try.runUnderlying22 Try.sizeOf3 (gi_get (l := s.cost) (i := k) (by omega)) rfl ?_; intro b61 o61 hc61; replace hc61 := CellsAt.one hc61
            refine .r (i := 6) hs rfl (by kernel_rfl) (.some rfl rfl) (q_loadR rfl Try.isAgg3 hc61) ?_
            refine .z 7 rfl zneq ?_; refine .z 8 rfl zpT ?_; refine .z 9 rfl zm ?_
            refine .bifN (t' := 65) rfl (fun hb65 => ?_) (fun hb65 => ?_)
            · refine .z 10 rfl zm ?_; refine .z 11 rfl zlss ?_; refine .z 12 rfl zm ?_
              refine .bifD (t' := 68) rfl (fun hb68 => ?_) (fun hb68 => ?_)
              · refine .qF (i := 13) rfl (by kernel_rfl) rfl rfl ?_
                refine .qF (i := 14) rfl (by kernel_rfl) rfl rfl ?_
                refine .qF (i := 15) rfl (by kernel_rfl) rfl rfl ?_
                refine .qF (i := 16) rfl (by kernel_rfl) rfl rfl ?_
                refine .qF (i := 17) rfl (by kernel_rfl) rfl rfl ?_
                refine .qF (i := 18) rfl (by kernel_rfl) rfl rfl ?_
                refine .qF (i := 19) rfl (by kernel_rfl) rfl rfl ?_
                refine .qF (i := 20) rfl (by kernel_rfl) rfl rfl ?_
                refine .qF (i := 21) rfl (by kernel_rfl) rfl rfl ?_
                refine .z 22 rfl zpT ?_; refine .z 23 rfl zpT ?_
                refine .done (by kernel_rfl) hs ?_ (hp := by repeat (first | exact .nil | refine .cons (by first | exact HLe.bot _ | exact HLe.refl _ | assumption) (by first | exact .nil | (refine Sub.one ?_; repeat (first | exact .here | assumption | exact Mem.row (by omega) (by omega) | refine .there ?_ | refine Mem.app2 ?_))) ?_))
                exact nT ⟨_, by repeat (first | exact .nil rfl rfl | refine .cons rfl ?_), by
                  intro hp
                  first
                    | (cases hp; done)
                    | exact ⟨by assumption, by assumption⟩, by
                  intro hp
                  first
                    | (cases hp; done)
                    | exact .inl (by assumption)
                    | exact .inr (.inl (by first | assumption | omega))
                    | exact .inr (.inr (by omega)), hs⟩
              · refine .z 13 rfl zm ?_; refine .z 14 rfl zm ?_
                refine .ixX (enc := fun x => [I x]) (i := 15) hs rfl (by kernel_rfl) (.some rfl rfl) hRd rfl rfl Try.runUnderlying22 Try.sizeOf3 (gi_get (l := s.cost) (i := k) (by omega)) rfl ?_; intro b71 o71 hc71; replace hc71 := CellsAt.one hc71
                refine .r (i := 16) hs rfl (by kernel_rfl) (.some rfl rfl) (q_loadR rfl Try.isAgg3 hc71) ?_
                refine .z 17 rfl zm ?_; refine .z 18 rfl zm ?_
                refine .ixX (enc := fun x => [I x]) (i := 19) hs rfl (by kernel_rfl) (.some rfl rfl) hRd rfl rfl Try.runUnderlying22 Try.sizeOf3 (gi_get (l := s.cost) (i := to.toNat) (by omega)) (by omega) ?_; intro b75 o75 hc75; replace hc75 := CellsAt.one hc75
                refine .r (i := 20) hs rfl (by kernel_rfl) (.some rfl rfl) (q_loadR rfl Try.isAgg3 hc75) ?_
                refine .z 21 rfl zlss ?_; refine .z 22 rfl zpF ?_; refine .z 23 rfl zpT ?_
                refine .done (by kernel_rfl) hs ?_ (hp := by repeat (first | exact .nil | refine .cons (by first | exact HLe.bot _ | exact HLe.refl _ | assumption) (by first | exact .nil | (refine Sub.one ?_; repeat (first | exact .here | assumption | exact Mem.row (by omega) (by omega) | refine .there ?_ | refine Mem.app2 ?_))) ?_))
                exact nT ⟨_, by repeat (first | exact .nil rfl rfl | refine .cons rfl ?_), by
                  intro hp
                  first
                    | (cases hp; done)
                    | exact ⟨by assumption, by assumption⟩, by
                  intro hp
                  first
                    | (cases hp; done)
                    | exact .inl (by assumption)
                    | exact .inr (.inl (by first | assumption | omega))
                    | exact .inr (.inr (by omega)), hs⟩
            · refine .qF (i := 10) rfl (by kernel_rfl) rfl rfl ?_
              refine .qF (i := 11) rfl (by kernel_rfl) rfl rfl ?_
              refine .qF (i := 12) rfl (by kernel_rfl) rfl rfl ?_
              refine .qF (i := 13) rfl (by kernel_rfl) rfl rfl ?_
              refine .qF (i := 14) rfl (by kernel_rfl) rfl rfl ?_
              refine .qF (i := 15) rfl (by kernel_rfl) rfl rfl ?_
              refine .qF (i := 16) rfl (by kernel_rfl) rfl rfl ?_
              refine .qF (i := 17) rfl (by kernel_rfl) rfl rfl ?_
              refine .qF (i := 18) rfl (by kernel_rfl) rfl rfl ?_
              refine .qF (i := 19) rfl (by kernel_rfl) rfl rfl ?_
              refine .qF (i := 20) rfl (by kernel_rfl) rfl rfl ?_
              refine .qF (i := 21) rfl (by kernel_rfl) rfl rfl ?_
              refine .qF (i := 22) rfl (by kernel_rfl) rfl rfl ?_
              refine .z 23 rfl zpF ?_
              refine .done (by kernel_rfl) hs ?_ (hp := by repeat (first | exact .nil | refine .cons (by first | exact HLe.bot _ | exact HLe.refl _ | assumption) (by first | exact .nil | (refine Sub.one ?_; repeat (first | exact .here | assumption | exact Mem.row (by omega) (by omega) | refine .there ?_ | refine Mem.app2 ?_))) ?_))
              exact nT ⟨_, by repeat (first | exact .nil rfl rfl | refine .cons rfl ?_), by
                intro hp
                first
                  | (cases hp; done)
                  | exact ⟨by assumption, by assumption⟩, by
                intro hp
                first
                  | (cases hp; done)
                  | exact .inl (by assumption)
                  | exact .inr (.inl (by first | assumption | omega))
                  | exact .inr (.inr (by omega)), hs⟩
          · refine .qF (i := 3) rfl (by kernel_rfl) rfl rfl ?_
            refine .qF (i := 4) rfl (by kernel_rfl) rfl rfl ?_
            refine .qF (i := 5) rfl (by kernel_rfl) rfl rfl ?_
            refine .qF (i := 6) rfl (by kernel_rfl) rfl rfl ?_
            refine .qF (i := 7) rfl (by kernel_rfl) rfl rfl ?_
            refine .z 8 rfl zpF ?_; refine .z 9 rfl zm ?_
            refine .qF (i := 10) rfl (by kernel_rfl) rfl rfl ?_
            refine .qF (i := 11) rfl (by kernel_rfl) rfl rfl ?_
            refine .qF (i := 12) rfl (by kernel_rfl) rfl rfl ?_
            refine .qF (i := 13) rfl (by kernel_rfl) rfl rfl ?_
            refine .qF (i := 14) rfl (by kernel_rfl) rfl rfl ?_
            refine .qF (i := 15) rfl (by kernel_rfl) rfl rfl ?_
            refine .qF (i := 16) rfl (by kernel_rfl) rfl rfl ?_
            refine .qF (i := 17) rfl (by kernel_rfl) rfl rfl ?_
            refine .qF (i := 18) rfl (by kernel_rfl) rfl rfl ?_
            refine .qF (i := 19) rfl (by kernel_rfl) rfl rfl ?_
            refine .qF (i := 20) rfl (by kernel_rfl) rfl rfl ?_
            refine .qF (i := 21) rfl (by kernel_rfl) rfl rfl ?_
            refine .qF (i := 22) rfl (by kernel_rfl) rfl rfl ?_
            refine .z 23 rfl zpF ?_
            refine .done (by kernel_rfl) hs ?_ (hp := by repeat (first | exact .nil | refine .cons (by first | exact HLe.bot _ | exact HLe.refl _ | assumption) (by first | exact .nil | (refine Sub.one ?_; repeat (first | exact .here | assumption | exact Mem.row (by omega) (by omega) | refine .there ?_ | refine Mem.app2 ?_))) ?_))
            exact nT ⟨_, by repeat (first | exact .nil rfl rfl | refine .cons rfl ?_), by
              intro hp
              first
                | (cases hp; done)
                | exact ⟨by assumption, by assumption⟩, by
              intro hp
              first
                | (cases hp; done)
                | exact .inl (by assumption)
                | exact .inr (.inl (by first | assumption | omega))
                | exact .inr (.inr (by omega)), hs⟩
        · rintro fs w ⟨p, hfs, hp1, hp2, hs⟩
          refine WE.sub ?_ hfs
          refine (.cond rfl (fun hc79 => ?_) (fun hc79 => ?_))
          · refine .region (.z zm (.z zg (.nil ?_)))
            refine nB (nT ?_)
            obtain ⟨g1, g2⟩ := hp1 hc79
            exact .mk ⟨(k : Int), _, rfl, hSc.take g1 g2, hs⟩
          · refine .skip ?_
            refine nB (nT ?_)
            exact .mk ⟨to, _, rfl, hSc.skip (hp2 hc79), hs⟩
      · refine .gT rfl rfl ?_
        refine .z zm ?_
        refine .gT rfl rfl ?_
        refine .z zgtr (.z zpF (.z zg (.nil ?_)))
        refine WE.sub (t := ⟨183, [], [(12, .bool (left || decide (0 < gi lf k))), (13, I (k : Int)), (14, I (gi lf k)), (11, I to), (46, I (k : Int)), (45, I ((n + 1 : Nat) : Int)), (44, .slice (some ⟨b21, 0, none⟩) (n + 1) cap), (7, .slice (some ⟨b24, 0, none⟩) (n + 1) (n + 1)), (0, .slice am (n + 1) cm), (6, .slice (some ⟨b21, 0, none⟩) (n + 1) cap), (9, .slice ad s.cost.length cd), (10, .slice ab s.by_.length cb)]⟩) ?_ (by first | exact .consV rfl (by simp_all) (by repeat (first | exact .nil rfl rfl | refine .cons rfl ?_)) | repeat (first | exact .nil rfl rfl | refine .cons rfl ?_))
        refine .cut (fun fs w => ∃ p, FSub fs ⟨183, [], [(79, .bool p), (12, .bool (left || decide (0 < gi lf k))), (13, I (k : Int)), (11, I to), (46, I (k : Int)), (45, I ((n + 1 : Nat) : Int)), (44, .slice (some ⟨b21, 0, none⟩) (n + 1) cap), (7, .slice (some ⟨b24, 0, none⟩) (n + 1) (n + 1)), (0, .slice am (n + 1) cm), (6, .slice (some ⟨b21, 0, none⟩) (n + 1) cap), (9, .slice ad s.cost.length cd), (10, .slice ab s.by_.length cb)]⟩ ∧ (p = true → 0 < gi lf k ∧ gi s.cost k ≠ free) ∧ (p = false → ¬ 0 < gi lf k ∨ gi s.cost k = free ∨ 0 ≤ to) ∧ St H2 w (.blk b24 (bs.map (ptr (n + 1))) :: (rowsE bs Fs ++ (.blk b21 (Is lf ++ sp) :: σ)))) ?_ ?_
        · refine .draw mix rfl hs ?_; intro w hs
          refine .z 0 rfl zm ?_; refine .z 1 rfl zgtr ?_; refine .z 2 rfl zm ?_
          refine .bifD (t' := 58) rfl (fun hb58 => ?_) (fun hb58 => ?_)
          · refine .z 3 rfl zm ?_; refine .z 4 rfl zm ?_
            refine .ixX (enc := fun x => [I x]) (i := 5) hs rfl (by kernel_rfl) (.some rfl rfl) hRd rfl rfl Try.runUnderlying22 Try.sizeOf3 (gi_get (l := s.cost) (i := k) (by omega)) rfl ?_; intro b61 o61 hc61; replace hc61 := CellsAt.one hc61
            refine .r (i := 6) hs rfl (by kernel_rfl) (.some rfl rfl) (q_loadR rfl Try.isAgg3 hc61) ?_
            refine .z 7 rfl zneq ?_; refine .z 8 rfl zpT ?_; refine .z 9 rfl zm ?_
            refine .bifN (t' := 65) rfl (fun hb65 => ?_) (fun hb65 => ?_)
            · refine .z 10 rfl zm ?_; refine .z 11 rfl zlss ?_; refine .z 12 rfl zm ?_
              refine .bifD (t' := 68) rfl (fun hb68 => ?_) (fun hb68 => ?_)
              · refine .qF (i := 13) rfl (by kernel_rfl) rfl rfl ?_
                refine .qF (i := 14) rfl (by kernel_rfl) rfl rfl ?_
                refine .qF (i := 15) rfl (by kernel_rfl) rfl rfl ?_
                refine .qF (i := 16) rfl (by kernel_rfl) rfl rfl ?_
                refine .qF (i := 17) rfl (by kernel_rfl) rfl rfl ?_
                refine .qF (i := 18) rfl (by kernel_rfl) rfl rfl ?_
                refine .qF (i := 19) rfl (by kernel_rfl) rfl rfl ?_
                refine .qF (i := 20) rfl (by kernel_rfl) rfl rfl ?_
                refine .qF (i := 21) rfl (by kernel_rfl) rfl rfl ?_
                refine .z 22 rfl zpT ?_; refine .z 23 rfl zpT ?_
                refine .done (by kernel_rfl) hs ?_ (hp := by repeat (first | exact .nil | refine .cons (by first | exact HLe.bot _ | exact HLe.refl _ | assumption) (by first | exact .nil | (refine Sub.one ?_; repeat (first | exact .here | assumption | exact Mem.row (by omega) (by omega) | refine .there ?_ | refine Mem.app2 ?_))) ?_))
                exact nT ⟨_, by repeat (first | exact .nil rfl rfl | refine .cons rfl ?_), by
                  intro hp
                  first
                    | (cases hp; done)
                    | exact ⟨by assumption, by assumption⟩, by
                  intro hp
                  first
                    | (cases hp; done)
                    | exact .inl (by assumption)
                    | exact .inr (.inl (by first | assumption | omega))
                    | exact .inr (.inr (by omega)), hs⟩
              · refine .z 13 rfl zm ?_; refine .z 14 rfl zm ?_
                refine .ixX (enc := fun x => [I x]) (i := 15) hs rfl (by kernel_rfl) (.some rfl rfl) hRd rfl rfl Try.runUnderlying22 Try.sizeOf3 (gi_get (l := s.cost) (i := k) (by omega)) rfl ?_; intro b71 o71 hc71; replace hc71 := CellsAt.one hc71
                refine .r (i := 16) hs rfl (by kernel_rfl) (.some rfl rfl) (q_loadR rfl Try.isAgg3 hc71) ?_
                refine .z 17 rfl zm ?_; refine .z 18 rfl zm ?_
                refine .ixX (enc := fun x => [I x]) (i := 19) hs rfl (by kernel_rfl) (.some rfl rfl) hRd rfl rfl Try.runUnderlying22 Try.sizeOf3 (gi_get (l := s.cost) (i := to.toNat) (by omega)) (by omega) ?_; intro b75 o75 hc75; replace hc75 := CellsAt.one hc75
                refine .r (i := 20) hs rfl (by kernel_rfl) (.some rfl rfl) (q_loadR rfl Try.isAgg3 hc75) ?_
                refine .z 21 rfl zlss ?_; refine .z 22 rfl zpF ?_; refine .z 23 rfl zpT ?_
                refine .done (by kernel_rfl) hs ?_ (hp := by repeat (first | exact .nil | refine .cons (by first | exact HLe.bot _ | exact HLe.refl _ | assumption) (by first | exact .nil | (refine Sub.one ?_; repeat (first | exact .here | assumption | exact Mem.row (by omega) (by omega) | refine .there ?_ | refine Mem.app2 ?_))) ?_))
                exact nT ⟨_, by repeat (first | exact .nil rfl rfl | refine .cons rfl ?_), by
                  intro hp
                  first
                    | (cases hp; done)
                    | exact ⟨by assumption, by assumption⟩, by
                  intro hp
                  first
                    | (cases hp; done)
                    | exact .inl (by assumption)
                    | exact .inr (.inl (by first | assumption | omega))
                    | exact .inr (.inr (by omega)), hs⟩
            · refine .qF (i := 10) rfl (by kernel_rfl) rfl rfl ?_
              refine .qF (i := 11) rfl (by kernel_rfl) rfl rfl ?_
              refine .qF (i := 12) rfl (by kernel_rfl) rfl rfl ?_
              refine .qF (i := 13) rfl (by kernel_rfl) rfl rfl ?_
              refine .qF (i := 14) rfl (by kernel_rfl) rfl rfl ?_
              refine .qF (i := 15) rfl (by kernel_rfl) rfl rfl ?_
              refine .qF (i := 16) rfl (by kernel_rfl) rfl rfl ?_
              refine .qF (i := 17) rfl (by kernel_rfl) rfl rfl ?_
              refine .qF (i := 18) rfl (by kernel_rfl) rfl rfl ?_
              refine .qF (i := 19) rfl (by kernel_rfl) rfl rfl ?_
              refine .qF (i := 20) rfl (by kernel_rfl) rfl rfl ?_
              refine .qF (i := 21) rfl (by kernel_rfl) rfl rfl ?_
              refine .qF (i := 22) rfl (by kernel_rfl) rfl rfl ?_
              refine .z 23 rfl zpF ?_
              refine .done (by kernel_rfl) hs ?_ (hp := by repeat (first | exact .nil | refine .cons (by first | exact HLe.bot _ | exact HLe.refl _ | assumption) (by first | exact .nil | (refine Sub.one ?_; repeat (first | exact .here | assumption | exact Mem.row (by omega) (by omega) | refine .there ?_ | refine Mem.app2 ?_))) ?_))
              exact nT ⟨_, by repeat (first | exact .nil rfl rfl | refine .cons rfl ?_), by
                intro hp
                first
                  | (cases hp; done)
                  | exact ⟨by assumption, by assumption⟩, by
                intro hp
                first
                  | (cases hp; done)
                  | exact .inl (by assumption)
                  | exact .inr (.inl (by first | assumption | omega))
                  | exact .inr (.inr (by omega)), hs⟩
          · refine .qF (i := 3) rfl (by kernel_rfl) rfl rfl ?_
            refine .qF (i := 4) rfl (by kernel_rfl) rfl rfl ?_
            refine .qF (i := 5) rfl (by kernel_rfl) rfl rfl ?_
            refine .qF (i := 6) rfl (by kernel_rfl) rfl rfl ?_
            refine .qF (i := 7) rfl (by kernel_rfl) rfl rfl ?_
            refine .z 8 rfl zpF ?_; refine .z 9 rfl zm ?_
            refine .qF (i := 10) rfl (by kernel_rfl) rfl rfl ?_
            refine .qF (i := 11) rfl (by kernel_rfl) rfl rfl ?_
            refine .qF (i := 12) rfl (by kernel_rfl) rfl rfl ?_
            refine .qF (i := 13) rfl (by kernel_rfl) rfl rfl ?_
            refine .qF (i := 14) rfl (by kernel_rfl) rfl rfl ?_
            refine .qF (i := 15) rfl (by kernel_rfl) rfl rfl ?_
            refine .qF (i := 16) rfl (by kernel_rfl) rfl rfl ?_
            refine .qF (i := 17) rfl (by kernel_rfl) rfl rfl ?_
            refine .qF (i := 18) rfl (by kernel_rfl) rfl rfl ?_
            refine .qF (i := 19) rfl (by kernel_rfl) rfl rfl ?_
            refine .qF (i := 20) rfl (by kernel_rfl) rfl rfl ?_
            refine .qF (i := 21) rfl (by kernel_rfl) rfl rfl ?_
            refine .qF (i := 22) rfl (by kernel_rfl) rfl rfl ?_
            refine .z 23 rfl zpF ?_
            refine .done (by kernel_rfl) hs ?_ (hp := by repeat (first | exact .nil | refine .cons (by first | exact HLe.bot _ | exact HLe.refl _ | assumption) (by first | exact .nil | (refine Sub.one ?_; repeat (first | exact .here | assumption | exact Mem.row (by omega) (by omega) | refine .there ?_ | refine Mem.app2 ?_))) ?_))
            exact nT ⟨_, by repeat (first | exact .nil rfl rfl | refine .cons rfl ?_), by
              intro hp
              first
                | (cases hp; done)
                | exact ⟨by assumption, by assumption⟩, by
              intro hp
              first
                | (cases hp; done)
                | exact .inl (by assumption)
                | exact .inr (.inl (by first | assumption | omega))
                | exact .inr (.inr (by omega)), hs⟩
        · rintro fs w ⟨p, hfs, hp1, hp2, hs⟩
          refine WE.sub ?_ hfs
          refine (.cond rfl (fun hc79 => ?_) (fun hc79 => ?_))
          · refine .region (.z zm (.z zg (.nil ?_)))
            refine nB (nT ?_)
            obtain ⟨g1, g2⟩ := hp1 hc79
            exact .mk ⟨(k : Int), _, rfl, hSc.take g1 g2, hs⟩
          · refine .skip ?_
            refine nB (nT ?_)
            exact .mk ⟨to, _, rfl, hSc.skip (hp2 hc79), hs⟩
    · rintro fr w ⟨to, left, rfl, hSc, hs⟩
      refine nT ?_
      refine .seq (.regSeq (.z zm (.z zlss (.nil ?_))))
      refine (.condD rfl (fun hc83 => ?_) (fun hc83 => ?_))
      · refine .regSeq (.z zm (.z zm ?_))
        refine .o (.call Try.call210 rfl (ref02_cost_spec hs (hM.mono hle02) hqM (by omega) .here hbl hqF (fun i hi => .there (Mem.row (by omega) (by omega)))) ?_); rintro _ w ⟨rfl, hs⟩
        refine .z zm (.z znot (.z zg (.z zg (.nil ?_))))
        refine .ret (rT (rB (rT (rB (Fin.ret2 Try.results194 rfl rfl ?_)))))
        rw [← dot_cell hT hC hI.nn]
        cases left with
        | false =>
          have hno : ∀ v < n + 1, gi lf v ≤ 0 := fun v hv => Int.not_lt.1 fun h => by have := hSc.left_.2 ⟨v, hv, h⟩; cases this
          have hok := hI.ok hin hw0 hno
          obtain ⟨q, hqf⟩ := hok.fe
          have hO := (full_opt hin hok.lt (fun i hi => (hok.nn i hi).1) hok.full hqf).1
          have hb := hbd _ hO
          rw [i64wrap (by omega)]
          exact ⟨H2, _, true, hle02, rfl, .inl ⟨rfl, hO⟩, hs.tail.app2.tail⟩
        | true =>
          obtain ⟨v, hv, hp⟩ := hSc.left_.1 rfl
          have hf := hSc.non (by omega) v hv hp
          have hO := hI.open hin (R := fun v => gi s.cost v < free) (fun v hv hl => by have := hV.src v hv hl; omega) (hV.closed hg) hv (by rw [hf]; omega) hp
          exact ⟨H2, _, false, hle02, rfl, .inr ⟨rfl, hO⟩, hs.tail.app2.tail⟩
      · refine .skip ?_
        refine nT ?_
        refine .regSeq ?_
        obtain ⟨t, rfl⟩ := Int.eq_ofNat_of_zero_le (show 0 ≤ to by omega)
        obtain ⟨ht, htp, htf⟩ := hSc.som (by omega)
        rw [Int.toNat_natCast] at ht htp htf
        have htl : gi s.cost t < free := by have := hV.top t ht; omega
        obtain ⟨kk, cc, u, hB, hu, hk1, hk0, hcl, hway⟩ := hV.back hg ht htl htp
        have hW := hway _ rfl
        have hsg := hI.sg
        refine .z zm (.z zm ?_)
        refine .q hs (q_ixO (k := t) rfl rfl Try.runUnderlying22 Try.sizeOf3 rfl ht) ?_
        refine .q hs (q_load rfl Try.isAgg3 (hm := .there (Mem.app2 .here)) (hv := Is_get (gi_get (l := lf) (i := t) (by omega)) sp)) ?_
        refine .z zg (.nil (.regSeq (.z zm (.z zg (.nil (.seq (.block ?_)))))))
        refine .loop (fun p : Nat × Nat => ⟨183, [], [(16, I (p.2 : Int)), (15, I (least es ts (gi lf t) (trail s.by_ t p.1))), (11, I (t : Int)), (7, .slice (some ⟨b24, 0, none⟩) (n + 1) (n + 1)), (0, .slice am (n + 1) cm), (6, .slice (some ⟨b21, 0, none⟩) (n + 1) cap), (9, .slice ad s.cost.length cd), (10, .slice ab s.by_.length cb)]⟩) (fun p w => AtW s.by_ t kk u p.1 p.2 ∧ (p.2 < n + 1 ∧ gi s.cost p.2 < free) ∧ St H2 w (.blk b24 (bs.map (ptr (n + 1))) :: (rowsE bs Fs ++ (.blk b21 (Is lf ++ sp) :: σ)))) (fun p => kk - p.1) (0, t) (by repeat (first | exact .nil rfl rfl | refine .cons rfl ?_)) ⟨.start hB, ⟨ht, htl⟩, hs⟩ ?_
        rintro ⟨i, v⟩ w ⟨hA, ⟨hv, hvf⟩, hs⟩
        dsimp only at hA hv hvf ⊢
        have hby := hV.by1 v hv hvf
        refine .cut (fun fs w => FSub fs ⟨183, [], [(16, I (v : Int)), (15, I (least es ts (gi lf t) (trail s.by_ t i))), (11, I (t : Int)), (7, .slice (some ⟨b24, 0, none⟩) (n + 1) (n + 1)), (0, .slice am (n + 1) cm), (6, .slice (some ⟨b21, 0, none⟩) (n + 1) cap), (9, .slice ad s.cost.length cd), (10, .slice ab s.by_.length cb)]⟩ ∧ 0 ≤ (ga s.by_ v).l ∧ St H2 w (.blk b24 (bs.map (ptr (n + 1))) :: (rowsE bs Fs ++ (.blk b21 (Is lf ++ sp) :: σ)))) ?_ ?_
        · refine .regSeq (.z zm (.z zm ?_))
          refine .q hs (q_ixO (k := v) rfl rfl Try.runUnderlying22 Try.sizeOf3 rfl hv) ?_
          refine .q hs (q_load rfl Try.isAgg3 (hm := .there (Mem.app2 .here)) (hv := Is_get (gi_get (l := lf) (i := v) (by omega)) sp)) ?_
          refine .z zgeq (.z zm ?_)
          refine .bifD (t' := 99) rfl (fun hb99 => ?_) (fun hb99 => ?_)
          · refine .gFs 6 5 false rfl rfl rfl ?_
            refine .z zpT (.nil ?_)
            refine (.condT rfl rfl ?_)
            refine .skip ?_
            refine nT ?_
            exact ⟨by repeat (first | exact .nil rfl rfl | refine .cons rfl ?_), by
              rcases hby with ⟨_, h, _⟩ | h
              · omega
              · exact h.1, hs⟩
          · refine .gT rfl rfl ?_
            refine .z zm ?_
            refine .gT rfl rfl ?_
            refine .z zm ?_
            refine .gT rfl rfl ?_
            refine .ixX (enc := stepC es) hs hRb rfl rfl Try.runUnderlying239 Try.sizeOf244 (ga_get (l := s.by_) (i := v) (by omega)) rfl ?_; intro b102 o102 hc102
            rw [stepC_eq] at hc102
            refine .gT rfl rfl ?_
            refine .z (zfa fa_moorsomref02_step_0) ?_
            refine .gT rfl rfl ?_
            refine .q hs (q_loadR rfl Try.isAgg3 (hc102.get 0 rfl)) ?_
            refine .gT rfl rfl ?_
            refine .z zgeq (.z zpF (.nil ?_))
            refine (.condD rfl (fun hc106 => ?_) (fun hc106 => ?_))
            · refine .skip ?_
              refine nT ?_
              exact ⟨by repeat (first | exact .nil rfl rfl | refine .cons rfl ?_), stepF_ge hc106, hs⟩
            · refine .exit ?_
              refine xT (xT (xB (nT ?_)))
              refine .regSeq ?_
              obtain ⟨ei, ev⟩ := hA.stop (stepF_neg hc106)
              subst ei; subst ev
              obtain ⟨m0, m1, m2, m3⟩ := much_pos hI.lt.symm hnum hW
              have hsv := hsg v hv
              have hst := hsg t ht
              have hmu : min (least es ts (gi lf t) (trail s.by_ t i)) (-gi lf v) = much es ts lf (trail s.by_ t i).reverse v t := by
                unfold much
                rw [least_rev, ← least_min, Int.min_comm]
              have hsend := hI.send hnum hW (by rw [List.length_reverse, trail_length]; omega)
              have hmem : ∀ x ∈ trail s.by_ t i, x ∈ resid es ts := fun x hx => hW.mem x (List.mem_reverse.2 hx)
              rw [pushes_rev (fun x hx => (of_resid hI.lt.symm hnum (hmem x hx)).2.1)] at hsend
              generalize hm : much es ts lf (trail s.by_ t i).reverse v t = m at *
              have hvt : v ≠ t := fun e => by have := hW.lu; rw [e] at this; omega
              refine .z zm (.z zm (.z zm ?_))
              refine .q hs (q_ixO (k := v) rfl rfl Try.runUnderlying22 Try.sizeOf3 rfl hv) ?_
              refine .q hs (q_load rfl Try.isAgg3 (hm := .there (Mem.app2 .here)) (hv := Is_get (gi_get (l := lf) (i := v) (by omega)) sp)) ?_
              refine .z zneg (.z zmin ?_)
              rw [hmu]
              refine .z zg (.nil (.seq (.regSeq (.z zm (.z zg (.nil (.block ?_)))))))
              refine .loop (fun p : Nat × Nat × List (List Int) => ⟨183, [], [(18, I (p.2.1 : Int)), (16, I (v : Int)), (15, I m), (11, I (t : Int)), (7, .slice (some ⟨b24, 0, none⟩) (n + 1) (n + 1)), (0, .slice am (n + 1) cm), (6, .slice (some ⟨b21, 0, none⟩) (n + 1) cap), (9, .slice ad s.cost.length cd), (10, .slice ab s.by_.length cb)]⟩) (fun p w => AtW s.by_ t i v p.1 p.2.1 ∧ (p.2.1 < n + 1 ∧ gi s.cost p.2.1 < free) ∧ (Sq (n + 1) p.2.2 ∧ Corr (n + 1) es (pushes es m ts (trail s.by_ t p.1)) (gt p.2.2)) ∧ St H2 w (.blk b24 (bs.map (ptr (n + 1))) :: (rowsE bs p.2.2 ++ (.blk b21 (Is lf ++ sp) :: σ)))) (fun p => i - p.1) (0, t, Fs) (by repeat (first | exact .nil rfl rfl | refine .cons rfl ?_)) ⟨.start hB, ⟨ht, htl⟩, ⟨hqF, hC⟩, hs⟩ ?_
              clear hA hby
              rintro ⟨j, y, Fs'⟩ w ⟨hA, ⟨hy, hyf⟩, ⟨hqF', hC'⟩, hs⟩
              dsimp only at hA hy hyf hqF' hC' hs ⊢
              have hfl' := hqF'.1
              refine .seq (.regSeq (.z zm (.z zm (.z zneq (.nil ?_)))))
              refine (.condN rfl (fun hc135 => ?_) (fun hc135 => ?_))
              · refine .skip ?_
                refine nT ?_
                refine .seq (.block (.regSeq ?_))
                have hl0 := hA.ne (by omega)
                obtain ⟨hik, hA', htr⟩ := hA.next hl0 hu
                obtain ⟨hxm, hxt, hxf⟩ : ga s.by_ y ∈ resid es ts ∧ (ga s.by_ y).t = y ∧ gi s.cost (ga s.by_ y).f < free := by
                  rcases hV.by1 y hy hyf with ⟨h, _⟩ | ⟨_, h1, h2, h3, _⟩
                  · omega
                  · exact ⟨h1, h2, h3⟩
                have hxn := (hg.ok _ hxm).1
                have hsF := stepF_pos hl0
                have hxb : (ga s.by_ y).l.toNat < ts.length := (of_resid hI.lt.symm hnum hxm).2.1
                have hpb := pushes_bd (es := es) (ts := ts) (p := trail s.by_ t j) (m := m) (by omega) (by omega) (by rw [trail_length]; omega) (fun x hx => by
                  have h1 := trail_mem (A := fun v => v < n + 1 ∧ gi s.cost v < free) (B := fun x => x ∈ resid es ts) (fun v hv hl => by
                    rcases hV.by1 v hv.1 hv.2 with ⟨h, _⟩ | ⟨_, h1, h2, h3, _⟩
                    · omega
                    · exact ⟨h1, (hg.ok _ h1).1, h3⟩) hA.bk.choose_spec ⟨ht, htl⟩ x hx
                  exact (of_resid hI.lt.symm hnum h1).2.1) (ga s.by_ y).l.toNat
                have hnn := hI.nn (ga s.by_ y).l.toNat (by rw [← hI.lt]; exact hxb)
                have htb := hI.tb (ga s.by_ y).l.toNat (by rw [← hI.lt]; exact hxb)
                have hrm : 0 ≤ rem (n + 1) lf := sumTo_nonneg fun v _ => by omega
                generalize hgx : ga s.by_ y = x at *
                refine .z zm (.z zm ?_)
                refine .ixX (enc := stepC es) hs hRb rfl rfl Try.runUnderlying239 Try.sizeOf244 (ga_get (l := s.by_) (i := y) (by omega)) rfl ?_; intro b143 o143 hc143
                rw [hgx, stepC_eq] at hc143
                refine .q hs (q_loadsR (vs := [I (stepF x), .bool (stepB es x)]) rfl Try.isAgg244 Try.sizeOf244 hc143) ?_
                refine .o (.alloc hs Try.zeroValue244 rfl ?_); intro b19 w hs
                refine .o (.stores (vs := [I (stepF x), .bool (stepB es x)]) hs rfl rfl Try.sizeOf244 ?_); intro w hs
                refine .nil (.regSeq (.z (zfa fa_moorsomref02_step_1) ?_))
                first | refine .q hs (q_load rfl Try.isAgg4 (hm := by repeat (first | exact .here | assumption | exact Mem.row (by omega) (by omega) | refine .there ?_ | refine Mem.app2 ?_)) (hv := by first | rfl | exact ptr_get (by omega) | exact Is_gt (by assumption) (by omega) (by omega) | exact Is_gi (by first | assumption | omega))) ?_ | refine .q hs (q_loadR rfl Try.isAgg4 (by assumption)) ?_
                refine .nil ?_
                refine (.cond rfl (fun hc146 => ?_) (fun hc146 => ?_))
                · refine .draw mix rfl hs ?_; intro w hs
                  have hnf := stepB_t hc146
                  obtain ⟨hcb, z, hz1, hz2⟩ := hC.back hT hxm hnf
                  have hgz : gt Fs' y x.f = gi (pushes es m ts (trail s.by_ t j)) x.l.toNat := by
                    have := hC'.arc z hz1
                    rw [hz2] at hxt ⊢
                    rw [← hxt]; exact this.symm
                  have hpu := (hC'.push hT (y := x) (.inr ⟨z, hz1, hz2⟩) m).2 hnf
                  rw [hxt] at hpu
                  rw [← pushes_snoc, ← htr] at hpu
                  refine .z 0 rfl zm ?_; refine .z 1 rfl zm ?_
                  refine .p (i := 2) rfl (by kernel_rfl) .none (q_ixO (k := y) rfl rfl Try.runUnderlying87 Try.sizeOf22 rfl hy) ?_
                  first | refine .load (i := 3) hs rfl (by kernel_rfl) .none rfl Try.isAgg22 ?_ (by repeat (first | exact .here | assumption | exact Mem.row (by omega) (by omega) | refine .there ?_ | refine Mem.app2 ?_)) (by first | rfl | exact ptr_get (by omega) | exact Is_gt (by assumption) (by omega) (by omega) | exact Is_gi (by first | assumption | omega)) | refine .r (i := 3) hs rfl (by kernel_rfl) .none (q_loadR rfl Try.isAgg22 (by assumption)) ?_
                  refine .z 4 rfl (zfa fa_moorsomref02_step_0) ?_
                  first | refine .load (i := 5) hs rfl (by kernel_rfl) .none rfl Try.isAgg3 ?_ (by repeat (first | exact .here | assumption | exact Mem.row (by omega) (by omega) | refine .there ?_ | refine Mem.app2 ?_)) (by first | rfl | exact ptr_get (by omega) | exact Is_gt (by assumption) (by omega) (by omega) | exact Is_gi (by first | assumption | omega)) | refine .r (i := 5) hs rfl (by kernel_rfl) .none (q_loadR rfl Try.isAgg3 (by assumption)) ?_
                  rw [hsF] at hs ⊢
                  refine .p (i := 6) rfl (by kernel_rfl) .none (q_ixO (k := x.f) rfl rfl Try.runUnderlying22 Try.sizeOf3 rfl hxn) ?_
                  first | refine .load (i := 7) hs rfl (by kernel_rfl) .none rfl Try.isAgg3 ?_ (by repeat (first | exact .here | assumption | exact Mem.row (by omega) (by omega) | refine .there ?_ | refine Mem.app2 ?_)) (by first | rfl | exact ptr_get (by omega) | exact Is_gt (by assumption) (by omega) (by omega) | exact Is_gi (by first | assumption | omega)) | refine .r (i := 7) hs rfl (by kernel_rfl) .none (q_loadR rfl Try.isAgg3 (by assumption)) ?_
                  refine .z 8 rfl zm ?_; refine .z 9 rfl zsub ?_
                  refine .p (i := 10) rfl (by kernel_rfl) .none (q_ixO (k := x.f) rfl rfl Try.runUnderlying22 Try.sizeOf3 rfl hxn) ?_
                  refine .e1 (i := 11) (by kernel_rfl) rfl rfl .none hs ?_ (hp := by repeat (first | exact .nil | refine .cons (by first | exact HLe.bot _ | exact HLe.refl _ | assumption) (by first | exact .nil | (refine Sub.one ?_; repeat (first | exact .here | assumption | exact Mem.row (by omega) (by omega) | refine .there ?_ | refine Mem.app2 ?_))) ?_))
                  refine .store hs rfl rfl Try.sizeOf3 ?_ (.there (.there (Upd.row _ (by omega) (by omega)))) (blt_Is (by rw [hqF'.2 _ hy]; exact hxn)) (Is_set _ _ _); intro w hs
                  refine .go ?_
                  refine .done (by kernel_rfl) hs ?_ (hp := by repeat (first | exact .nil | refine .cons (by first | exact HLe.bot _ | exact HLe.refl _ | assumption) (by first | exact .nil | (refine Sub.one ?_; repeat (first | exact .here | assumption | exact Mem.row (by omega) (by omega) | refine .there ?_ | refine Mem.app2 ?_))) ?_))
                  refine nB (nT ?_)
                  refine .region (.z zm (.z zm ?_))
                  refine .ixX (enc := stepC es) hs hRb rfl rfl Try.runUnderlying239 Try.sizeOf244 (ga_get (l := s.by_) (i := y) (by omega)) rfl ?_; intro b138 o138 hc138
                  rw [hgx, stepC_eq] at hc138
                  refine .z (zfa fa_moorsomref02_step_0) ?_
                  refine .q hs (q_loadR rfl Try.isAgg3 (hc138.get 0 rfl)) ?_
                  rw [hsF]
                  refine .z zg (.nil ?_)
                  refine nT ?_
                  exact ⟨(j + 1, x.f, _), by repeat (first | exact .nil rfl rfl | refine .cons rfl ?_), ⟨hA', ⟨hxn, hxf⟩, ⟨hqF'.set hy _, by rw [gt_set hqF' hy hxn]; exact hpu⟩, hs.tail⟩, by dsimp only; omega⟩
                · refine .region ?_
                  have hnf := stepB_f hl0 (by simpa using hc146)
                  have hxe := hC.forth hT hxm hnf
                  have hgz : gt Fs' x.f y = gi (pushes es m ts (trail s.by_ t j)) x.l.toNat := by
                    have := hC'.arc x hxe
                    rw [hxt] at this; exact this.symm
                  have hpu := (hC'.push hT (y := x) (.inl hxe) m).1 hnf
                  rw [hxt] at hpu
                  rw [← pushes_snoc, ← htr] at hpu
                  refine .z zm (.z (zfa fa_moorsomref02_step_0) ?_)
                  first | refine .q hs (q_load rfl Try.isAgg3 (hm := by repeat (first | exact .here | assumption | exact Mem.row (by omega) (by omega) | refine .there ?_ | refine Mem.app2 ?_)) (hv := by first | rfl | exact ptr_get (by omega) | exact Is_gt (by assumption) (by omega) (by omega) | exact Is_gi (by first | assumption | omega))) ?_ | refine .q hs (q_loadR rfl Try.isAgg3 (by assumption)) ?_
                  rw [hsF]
                  refine .q hs (q_ixO (k := x.f) rfl rfl Try.runUnderlying87 Try.sizeOf22 rfl hxn) ?_
                  first | refine .q hs (q_load rfl Try.isAgg22 (hm := by repeat (first | exact .here | assumption | exact Mem.row (by omega) (by omega) | refine .there ?_ | refine Mem.app2 ?_)) (hv := by first | rfl | exact ptr_get (by omega) | exact Is_gt (by assumption) (by omega) (by omega) | exact Is_gi (by first | assumption | omega))) ?_ | refine .q hs (q_loadR rfl Try.isAgg22 (by assumption)) ?_
                  refine .z zm ?_
                  refine .q hs (q_ixO (k := y) rfl rfl Try.runUnderlying22 Try.sizeOf3 rfl hy) ?_
                  first | refine .q hs (q_load rfl Try.isAgg3 (hm := by repeat (first | exact .here | assumption | exact Mem.row (by omega) (by omega) | refine .there ?_ | refine Mem.app2 ?_)) (hv := by first | rfl | exact ptr_get (by omega) | exact Is_gt (by assumption) (by omega) (by omega) | exact Is_gi (by first | assumption | omega))) ?_ | refine .q hs (q_loadR rfl Try.isAgg3 (by assumption)) ?_
                  refine .z zm (.z zadd ?_)
                  refine .q hs (q_ixO (k := y) rfl rfl Try.runUnderlying22 Try.sizeOf3 rfl hy) ?_
                  refine .o (.store hs rfl rfl Try.sizeOf3 ?_ (.there (.there (Upd.row _ (by omega) (by omega)))) (blt_Is (by rw [hqF'.2 _ hxn]; exact hy)) (Is_set _ _ _)); intro w hs
                  refine .nil ?_
                  refine nB (nT ?_)
                  refine .region (.z zm (.z zm ?_))
                  refine .ixX (enc := stepC es) hs hRb rfl rfl Try.runUnderlying239 Try.sizeOf244 (ga_get (l := s.by_) (i := y) (by omega)) rfl ?_; intro b138 o138 hc138
                  rw [hgx, stepC_eq] at hc138
                  refine .z (zfa fa_moorsomref02_step_0) ?_
                  refine .q hs (q_loadR rfl Try.isAgg3 (hc138.get 0 rfl)) ?_
                  rw [hsF]
                  refine .z zg (.nil ?_)
                  refine nT ?_
                  exact ⟨(j + 1, x.f, _), by repeat (first | exact .nil rfl rfl | refine .cons rfl ?_), ⟨hA', ⟨hxn, hxf⟩, ⟨hqF'.set hxn _, by rw [gt_set hqF' hxn hy]; exact hpu⟩, hs.tail⟩, by dsimp only; omega⟩
              · refine .exit ?_
                refine xT (xT (xB (nT ?_)))
                refine .regSeq ?_
                have hyv : y = v := by omega
                subst hyv
                obtain ⟨ej, -⟩ := hA.stop hu
                subst ej
                refine .z zm (.z zm ?_)
                refine .q hs (q_ixO (k := y) rfl rfl Try.runUnderlying22 Try.sizeOf3 rfl hv) ?_
                refine .q hs (q_load rfl Try.isAgg3 (hm := .there (Mem.app2 .here)) (hv := Is_get (gi_get (l := lf) (i := y) (by omega)) sp)) ?_
                refine .z zm (.z zadd ?_)
                refine .q hs (q_ixO (k := y) rfl rfl Try.runUnderlying22 Try.sizeOf3 rfl hv) ?_
                refine .o (.store hs rfl rfl Try.sizeOf3 ?_ (.there (Upd.app2 .here)) (by simp; omega) (set_sp (by omega) _ sp)); intro w hs
                refine .nil (.region (.z zm (.z zm ?_)))
                refine .q hs (q_ixO (k := t) rfl rfl Try.runUnderlying22 Try.sizeOf3 rfl ht) ?_
                have hgt : gi (lf.set y (gi lf y + m)) t = gi lf t := by rw [gi_set (by omega), if_neg (Ne.symm hvt)]
                refine .q hs (q_load rfl Try.isAgg3 (hm := .there (Mem.app2 .here)) (hv := Is_get (gi_get (l := lf.set y (gi lf y + m)) (i := t) (by rw [List.length_set]; omega)) sp)) ?_
                refine .z zm (.z zsub ?_)
                refine .q hs (q_ixO (k := t) rfl rfl Try.runUnderlying22 Try.sizeOf3 rfl ht) ?_
                refine .o (.store hs rfl rfl Try.sizeOf3 ?_ (.there (Upd.app2 .here)) (by simp; omega) (set_sp (by rw [List.length_set]; omega) _ sp)); intro w hs
                refine .nil ?_
                refine nB (nT ?_)
                have hrm : 0 ≤ rem (n + 1) (lfTo lf m y t) := sumTo_nonneg fun v _ => by omega
                exact ⟨(Fs', pushes es m ts (trail s.by_ t j), lfTo lf m y t), by repeat (first | exact .nil rfl rfl | refine .cons rfl ?_), ⟨⟨hqF', hC', hsend.1⟩, H2, hle02, hs⟩, by dsimp only; have := hsend.2; omega⟩
        · rintro fs w ⟨hfs, hl0, hs⟩
          refine WE.sub ?_ hfs
          obtain ⟨hik, hA', htr⟩ := hA.next hl0 hu
          obtain ⟨hxm, hxt, hxf⟩ : ga s.by_ v ∈ resid es ts ∧ (ga s.by_ v).t = v ∧ gi s.cost (ga s.by_ v).f < free := by
            rcases hby with ⟨h, _⟩ | ⟨_, h1, h2, h3, _⟩
            · omega
            · exact ⟨h1, h2, h3⟩
          have hxn := (hg.ok _ hxm).1
          have hsF := stepF_pos hl0
          generalize hgx : ga s.by_ v = x at *
          refine .block (.regSeq (.z zm (.z zm ?_)))
          refine .ixX (enc := stepC es) hs hRb rfl rfl Try.runUnderlying239 Try.sizeOf244 (ga_get (l := s.by_) (i := v) (by omega)) rfl ?_; intro b109 o109 hc109
          rw [hgx, stepC_eq] at hc109
          refine .q hs (q_loadsR (vs := [I (stepF x), .bool (stepB es x)]) rfl Try.isAgg244 Try.sizeOf244 hc109) ?_
          refine .o (.alloc hs Try.zeroValue244 rfl ?_); intro b17 w hs
          refine .o (.stores (vs := [I (stepF x), .bool (stepB es x)]) hs rfl rfl Try.sizeOf244 ?_); intro w hs
          refine .nil (.seq (.regSeq (.z (zfa fa_moorsomref02_step_1) ?_)))
          first | refine .q hs (q_load rfl Try.isAgg4 (hm := by repeat (first | exact .here | assumption | exact Mem.row (by omega) (by omega) | refine .there ?_ | refine Mem.app2 ?_)) (hv := by first | rfl | exact ptr_get (by omega) | exact Is_gt (by assumption) (by omega) (by omega) | exact Is_gi (by first | assumption | omega))) ?_ | refine .q hs (q_loadR rfl Try.isAgg4 (by assumption)) ?_
          refine .nil ?_
          refine (.cond rfl (fun hc112 => ?_) (fun hc112 => ?_))
          · refine .draw mix rfl hs ?_; intro w hs
            refine .z 0 rfl zm ?_; refine .z 1 rfl zm ?_; refine .z 2 rfl zm ?_
            refine .p (i := 3) rfl (by kernel_rfl) .none (q_ixO (k := v) rfl rfl Try.runUnderlying87 Try.sizeOf22 rfl hv) ?_
            first | refine .load (i := 4) hs rfl (by kernel_rfl) .none rfl Try.isAgg22 ?_ (by repeat (first | exact .here | assumption | exact Mem.row (by omega) (by omega) | refine .there ?_ | refine Mem.app2 ?_)) (by first | rfl | exact ptr_get (by omega) | exact Is_gt (by assumption) (by omega) (by omega) | exact Is_gi (by first | assumption | omega)) | refine .r (i := 4) hs rfl (by kernel_rfl) .none (q_loadR rfl Try.isAgg22 (by assumption)) ?_
            refine .z 5 rfl (zfa fa_moorsomref02_step_0) ?_
            first | refine .load (i := 6) hs rfl (by kernel_rfl) .none rfl Try.isAgg3 ?_ (by repeat (first | exact .here | assumption | exact Mem.row (by omega) (by omega) | refine .there ?_ | refine Mem.app2 ?_)) (by first | rfl | exact ptr_get (by omega) | exact Is_gt (by assumption) (by omega) (by omega) | exact Is_gi (by first | assumption | omega)) | refine .r (i := 6) hs rfl (by kernel_rfl) .none (q_loadR rfl Try.isAgg3 (by assumption)) ?_
            rw [hsF] at hs ⊢
            refine .p (i := 7) rfl (by kernel_rfl) .none (q_ixO (k := x.f) rfl rfl Try.runUnderlying22 Try.sizeOf3 rfl hxn) ?_
            first | refine .load (i := 8) hs rfl (by kernel_rfl) .none rfl Try.isAgg3 ?_ (by repeat (first | exact .here | assumption | exact Mem.row (by omega) (by omega) | refine .there ?_ | refine Mem.app2 ?_)) (by first | rfl | exact ptr_get (by omega) | exact Is_gt (by assumption) (by omega) (by omega) | exact Is_gi (by first | assumption | omega)) | refine .r (i := 8) hs rfl (by kernel_rfl) .none (q_loadR rfl Try.isAgg3 (by assumption)) ?_
            refine .z 9 rfl zmin ?_; refine .z 10 rfl zg ?_
            refine .done (by kernel_rfl) hs ?_ (hp := by repeat (first | exact .nil | refine .cons (by first | exact HLe.bot _ | exact HLe.refl _ | assumption) (by first | exact .nil | (refine Sub.one ?_; repeat (first | exact .here | assumption | exact Mem.row (by omega) (by omega) | refine .there ?_ | refine Mem.app2 ?_))) ?_))
            refine nT ?_
            refine .region (.z (zfa fa_moorsomref02_step_0) ?_)
            first | refine .q hs (q_load rfl Try.isAgg3 (hm := by repeat (first | exact .here | assumption | exact Mem.row (by omega) (by omega) | refine .there ?_ | refine Mem.app2 ?_)) (hv := by first | rfl | exact ptr_get (by omega) | exact Is_gt (by assumption) (by omega) (by omega) | exact Is_gi (by first | assumption | omega))) ?_ | refine .q hs (q_loadR rfl Try.isAgg3 (by assumption)) ?_
            try rw [hsF]
            refine .z zg (.nil ?_)
            refine nB (nT ?_)
            have hnf := stepB_t hc112
            have hcb := (hC.back hT hxm hnf).1
            rw [hxt] at hcb
            exact ⟨(i + 1, x.f), .cons rfl (.consI rfl (by dsimp only; rw [htr, least_snoc, if_neg hnf, hcb]) (by repeat (first | exact .nil rfl rfl | refine .cons rfl ?_))), ⟨hA', ⟨hxn, hxf⟩, hs.tail⟩, by dsimp only; omega⟩
          · refine .skip ?_
            refine nT ?_
            refine .region (.z (zfa fa_moorsomref02_step_0) ?_)
            first | refine .q hs (q_load rfl Try.isAgg3 (hm := by repeat (first | exact .here | assumption | exact Mem.row (by omega) (by omega) | refine .there ?_ | refine Mem.app2 ?_)) (hv := by first | rfl | exact ptr_get (by omega) | exact Is_gt (by assumption) (by omega) (by omega) | exact Is_gi (by first | assumption | omega))) ?_ | refine .q hs (q_loadR rfl Try.isAgg3 (by assumption)) ?_
            try rw [hsF]
            refine .z zg (.nil ?_)
            refine nB (nT ?_)
            have hnf := stepB_f hl0 (by simpa using hc112)
            exact ⟨(i + 1, x.f), .cons rfl (.consI rfl (by dsimp only; rw [htr, least_snoc, if_pos hnf]) (by repeat (first | exact .nil rfl rfl | refine .cons rfl ?_))), ⟨hA', ⟨hxn, hxf⟩, hs.tail⟩, by dsimp only; omega⟩
end Go.Proofs.Ytiiokdeehlfeeaa

namespace Go.Proofs.Ytiiokdeehlfeeaa
open Go.MW
theorem notdec_true {p : Prop} [Decidable p] : (!decide p) = true ↔ ¬ p := by simp
theorem notdec_false {p : Prop} [Decidable p] : (!decide p) = false ↔ p := by simp
theorem ref02_within_spec {H : Heap} {w : World} {σ : List Ent} {a0 a1 a2 : Int} (hs : St H w σ) : Cl Try.prog 111 [I a0, I a1, I a2] w fun v w' => v = .bool (decide (a1 ≤ a0 ∧ a0 ≤ a2)) ∧ St H w' σ := by
  refine Cl.of Try.func111 rfl Try.ntmps111 (by simp) (args_cons (k := 0) rfl (args_cons (k := 1) rfl (args_cons (k := 2) rfl (args0)))) ?_
  refine .regSeq (.z zg (.nil (.regSeq (.z zm (.z zm (.z zleq (.z zm ?_)))))))
  refine .bifD (t' := 10) rfl (fun hb10 => ?_) (fun hb10 => ?_)
  · refine .gT rfl rfl ?_
    refine .z zm ?_
    refine .gT rfl rfl ?_
    refine .z zm ?_
    refine .gT rfl rfl ?_
    refine .z zleq (.z zpT (.z zg (.nil ?_)))
    refine .ret (Fin.ret1 Try.results111 rfl ?_)
    exact ⟨by simp [*], hs.out⟩
  · refine .gFs 3 3 true rfl rfl rfl ?_
    refine .z zpF (.z zg (.nil ?_))
    refine .ret (Fin.ret1 Try.results111 rfl ?_)
    exact ⟨by simp [*], hs.out⟩
theorem ref02_CheckLimit_spec {H : Heap} {w : World} {σ : List Ent} {many : Int} {l : Lim} (hs : St H w σ) : Cl Try.prog 71 [I many, .agg l.c.toArray] w fun v w' => v = I (if decide (0 ≤ many ∧ many ≤ 64) && l.ok many then 0 else 20) ∧ St H w' σ := by
  refine Cl.of Try.func71 rfl Try.ntmps71 (by simp) (args_cons (k := 0) rfl (args_cons (k := 1) rfl (args0))) ?_
  refine .regSeq ?_
  refine .o (.box hs rfl rfl ?_); intro b3 w hs
  refine .z zg (.nil (.seq (.regSeq (.z zm ?_))))
  refine .o (.call Try.call111 rfl (ref02_within_spec hs) ?_); rintro _ w ⟨rfl, hs⟩
  refine .z znot (.z zm ?_)
  refine .bif (t' := 8) rfl (fun hb8 => ?_) (fun hb8 => ?_)
  · refine .gFs 5 3 false rfl rfl rfl ?_
    refine .z zpT (.z zm ?_)
    refine .gFs 5 10 false rfl rfl rfl ?_
    refine .z zpT (.z zm ?_)
    refine .gFs 5 17 false rfl rfl rfl ?_
    refine .z zpT (.z zm ?_)
    refine .gFs 4 24 false rfl rfl rfl ?_
    refine .z zpT (.z zm ?_)
    refine .gFs 4 30 false rfl rfl rfl ?_
    refine .z zpT (.nil ?_)
    refine (.condT rfl rfl ?_)
    refine .regSeq (.z zg (.nil ?_))
    refine .ret (rT (Fin.ret1 Try.results71 rfl ?_))
    (try simp only [notdec_true] at *)
    (try simp only [notdec_false] at *)
    refine ⟨congrArg I ?_, hs.out⟩
    unfold Lim.ok
    first
      | (rw [if_pos (by simp only [Bool.and_eq_true, decide_eq_true_eq]; omega)]; done)
      | (rw [if_neg (by simp only [Bool.and_eq_true, decide_eq_true_eq]; omega)]; done)
  · refine .gT rfl rfl ?_
    refine .z (zfa fa_api_Limit_0) ?_
    refine .gT rfl rfl ?_
    refine .y hs (zld Try.isAgg3) ?_
    refine .gT rfl rfl ?_
    refine .z zm ?_
    refine .gT rfl rfl ?_
    refine .o (.call Try.call111 rfl (ref02_within_spec hs) ?_); rintro _ w ⟨rfl, hs⟩
    refine .gT rfl rfl ?_
    refine .z znot (.z zpF (.z zm ?_))
    refine .bif (t' := 15) rfl (fun hb15 => ?_) (fun hb15 => ?_)
    · refine .gFs 5 10 false rfl rfl rfl ?_
      refine .z zpT (.z zm ?_)
      refine .gFs 5 17 false rfl rfl rfl ?_
      refine .z zpT (.z zm ?_)
      refine .gFs 4 24 false rfl rfl rfl ?_
      refine .z zpT (.z zm ?_)
      refine .gFs 4 30 false rfl rfl rfl ?_
      refine .z zpT (.nil ?_)
      refine (.condT rfl rfl ?_)
      refine .regSeq (.z zg (.nil ?_))
      refine .ret (rT (Fin.ret1 Try.results71 rfl ?_))
      (try simp only [notdec_true] at *)
      (try simp only [notdec_false] at *)
      refine ⟨congrArg I ?_, hs.out⟩
      unfold Lim.ok
      first
        | (rw [if_pos (by simp only [Bool.and_eq_true, decide_eq_true_eq]; omega)]; done)
        | (rw [if_neg (by simp only [Bool.and_eq_true, decide_eq_true_eq]; omega)]; done)
    · refine .gT rfl rfl ?_
      refine .z (zfa fa_api_Limit_1) ?_
      refine .gT rfl rfl ?_
      refine .y hs (zld Try.isAgg3) ?_
      refine .gT rfl rfl ?_
      refine .z zm ?_
      refine .gT rfl rfl ?_
      refine .o (.call Try.call111 rfl (ref02_within_spec hs) ?_); rintro _ w ⟨rfl, hs⟩
      refine .gT rfl rfl ?_
      refine .z znot (.z zpF (.z zm ?_))
      refine .bif (t' := 22) rfl (fun hb22 => ?_) (fun hb22 => ?_)
      · refine .gFs 5 17 false rfl rfl rfl ?_
        refine .z zpT (.z zm ?_)
        refine .gFs 4 24 false rfl rfl rfl ?_
        refine .z zpT (.z zm ?_)
        refine .gFs 4 30 false rfl rfl rfl ?_
        refine .z zpT (.nil ?_)
        refine (.condT rfl rfl ?_)
        refine .regSeq (.z zg (.nil ?_))
        refine .ret (rT (Fin.ret1 Try.results71 rfl ?_))
        (try simp only [notdec_true] at *)
        (try simp only [notdec_false] at *)
        refine ⟨congrArg I ?_, hs.out⟩
        unfold Lim.ok
        first
          | (rw [if_pos (by simp only [Bool.and_eq_true, decide_eq_true_eq]; omega)]; done)
          | (rw [if_neg (by simp only [Bool.and_eq_true, decide_eq_true_eq]; omega)]; done)
      · refine .gT rfl rfl ?_
        refine .z (zfa fa_api_Limit_0) ?_
        refine .gT rfl rfl ?_
        refine .y hs (zld Try.isAgg3) ?_
        refine .gT rfl rfl ?_
        refine .z (zfa fa_api_Limit_1) ?_
        refine .gT rfl rfl ?_
        refine .y hs (zld Try.isAgg3) ?_
        refine .gT rfl rfl ?_
        refine .z zeql (.z zpF (.z zm ?_))
        refine .bifD (t' := 29) rfl (fun hb29 => ?_) (fun hb29 => ?_)
        · refine .gFs 4 24 false rfl rfl rfl ?_
          refine .z zpT (.z zm ?_)
          refine .gFs 4 30 false rfl rfl rfl ?_
          refine .z zpT (.nil ?_)
          refine (.condT rfl rfl ?_)
          refine .regSeq (.z zg (.nil ?_))
          refine .ret (rT (Fin.ret1 Try.results71 rfl ?_))
          (try simp only [notdec_true] at *)
          (try simp only [notdec_false] at *)
          refine ⟨congrArg I ?_, hs.out⟩
          unfold Lim.ok
          first
            | (rw [if_pos (by simp only [Bool.and_eq_true, decide_eq_true_eq]; omega)]; done)
            | (rw [if_neg (by simp only [Bool.and_eq_true, decide_eq_true_eq]; omega)]; done)
        · refine .gT rfl rfl ?_
          refine .z (zfa fa_api_Limit_2) ?_
          refine .gT rfl rfl ?_
          refine .y hs (zld Try.isAgg3) ?_
          refine .gT rfl rfl ?_
          refine .o (.call Try.call111 rfl (ref02_within_spec hs) ?_); rintro _ w ⟨rfl, hs⟩
          refine .gT rfl rfl ?_
          refine .z znot (.z zpF (.z zm ?_))
          refine .bif (t' := 35) rfl (fun hb35 => ?_) (fun hb35 => ?_)
          · refine .gFs 4 30 false rfl rfl rfl ?_
            refine .z zpT (.nil ?_)
            refine (.condT rfl rfl ?_)
            refine .regSeq (.z zg (.nil ?_))
            refine .ret (rT (Fin.ret1 Try.results71 rfl ?_))
            (try simp only [notdec_true] at *)
            (try simp only [notdec_false] at *)
            refine ⟨congrArg I ?_, hs.out⟩
            unfold Lim.ok
            first
              | (rw [if_pos (by simp only [Bool.and_eq_true, decide_eq_true_eq]; omega)]; done)
              | (rw [if_neg (by simp only [Bool.and_eq_true, decide_eq_true_eq]; omega)]; done)
          · refine .gT rfl rfl ?_
            refine .z (zfa fa_api_Limit_3) ?_
            refine .gT rfl rfl ?_
            refine .y hs (zld Try.isAgg3) ?_
            refine .gT rfl rfl ?_
            refine .o (.call Try.call111 rfl (ref02_within_spec hs) ?_); rintro _ w ⟨rfl, hs⟩
            refine .gT rfl rfl ?_
            refine .z znot (.z zpF (.nil ?_))
            refine (.cond rfl (fun hc40 => ?_) (fun hc40 => ?_))
            · refine .regSeq (.z zg (.nil ?_))
              refine .ret (rT (Fin.ret1 Try.results71 rfl ?_))
              (try simp only [notdec_true] at *)
              (try simp only [notdec_false] at *)
              refine ⟨congrArg I ?_, hs.out⟩
              unfold Lim.ok
              first
                | (rw [if_pos (by simp only [Bool.and_eq_true, decide_eq_true_eq]; omega)]; done)
                | (rw [if_neg (by simp only [Bool.and_eq_true, decide_eq_true_eq]; omega)]; done)
            · refine .skip ?_
              refine nT ?_
              refine .regSeq (.z zg (.nil ?_))
              refine .ret (Fin.ret1 Try.results71 rfl ?_)
              (try simp only [notdec_true] at *)
              (try simp only [notdec_false] at *)
              refine ⟨congrArg I ?_, hs.out⟩
              unfold Lim.ok
              first
                | (rw [if_pos (by simp only [Bool.and_eq_true, decide_eq_true_eq]; omega)]; done)
                | (rw [if_neg (by simp only [Bool.and_eq_true, decide_eq_true_eq]; omega)]; done)
theorem ref02_Check_spec {H : Heap} {w : World} {σ : List Ent} {v : Value} {s : Syst} (hs : St H w σ) (hr : RSy H v s) : Cl Try.prog 73 [v] w fun v w' => v = I s.check ∧ St H w' σ := by
  obtain ⟨u, rfl, hr⟩ := hr
  obtain ⟨a, c, rfl⟩ := RL.shape hr
  have hlen := (RS.len (RS.recap hr (Nat.le_refl _) (cap' := s.lims.length))).2.2
  refine Cl.of Try.func73 rfl Try.ntmps73 (by simp) (args_cons (k := 0) rfl (args0)) ?_
  refine .regSeq ?_
  refine .o (.box hs rfl rfl ?_); intro b1 w hs
  refine .z zg (.nil (.seq (.regSeq (.z (zfa fa_api_System_0) (.y hs (zld Try.isAgg3) ?_)))))
  refine .o (.call Try.call111 rfl (ref02_within_spec hs) ?_); rintro _ w ⟨rfl, hs⟩
  refine .z znot (.nil ?_)
  refine (.cond rfl (fun hc8 => ?_) (fun hc8 => ?_))
  · refine .regSeq (.z zg (.nil ?_))
    refine .ret (rT (Fin.ret1 Try.results73 rfl ?_))
    exact ⟨congrArg I (by unfold Syst.check; rw [if_pos (by simp at hc8; omega)]), hs.out⟩
  · refine .skip ?_
    refine nT ?_
    refine .seq (.regSeq (.z (zfa fa_api_System_1) (.y hs (zld Try.isAgg30) (.z (zlen Try.runUnderlying30) (.z zgtr (.nil ?_))))))
    refine (.condD rfl (fun hc12 => ?_) (fun hc12 => ?_))
    · refine .regSeq (.z zg (.nil ?_))
      refine .ret (rT (Fin.ret1 Try.results73 rfl ?_))
      exact ⟨congrArg I (by unfold Syst.check; rw [if_neg (by simpa using hc8), if_pos (by omega)]), hs.out⟩
    · refine .skip ?_
      refine nT ?_
      refine .seq (.regSeq (.z (zfa fa_api_System_1) (.y hs (zld Try.isAgg30) (.z (zlen Try.runUnderlying30) (.z zm (.nil ?_))))))
      refine .for (N := s.lims.length) (J := fun k fr w => fr = [(14, .slice a s.lims.length c), (1, .pointer (some ⟨b1, 0, none⟩))] ∧ (∀ j < k, ∀ l, s.lims[j]? = some l → l.ok s.many = true) ∧ St H w (.blk b1 [I s.many, .slice a s.lims.length c] :: σ)) (by omega) ?_ ?_ ?_
      · exact .mk ⟨rfl, fun j hj => by omega, hs⟩
      · rintro k fr w hk ⟨rfl, hno, hs⟩
        obtain ⟨x, hx⟩ := nth (l := s.lims) hk
        refine .block (.regSeq ?_)
        refine .ixX (enc := Lim.c) hs hr rfl rfl Try.runUnderlying30 Try.sizeOf100 hx rfl ?_; intro b18 o18 hc18
        refine .q hs (q_loadsR (vs := x.c) rfl Try.isAgg100 Try.sizeOf100 hc18) ?_
        refine .o (.alloc hs Try.zeroValue100 rfl ?_); intro b4 w hs
        refine .o (.stores (vs := x.c) hs rfl rfl Try.sizeOf100 ?_); intro w hs
        refine .nil (.regSeq (.z (zfa fa_api_System_0) (.y hs (zld Try.isAgg3) ?_)))
        refine .q hs (q_loads (vs := x.c) rfl Try.isAgg100 Try.sizeOf100) ?_
        refine .o (.call Try.call71 rfl (ref02_CheckLimit_spec hs) ?_); rintro _ w ⟨rfl, hs⟩
        have hmm : 0 ≤ s.many ∧ s.many ≤ 64 := by simpa using hc8
        rw [show (decide (0 ≤ s.many ∧ s.many ≤ 64) && x.ok s.many) = x.ok s.many by rw [decide_eq_true hmm]; rfl]
        refine .z zneq (.nil ?_)
        refine (.condN rfl (fun hc24 => ?_) (fun hc24 => ?_))
        · refine .regSeq (.z zg (.nil ?_))
          refine .ret (rB (rT (rB (rT (Fin.ret1 Try.results73 rfl ?_)))))
          exact ⟨congrArg I (by
            have hx0 : x.ok s.many = false := by cases e : x.ok s.many with | false => rfl | true => rw [e] at hc24; simp at hc24
            unfold Syst.check; rw [if_neg (by simpa using hc8), if_neg (by omega), if_pos (List.any_eq_true.2 ⟨x, List.mem_of_getElem? hx, by rw [hx0]; rfl⟩)]), hs.out⟩
        · refine .skip ?_
          refine nB (nT ?_)
          exact .mk ⟨rfl, upto_succ hno hx (by cases e : x.ok s.many with | true => rfl | false => rw [e] at hc24; simp at hc24), hs.tail⟩
      · rintro fr w ⟨rfl, hno, hs⟩
        refine nT ?_
        refine .regSeq (.z zg (.nil ?_))
        refine .ret (Fin.ret1 Try.results73 rfl ?_)
        exact ⟨congrArg I (by
          have hall : (s.lims.any fun l => !l.ok s.many) = false := by
            simp only [List.any_eq_false, Bool.not_eq_true', Bool.not_eq_false]
            intro l hl
            obtain ⟨j, hj⟩ := List.getElem?_of_mem hl
            exact hno j (List.getElem?_eq_some_iff.1 hj).1 l hj
          unfold Syst.check; rw [if_neg (by simpa using hc8), if_neg (by omega), hall]; rfl), hs.out⟩
theorem ref02_sized_spec {H : Heap} {w : World} {σ : List Ent} {v : Value} {ws : List Int} (hs : St H w σ) (hr : RI H v ws) : Cl Try.prog 171 [v] w fun v w' => ∃ b, v = .bool b ∧ (b = true ↔ SizedW ws) ∧ St H w' σ := by
  obtain ⟨a, c, rfl⟩ := RI.shape hr
  have hl := (RI.len hr).2.2
  refine Cl.of Try.func171 rfl Try.ntmps171 (by simp) (args_cons (k := 0) rfl (args0)) ?_
  refine .regSeq (.z zg (.nil (.regSeq (.z zg (.nil (.seq (.regSeq (.z zm (.z (zlen Try.runUnderlying22) ?_)))))))))
  refine .z zm (.nil ?_)
  refine .for (N := ws.length) (J := fun k fr w => fr = [(6, .slice a ws.length c), (3, I (sizesTo ws k))] ∧ sizesTo ws k ≤ 3600000000000 ∧ St H w σ) (by omega) ?_ ?_ ?_
  · exact .mk ⟨rfl, by simp [sizesTo, sumTo], hs⟩
  · rintro k fr w hk ⟨rfl, hle, hs⟩
    have hx := gi_get hk
    have h0 : 0 ≤ sizesTo ws k := sumTo_nonneg fun v _ => by omega
    have h1 : sizesTo ws (k + 1) = sizesTo ws k + max (gi ws k) (-gi ws k) := rfl
    refine .block (.regSeq ?_)
    first | (refine .ixv hs Try.runUnderlying22 Try.sizeOf3 ?_; intro b10 o10 hc10) | refine .z (zix Try.runUnderlying22 Try.sizeOf3) ?_
    refine .y hs (zld Try.isAgg3) (.z zg (.nil (.seq (.regSeq (.z zm (.z zlss (.z zm ?_)))))))
    refine .bifD (t' := 14) rfl (fun hb14 => ?_) (fun hb14 => ?_)
    · refine .gFs 2 2 false rfl rfl rfl ?_
      refine .z zpT (.nil ?_)
      refine (.condT rfl rfl ?_)
      refine .regSeq (.z zg (.nil ?_))
      refine .ret (rT (rB (rT (rB (rT (Fin.ret1 Try.results171 rfl ?_))))))
      exact ⟨false, rfl, ⟨fun h => (by cases h), fun h => (sizes_over (k := k + 1) hk (by simp only [FF]; omega) h).elim⟩, hs⟩
    · refine .gT rfl rfl ?_
      refine .z zm ?_
      refine .gT rfl rfl ?_
      refine .z zgtr (.z zpF (.nil ?_))
      refine (.condD rfl (fun hc17 => ?_) (fun hc17 => ?_))
      · refine .regSeq (.z zg (.nil ?_))
        refine .ret (rT (rB (rT (rB (rT (Fin.ret1 Try.results171 rfl ?_))))))
        exact ⟨false, rfl, ⟨fun h => (by cases h), fun h => (sizes_over (k := k + 1) hk (by simp only [FF]; omega) h).elim⟩, hs⟩
      · refine .skip ?_
        refine nT ?_
        refine .regSeq (.z zm (.z zm (.z zm (.z zneg (.z zmax (.z zadd (.z zg (.nil (.regSeq ?_)))))))))
        refine .z zm (.z zgtr (.nil ?_))
        refine (.condD rfl (fun hc25 => ?_) (fun hc25 => ?_))
        · refine .regSeq (.z zg (.nil ?_))
          refine .ret (rB (rT (rB (rT (Fin.ret1 Try.results171 rfl ?_)))))
          exact ⟨false, rfl, ⟨fun h => (by cases h), fun h => (sizes_over (k := k + 1) hk (by simp only [FF]; omega) h).elim⟩, hs⟩
        · refine .skip ?_
          refine nB (nT ?_)
          exact .mk ⟨rfl, by omega, hs⟩ (hs := .cons rfl (.cons rfl (.cons rfl (.consI rfl (by omega) (.nil rfl rfl)))))
  · rintro fr w ⟨rfl, hle, hs⟩
    refine nT ?_
    refine .regSeq (.z zg (.nil ?_))
    refine .ret (Fin.ret1 Try.results171 rfl ?_)
    exact ⟨true, rfl, ⟨fun _ => hle, fun _ => rfl⟩, hs⟩
theorem ref02_Weights_spec {H : Heap} {w : World} {σ : List Ent} {v vw : Value} {s : Syst} {ws : List Int} (hs : St H w σ) (hr : RSy H v s) (hrw : RI H vw ws) (hm : 0 ≤ s.many ∧ s.many ≤ 64) : Cl Try.prog 117 [v, vw] w fun v w' => ∃ b, v = .bool b ∧ (b = true ↔ (ws.length = s.n ∧ SizedW ws)) ∧ St H w' σ := by
  obtain ⟨u, rfl, hr⟩ := hr
  obtain ⟨aw, cw, rfl⟩ := RI.shape hrw
  have hn : (s.n : Int) = s.many + 1 := by simp only [Syst.n]; omega
  refine Cl.of Try.func117 rfl Try.ntmps117 (by simp) (args_cons (k := 0) rfl (args_cons (k := 1) rfl (args0))) ?_
  refine .regSeq ?_
  refine .o (.box hs rfl rfl ?_); intro b2 w hs
  refine .z zg (.nil (.regSeq (.z zm (.z (zlen Try.runUnderlying22) (.z (zfa fa_api_System_0) (.y hs (zld Try.isAgg3) (.z zadd (.z zeql (.z zm ?_)))))))))
  refine .bifD (t' := 11) rfl (fun hb11 => ?_) (fun hb11 => ?_)
  · refine .gT rfl rfl ?_
    refine .z zm ?_
    refine .gT rfl rfl ?_
    refine .o (.call Try.call171 rfl (ref02_sized_spec hs hrw) ?_); rintro _ w ⟨b, rfl, hb, hs⟩
    refine .z zpT (.z zg (.nil ?_))
    refine .ret (Fin.ret1 Try.results117 rfl ?_)
    first
      | exact ⟨b, rfl, ⟨fun h => ⟨by omega, hb.1 h⟩, fun h => hb.2 h.2⟩, hs.out⟩
      | exact ⟨false, rfl, ⟨fun h => (by cases h), fun h => by omega⟩, hs.out⟩
  · refine .gFs 2 6 true rfl rfl rfl ?_
    refine .z zpF (.z zg (.nil ?_))
    refine .ret (Fin.ret1 Try.results117 rfl ?_)
    first
      | exact ⟨b, rfl, ⟨fun h => ⟨by omega, hb.1 h⟩, fun h => hb.2 h.2⟩, hs.out⟩
      | exact ⟨false, rfl, ⟨fun h => (by cases h), fun h => by omega⟩, hs.out⟩
theorem ref02_asked_spec {H : Heap} {w : World} {σ : List Ent} {v vw : Value} {s : Syst} {ws : List Int} (hs : St H w σ) (hr : RSy H v s) (hrw : RI H vw ws) : Cl Try.prog 110 [v, vw] w fun v w' => v = I (askErr s ws) ∧ St H w' σ := by
  obtain ⟨u, rfl, hr⟩ := hr
  obtain ⟨al, cl, rfl⟩ := RL.shape hr
  obtain ⟨aw, cw, rfl⟩ := RI.shape hrw
  refine Cl.of Try.func110 rfl Try.ntmps110 (by simp) (args_cons (k := 0) rfl (args_cons (k := 1) rfl (args0))) ?_
  refine .regSeq ?_
  refine .o (.box hs rfl rfl ?_); intro b2 w hs
  refine .z zg (.nil (.regSeq (.y hs (zls [_, _] Try.isAgg32 Try.sizeOf32) ?_)))
  refine .o (.call Try.call73 rfl (ref02_Check_spec (s := s) hs ⟨_, rfl, hr⟩) ?_); rintro _ w ⟨rfl, hs⟩
  refine .z zg (.nil (.seq (.regSeq (.z zm (.z zeql (.z zm ?_))))))
  refine .bifD (t' := 10) rfl (fun hb10 => ?_) (fun hb10 => ?_)
  · refine .gT rfl rfl ?_
    have hok := s.ok_iff.1 hb10
    have hm0 := hok.m0; have hm1 := hok.m1
    refine .y hs (zls [_, _] Try.isAgg32 Try.sizeOf32) ?_
    refine .gT rfl rfl ?_
    refine .z zm ?_
    refine .gT rfl rfl ?_
    refine .o (.call Try.call117 rfl (ref02_Weights_spec (s := s) hs ⟨_, rfl, hr⟩ hrw ⟨hm0, hm1⟩) ?_); rintro _ w ⟨b, rfl, hb, hs⟩
    refine .gT rfl rfl ?_
    refine .z znot (.z zpT (.nil ?_))
    refine (.cond rfl (fun hc15 => ?_) (fun hc15 => ?_))
    · refine .region (.z zg (.nil ?_))
      refine nT ?_
      refine .regSeq (.z zm (.z zg (.nil ?_)))
      refine .ret (Fin.ret1 Try.results110 rfl ?_)
      refine ⟨congrArg I ?_, hs.out⟩
      unfold askErr
      first
        | (rw [if_neg (by omega), if_neg (fun h => by have := hb.2 h; simp_all)]; done)
        | (rw [if_neg (by omega), if_pos (hb.1 (by simpa using hc15))]; omega)
        | (rw [if_pos (by assumption)]; done)
    · refine .skip ?_
      refine nT ?_
      refine .regSeq (.z zm (.z zg (.nil ?_)))
      refine .ret (Fin.ret1 Try.results110 rfl ?_)
      refine ⟨congrArg I ?_, hs.out⟩
      unfold askErr
      first
        | (rw [if_neg (by omega), if_neg (fun h => by have := hb.2 h; simp_all)]; done)
        | (rw [if_neg (by omega), if_pos (hb.1 (by simpa using hc15))]; omega)
        | (rw [if_pos (by assumption)]; done)
  · refine .gFs 4 2 true rfl rfl rfl ?_
    refine .z zpF (.nil ?_)
    refine (.condF rfl rfl ?_)
    refine .skip ?_
    refine nT ?_
    refine .regSeq (.z zm (.z zg (.nil ?_)))
    refine .ret (Fin.ret1 Try.results110 rfl ?_)
    refine ⟨congrArg I ?_, hs.out⟩
    unfold askErr
    first
      | (rw [if_neg (by omega), if_neg (fun h => by have := hb.2 h; simp_all)]; done)
      | (rw [if_neg (by omega), if_pos (hb.1 (by simpa using hc15))]; omega)
      | (rw [if_pos (by assumption)]; done)
theorem ref02_Negative_spec {H : Heap} {w : World} {σ : List Ent} {v : Value} {ws : List Int} (hs : St H w σ) (hr : RI H v ws) (hl : ws.length ≤ 1000) (hz : SizedW ws) : Cl Try.prog 191 [v] w fun u w' => ∃ H1, HLe H H1 ∧ RI H1 u (negW ws) ∧ St H1 w' σ := by
  obtain ⟨a, c, rfl⟩ := RI.shape hr
  have hFF : FF = 3600000000000 := rfl
  unfold SizedW at hz
  refine Cl.of Try.func191 rfl Try.ntmps191 (by simp) (args_cons (k := 0) rfl (args0)) ?_
  refine .regSeq (.z zg (.nil (.regSeq (.z zg (.nil (.seq (.regSeq (.z zm (.z (zlen Try.runUnderlying22) ?_)))))))))
  refine .z zm (.nil ?_)
  refine .for (N := ws.length) (J := fun k fr w => ∃ v3 en, OwnS 1 v3 (Is (negW (ws.take k))) en ∧ fr = [(3, v3), (6, .slice a ws.length c)] ∧ St H w (en :: σ)) (by omega) ?_ ?_ ?_
  · exact .mk ⟨_, _, .nil 1 none, rfl, hs.nul⟩
  · rintro k fr w hk ⟨v3, en, hO, rfl, hs⟩
    have hx := gi_get hk
    have hsz := sizes_at ws (v := k) (n := ws.length) hk
    refine .block (.regSeq ?_)
    refine .ixY hs hr rfl rfl Try.runUnderlying22 Try.sizeOf3 hx rfl ?_; intro b10 o10 hc10
    refine .q hs (q_loadR rfl Try.isAgg3 hc10) ?_
    refine .z zg (.nil (.region (.z zm (.z zm (.z zneg ?_)))))
    refine .o (.buildSlice (cells := [_]) hs bls_sl_int_1 rfl rfl ?_); intro b15 w hs
    refine .o (.append (ys := [I (-gi ws k)]) hs app_sl_int_int rfl rfl hO (.own .here rfl rfl) (by simp [Value.oneCell']) (fun l' h => by simp [negW] at h; omega) ?_); intro v16 en16 w hO2 hs
    refine .z zg (.nil ?_)
    refine nB (nT ?_)
    exact .mk ⟨v16, en16, by rw [take_snoc hx]; simpa [negW] using hO2, rfl, hs.sub (by repeat (first | exact Sub.refl _ | constructor | apply Sub.weaken))⟩
  · rintro fr w ⟨v3, en, hO, rfl, hs⟩
    rw [List.take_length] at hO
    refine nT ?_
    refine .regSeq (.z zm (.z zg (.nil ?_)))
    refine .ret (Fin.ret1 Try.results191 rfl ?_)
    obtain ⟨H2, g1, g2, hs⟩ := hO.publishI (by simp [negW]; omega) hs .here
    exact ⟨H2, g1, g2, hs⟩
theorem ref02_most_spec {H : Heap} {w : World} {σ : List Ent} {vm vw : Value} {s : Syst} {Ms : List (List Int)} {ws : List Int} (hs : St H w σ) (hM : RT H vm Ms) (hqM : Sq s.n Ms) (hT : WaysT s.n s.arcs (gt Ms)) (hrw : RI H vw ws) (hA : askErr s ws = 0) :
    Cl Try.prog 144 [vm, vw] w fun u w' => ∃ H1 n e, HLe H H1 ∧ u = .tuple #[I n, I e] ∧ MostR s ws n e ∧ St H1 w' σ := by
  obtain ⟨hok, hwl, hz⟩ := askErr_ok hA
  have hinn := hok.inn
  have hn65 := hok.n65
  have hnp := s.n_pos
  obtain ⟨fs, hF⟩ := tab_exists s.n (gt Ms)
  have hsd := sound_diag hok hT
  have hz2 : sizesTo ws s.n ≤ FF := by unfold SizedW at hz; rwa [hwl] at hz
  refine Cl.of Try.func144 rfl Try.ntmps144 (by simp) (args_cons (k := 0) rfl (args_cons (k := 1) rfl (args0))) ?_
  refine .regSeq (.z zg (.z zg (.nil (.seq (.regSeq (.z zm ?_))))))
  refine .o (.call Try.call167 rfl (ref02_Sound_spec hs hM hqM (by omega)) ?_); rintro _ w ⟨b, rfl, hb, hs⟩
  refine .z znot (.nil ?_)
  refine (.cond rfl (fun hc10 => ?_) (fun hc10 => ?_))
  · refine .regSeq (.z zg (.z zg (.nil ?_)))
    refine .ret (rT (Fin.ret2 Try.results144 rfl rfl ?_))
    have hb0 : b = false := by simpa using hc10
    exact ⟨H, 0, 23, HLe.refl H, rfl, mostR_clash hA (fun h => by have := hb.2 (hsd.1 h); rw [hb0] at this; cases this), hs⟩
  · refine .skip ?_
    refine nT ?_
    refine .regSeq (.z zm (.z zm ?_))
    have hso : s.Sound := hsd.2 (hb.1 (by simpa using hc10))
    refine .o (.call Try.call194 rfl (ref02_Least_spec (n := s.many.toNat) (es := fs) hs hM hqM hrw hwl hn65 hz2 hF (by obtain ⟨p, hp⟩ := hso; exact ⟨p, (hT.feas hinn hF).2 hp⟩)
      (fun x hx => by
        obtain ⟨b1, b2, b3, b4, b5⟩ := hF.ok x hx
        have h1 := hT.up x.f x.t b1 b2 (by rw [b4]; exact b5)
        have h2 := hT.low hnp hn65 hinn hso b1 b2 (by rw [b4]; exact b5)
        rw [b4] at h1 h2
        exact ⟨h2, h1⟩)
      (fun m hm => by
        have := (hok.bd hwl hz ((hT.opt hinn hF).1 hm)).2
        exact ⟨this.2, this.1⟩)) ?_); rintro _ w ⟨H1, n, ok, hle1, rfl, hcase, hs⟩
    refine .z zm (.z zex (.z zex (.z zg (.z zg (.nil (.seq (.regSeq (.z zm (.z znot ?_)))))))))
    refine .nil ?_
    refine (.cond rfl (fun hc18 => ?_) (fun hc18 => ?_))
    · refine .regSeq (.z zg (.z zg (.nil ?_)))
      refine .ret (rT (Fin.ret2 Try.results144 rfl rfl ?_))
      have hk0 : ok = false := by simpa using hc18
      rcases hcase with ⟨h, _⟩ | ⟨_, h⟩
      · rw [hk0] at h; cases h
      · exact ⟨H1, 0, 22, hle1, rfl, mostR_open hA hso hT hF h, hs⟩
    · refine .skip ?_
      refine nT ?_
      refine .regSeq (.z zm (.z zg (.z zg (.nil ?_))))
      refine .ret (Fin.ret2 Try.results144 rfl rfl ?_)
      have hk0 : ok = true := by simpa using hc18
      rcases hcase with ⟨_, h⟩ | ⟨h, _⟩
      · exact ⟨H1, n, 0, hle1, rfl, mostR_opt hA hT hF h, hs⟩
      · rw [hk0] at h; cases h
theorem ref02_Most_spec {H : Heap} {w : World} {σ : List Ent} {v vw : Value} {s : Syst} {ws : List Int} (hs : St H w σ) (hr : RSy H v s) (hrw : RI H vw ws) :
    Cl Try.prog 59 [v, vw] w fun u w' => ∃ H1 n e, HLe H H1 ∧ u = .tuple #[I n, I e] ∧ MostR s ws n e ∧ St H1 w' σ := by
  obtain ⟨u, rfl, hr⟩ := hr
  obtain ⟨al, cl, rfl⟩ := RL.shape hr
  obtain ⟨aw, cw, rfl⟩ := RI.shape hrw
  refine Cl.of Try.func59 rfl Try.ntmps59 (by simp) (args_cons (k := 0) rfl (args_cons (k := 1) rfl (args0))) ?_
  refine .regSeq ?_
  refine .o (.box hs rfl rfl ?_); intro b2 w hs
  refine .z zg (.z zg (.nil (.regSeq (.y hs (zls [_, _] Try.isAgg32 Try.sizeOf32) (.z zm ?_)))))
  refine .o (.call Try.call110 rfl (ref02_asked_spec (s := s) hs ⟨_, rfl, hr⟩ hrw) ?_); rintro _ w ⟨rfl, hs⟩
  refine .z zg (.nil (.seq (.regSeq (.z zm (.z zneq (.nil ?_))))))
  refine (.condN rfl (fun hc11 => ?_) (fun hc11 => ?_))
  · refine .regSeq (.z zm (.z zg (.z zg (.nil ?_))))
    refine .ret (rT (Fin.ret2 Try.results59 rfl rfl ?_))
    exact ⟨H, 0, _, HLe.refl H, rfl, ⟨.bad hc11, fun _ => rfl, fun h => (hc11 h).elim⟩, hs.out⟩
  · refine .skip ?_
    refine nT ?_
    refine .regSeq (.y hs (zls [_, _] Try.isAgg32 Try.sizeOf32) ?_)
    have hA : askErr s ws = 0 := by simpa using hc11
    refine .o (.call Try.call145 rfl (ref02_Ways_spec (s := s) hs ⟨_, rfl, hr⟩ (askErr_ok hA).1) ?_); rintro _ w ⟨H1, Ms, hle1, hM, hqM, hT, hs⟩
    refine .z zm ?_
    refine .o (.call Try.call144 rfl (ref02_most_spec (s := s) hs hM hqM hT (hrw.mono hle1) hA) ?_); rintro _ w ⟨H2, n, e, hle2, rfl, hR, hs⟩
    refine .z zex (.z zex (.z zg (.z zg (.nil ?_))))
    refine .ret (Fin.ret2 Try.results59 rfl rfl ?_)
    exact ⟨H2, n, e, hle1.trans hle2, rfl, hR, hs.out⟩
theorem ref02_ends_spec {H : Heap} {w : World} {σ : List Ent} {v vw : Value} {s : Syst} {ws : List Int} (hs : St H w σ) (hr : RSy H v s) (hrw : RI H vw ws) (hA : askErr s ws = 0) :
    Cl Try.prog 135 [v, vw] w fun u w' => ∃ H1 lo hi e, HLe H H1 ∧ u = .tuple #[I lo, I hi, I e] ∧ RangeR s ws lo hi e ∧ St H1 w' σ := by
  obtain ⟨u, rfl, hr⟩ := hr
  obtain ⟨al, cl, rfl⟩ := RL.shape hr
  obtain ⟨hok, hwl, hz⟩ := askErr_ok hA
  have hn65 := hok.n65
  have hBB : BB = 4608000000000000000 := rfl
  refine Cl.of Try.func135 rfl Try.ntmps135 (by simp) (args_cons (k := 0) rfl (args_cons (k := 1) rfl (args0))) ?_
  refine .regSeq ?_
  refine .o (.box hs rfl rfl ?_); intro b2 w hs
  refine .z zg (.z zg (.z zg (.nil (.regSeq (.y hs (zls [_, _] Try.isAgg32 Try.sizeOf32) ?_)))))
  refine .o (.call Try.call145 rfl (ref02_Ways_spec (s := s) hs ⟨_, rfl, hr⟩ hok) ?_); rintro _ w ⟨H1, Ms, hle1, hM, hqM, hT, hs⟩
  refine .z zg (.nil (.regSeq (.z zm (.z zm ?_))))
  refine .o (.call Try.call144 rfl (ref02_most_spec (s := s) hs hM hqM hT (hrw.mono hle1) hA) ?_); rintro _ w ⟨H2, n, e, hle2, rfl, hR, hs⟩
  refine .z zm (.z zex (.z zex (.z zg (.z zg (.nil (.seq (.regSeq (.z zm (.z zneq ?_)))))))))
  refine .nil ?_
  refine (.condN rfl (fun hc20 => ?_) (fun hc20 => ?_))
  · refine .regSeq (.z zm (.z zg (.z zg (.z zg (.nil ?_)))))
    refine .ret (rT (Fin.ret3 Try.results135 rfl rfl rfl ?_))
    exact ⟨H2, 0, 0, e, hle1.trans hle2, rfl, .first hR hc20, hs.out⟩
  · refine .skip ?_
    refine nT ?_
    refine .regSeq (.z zm (.z zm ?_))
    obtain rfl : e = 0 := by simpa using hc20
    refine .o (.call Try.call191 rfl (ref02_Negative_spec hs ((hrw.mono hle1).mono hle2) (by omega) hz) ?_); rintro _ w ⟨H3, hle3, hN, hs⟩
    refine .o (.call Try.call144 rfl (ref02_most_spec (s := s) (ws := negW ws) hs ((hM.mono hle2).mono hle3) hqM hT hN (by rw [askErr_neg]; exact hA)) ?_); rintro _ w ⟨H4, n2, e2, hle4, rfl, hR2, hs⟩
    refine .z zm (.z zex (.z zex (.z zg (.z zg (.nil (.seq (.regSeq (.z zm (.z zneq ?_)))))))))
    refine .nil ?_
    refine (.condN rfl (fun hc30 => ?_) (fun hc30 => ?_))
    · refine .regSeq (.z zm (.z zg (.z zg (.z zg (.nil ?_)))))
      refine .ret (rT (Fin.ret3 Try.results135 rfl rfl rfl ?_))
      exact ⟨H4, 0, 0, e2, hle1.trans (hle2.trans (hle3.trans hle4)), rfl, .second hR hR2 hc30, hs.out⟩
    · refine .skip ?_
      refine nT ?_
      refine .regSeq (.z zm ?_)
      obtain rfl : e2 = 0 := by simpa using hc30
      have hbd := (hR2.2.2 rfl).2
      refine .z zneg (.z zm (.z zg (.z zg (.z zg (.nil ?_)))))
      refine .ret (Fin.ret3 Try.results135 rfl rfl rfl ?_)
      exact ⟨H4, -n2, n, 0, hle1.trans (hle2.trans (hle3.trans hle4)), rfl, .ok hR hR2, hs.out⟩
theorem ref02_Range_spec {H : Heap} {w : World} {σ : List Ent} {v vw : Value} {s : Syst} {ws : List Int} (hs : St H w σ) (hr : RSy H v s) (hrw : RI H vw ws) :
    Cl Try.prog 50 [v, vw] w fun u w' => ∃ H1 lo hi e, HLe H H1 ∧ u = .tuple #[I lo, I hi, I e] ∧ RangeR s ws lo hi e ∧ St H1 w' σ := by
  obtain ⟨u, rfl, hr⟩ := hr
  obtain ⟨al, cl, rfl⟩ := RL.shape hr
  obtain ⟨aw, cw, rfl⟩ := RI.shape hrw
  refine Cl.of Try.func50 rfl Try.ntmps50 (by simp) (args_cons (k := 0) rfl (args_cons (k := 1) rfl (args0))) ?_
  refine .regSeq ?_
  refine .o (.box hs rfl rfl ?_); intro b2 w hs
  refine .z zg (.z zg (.z zg (.nil (.regSeq (.y hs (zls [_, _] Try.isAgg32 Try.sizeOf32) (.z zm ?_))))))
  refine .o (.call Try.call110 rfl (ref02_asked_spec (s := s) hs ⟨_, rfl, hr⟩ hrw) ?_); rintro _ w ⟨rfl, hs⟩
  refine .z zg (.nil (.seq (.regSeq (.z zm (.z zneq (.nil ?_))))))
  refine (.condN rfl (fun hc12 => ?_) (fun hc12 => ?_))
  · refine .regSeq (.z zm (.z zg (.z zg (.z zg (.nil ?_)))))
    refine .ret (rT (Fin.ret3 Try.results50 rfl rfl rfl ?_))
    exact ⟨H, 0, 0, _, HLe.refl H, rfl, .first ⟨.bad hc12, fun _ => rfl, fun h => (hc12 h).elim⟩ hc12, hs.out⟩
  · refine .skip ?_
    refine nT ?_
    refine .regSeq (.y hs (zls [_, _] Try.isAgg32 Try.sizeOf32) (.z zm ?_))
    have hA : askErr s ws = 0 := by simpa using hc12
    refine .o (.call Try.call135 rfl (ref02_ends_spec (s := s) hs ⟨_, rfl, hr⟩ hrw hA) ?_); rintro _ w ⟨H1, lo, hi, e, hle1, rfl, hR, hs⟩
    refine .z zex (.z zex (.z zex (.z zg (.z zg (.z zg (.nil ?_))))))
    refine .ret (Fin.ret3 Try.results50 rfl rfl rfl ?_)
    exact ⟨H1, lo, hi, e, hle1, rfl, hR, hs.out⟩
end Go.Proofs.Ytiiokdeehlfeeaa

namespace Go.Proofs.Ytiiokdeehlfeeaa
open Go.MW
def SettledR (a : Quest) (b : Bool) (e : Int) : Prop := (CAskR a e ∧ e ≠ 0 ∧ b = false) ∨ (AskOk a ∧ e = 0 ∧ ∃ lo hi, RangeR a.sys a.ws lo hi 0 ∧ b = decide (hi - lo ≤ a.width))
def SideR (a : Quest) (z x e : Int) : Prop := (CAskR a e ∧ e ≠ 0 ∧ x = 0) ∨ (AskOk a ∧ e = 0 ∧ ∃ lo hi, RangeR a.sys a.ws lo hi 0 ∧ x = if z ≤ lo then 1 else if hi < z then 0 else 2)
theorem WidthR.uniq {a : Quest} {n m e f : Int} (h : WidthR a n e) (g : WidthR a m f) : n = m ∧ e = f := by
  rcases h with ⟨h1, h2, h3⟩ | ⟨h1, h2, lo, hi, h3, h4⟩ <;> rcases g with ⟨g1, g2, g3⟩ | ⟨g1, g2, lo', hi', g3, g4⟩
  · exact ⟨by rw [h3, g3], h1.uniq g1⟩
  · exact (h2 (h1.uniq (CAskR.zero.2 g1))).elim
  · exact (g2 (g1.uniq (CAskR.zero.2 h1))).elim
  · obtain ⟨rfl, rfl, -⟩ := h3.uniq g3; exact ⟨by rw [h4, g4], by rw [h2, g2]⟩
theorem SettledR.uniq {a : Quest} {n m : Bool} {e f : Int} (h : SettledR a n e) (g : SettledR a m f) : n = m ∧ e = f := by
  rcases h with ⟨h1, h2, h3⟩ | ⟨h1, h2, lo, hi, h3, h4⟩ <;> rcases g with ⟨g1, g2, g3⟩ | ⟨g1, g2, lo', hi', g3, g4⟩
  · exact ⟨by rw [h3, g3], h1.uniq g1⟩
  · exact (h2 (h1.uniq (CAskR.zero.2 g1))).elim
  · exact (g2 (g1.uniq (CAskR.zero.2 h1))).elim
  · obtain ⟨rfl, rfl, -⟩ := h3.uniq g3; exact ⟨by rw [h4, g4], by rw [h2, g2]⟩
theorem SideR.uniq {a : Quest} {z n m e f : Int} (h : SideR a z n e) (g : SideR a z m f) : n = m ∧ e = f := by
  rcases h with ⟨h1, h2, h3⟩ | ⟨h1, h2, lo, hi, h3, h4⟩ <;> rcases g with ⟨g1, g2, g3⟩ | ⟨g1, g2, lo', hi', g3, g4⟩
  · exact ⟨by rw [h3, g3], h1.uniq g1⟩
  · exact (h2 (h1.uniq (CAskR.zero.2 g1))).elim
  · exact (g2 (g1.uniq (CAskR.zero.2 h1))).elim
  · obtain ⟨rfl, rfl, -⟩ := h3.uniq g3; exact ⟨by rw [h4, g4], by rw [h2, g2]⟩
end Go.Proofs.Ytiiokdeehlfeeaa

namespace Go.Proofs.Ytiiokdeehlfeeaa
open Go.MW
def PairsR (a : Quest) (l : List Prb) (S : Syst) (W : List Int) (e : Int) : Prop := (CPrbR a l e ∧ e ≠ 0 ∧ S = ⟨0, []⟩ ∧ W = []) ∨ (CPrbR a l 0 ∧ e = 0 ∧ S = dblS a l ∧ W = dblW a.ws)
theorem PairsR.uniq {a : Quest} {l : List Prb} {S T : Syst} {W V : List Int} {e f : Int} (h : PairsR a l S W e) (g : PairsR a l T V f) : S = T ∧ W = V ∧ e = f := by
  rcases h with ⟨h1, h2, h3, h4⟩ | ⟨h1, h2, h3, h4⟩ <;> rcases g with ⟨g1, g2, g3, g4⟩ | ⟨g1, g2, g3, g4⟩
  · exact ⟨by rw [h3, g3], by rw [h4, g4], h1.uniq g1⟩
  · exact (h2 (h1.uniq g1)).elim
  · exact (g2 (g1.uniq h1)).elim
  · exact ⟨by rw [h3, g3], by rw [h4, g4], by rw [h2, g2]⟩
def WorstR (a : Quest) (l : List Prb) (n e : Int) : Prop := (CPrbR a l e ∧ e ≠ 0 ∧ n = 0) ∨ (CPrbR a l 0 ∧ e = 0 ∧ PairS a l n)
theorem WorstR.uniq {a : Quest} {l : List Prb} {n m e f : Int} (h : WorstR a l n e) (g : WorstR a l m f) : n = m ∧ e = f := by
  rcases h with ⟨h1, h2, h3⟩ | ⟨h1, h2, h3⟩ <;> rcases g with ⟨g1, g2, g3⟩ | ⟨g1, g2, g3⟩
  · exact ⟨by rw [h3, g3], h1.uniq g1⟩
  · exact (h2 (h1.uniq g1)).elim
  · exact (g2 (g1.uniq h1)).elim
  · exact ⟨h3.uniq g3, by rw [h2, g2]⟩
end Go.Proofs.Ytiiokdeehlfeeaa

namespace Go.Proofs.Ytiiokdeehlfeeaa
open Go.MW
set_option maxHeartbeats 8000000 in
theorem ref02_CheckProof_spec {H : Heap} {w : World} {σ : List Ent} {v vw vp : Value} {s : Syst} {ws : List Int} {n : Int} {us : List Use} (hs : St H w σ) (hr : RSy H v s) (hrw : RI H vw ws) (hp : RPf H vp n us) :
    Cl Try.prog 32 [v, vw, vp] w fun v w' => ∃ e, v = I e ∧ ProofR s ws n us e ∧ St H w' σ := by
  obtain ⟨u, rfl, hr⟩ := hr
  obtain ⟨al, cl, rfl⟩ := RL.shape hr
  obtain ⟨aw, cw, rfl⟩ := RI.shape hrw
  obtain ⟨uu, rfl, hU⟩ := hp
  obtain ⟨au, cu, rfl⟩ := RU.shape hU
  refine Cl.of Try.func32 rfl Try.ntmps32 (by simp) (args_cons (k := 0) rfl (args_cons (k := 1) rfl (args_cons (k := 2) rfl (args0)))) ?_
  refine .regSeq ?_
  refine .o (.box hs rfl rfl ?_); intro b3 w hs
  refine .o (.box hs rfl rfl ?_); intro b5 w hs
  refine .z zg (.nil (.regSeq (.y hs (zls [_, _] Try.isAgg32 Try.sizeOf32) (.z zm ?_))))
  refine .o (.call Try.call110 rfl (ref02_asked_spec (s := s) hs ⟨_, rfl, hr⟩ hrw) ?_); rintro _ w ⟨rfl, hs⟩
  refine .z zg (.nil (.seq (.regSeq (.z zm (.z zneq (.nil ?_))))))
  refine (.condN rfl (fun hc19 => ?_) (fun hc19 => ?_))
  · refine .regSeq (.z zm (.z zg (.nil ?_)))
    refine .ret (rT (Fin.ret1 Try.results32 rfl ?_))
    exact ⟨_, rfl, .ask hc19, hs.out⟩
  · refine .skip ?_
    refine nT ?_
    refine .seq (.regSeq (.z (zfa fa_api_Proof_1) (.y hs (zld Try.isAgg38) (.z (zlen Try.runUnderlying38) (.z zgtr (.nil ?_))))))
    refine (.condD rfl (fun hc24 => ?_) (fun hc24 => ?_))
    · refine .regSeq (.z zg (.nil ?_))
      refine .ret (rT (Fin.ret1 Try.results32 rfl ?_))
      exact ⟨_, rfl, .bad (by simpa using hc19) (fun h => by have := h.len; omega), hs.out⟩
    · refine .skip ?_
      refine nT ?_
      refine .regSeq (.z (zfa fa_api_System_0) (.y hs (zld Try.isAgg3) ?_))
      have hA : askErr s ws = 0 := by simpa using hc19
      obtain ⟨hok, hwl, hz⟩ := askErr_ok hA
      have hm0 := hok.m0
      have hn65 := hok.n65
      have hll := hok.len
      have hmn : s.many + 1 = (s.n : Int) := by simp only [Syst.n]; omega
      refine .z zadd ?_
      rw [hmn]
      refine .o (.makeI s.n hs rfl rfl Try.runUnderlying22 Try.typeInfo3 rfl Try.sizeOf3 Try.zeroValue3 (by omega) ?_); intro b28 w hs
      refine .z zg (.nil (.regSeq (.z zg (.nil (.regSeq (.z zg (.nil (.seq (.regSeq ?_)))))))))
      refine .z (zfa fa_api_Proof_1) (.y hs (zld Try.isAgg38) (.z (zlen Try.runUnderlying38) (.z zm (.nil ?_))))
      refine .for (N := us.length) (J := fun k fr w => fr = [(30, .slice au us.length cu), (8, .slice (some ⟨b28, 0, none⟩) s.n s.n), (9, I (timesTo us k)), (10, I (boundTo s us k)), (3, .pointer (some ⟨b3, 0, none⟩)), (5, .pointer (some ⟨b5, 0, none⟩)), (1, .slice aw ws.length cw)] ∧ ∃ C, (C.length = s.n ∧ ∀ v < s.n, gi C v = intoTo s us k v) ∧ (∀ i < k, UseOk s us i) ∧ timesTo us k ≤ 230400000000000 ∧ St H w (.blk b28 (Is C) :: .blk b5 [I n, .slice au us.length cu] :: .blk b3 [I s.many, .slice al s.lims.length cl] :: σ)) (by omega) ?_ ?_ ?_
      · exact .mk ⟨rfl, _, ⟨by simp, fun v hv => by rw [gi_replicate _ _ hv]; rfl⟩, fun i hi => by omega, by simp [timesTo, sumTo], hs⟩
      · rintro k fr w hk ⟨rfl, C, ⟨hC1, hC2⟩, hUs, hTm, hs⟩
        have hx := gu_get hk
        refine .block (.regSeq (.z zm ?_))
        refine .ixX (enc := Use.c) hs hU rfl rfl Try.runUnderlying38 Try.sizeOf154 hx rfl ?_; intro b35 o35 hc35
        refine .q hs (q_loadsR (vs := (gu us k).c) rfl Try.isAgg154 Try.sizeOf154 hc35) ?_
        refine .o (.alloc hs Try.zeroValue154 rfl ?_); intro b12 w hs
        refine .z zg ?_
        refine .o (.stores (vs := (gu us k).c) hs rfl rfl Try.sizeOf154 ?_); intro w hs
        refine .nil (.seq ?_)
        refine .cut (fun fs w => ∃ p, FSub fs ⟨124, [], [(66, .bool p), (12, .pointer (some ⟨b12, 0, none⟩)), (32, I (k : Int)), (31, I (us.length : Int)), (30, .slice au us.length cu), (8, .slice (some ⟨b28, 0, none⟩) s.n s.n), (9, I (timesTo us k)), (10, I (boundTo s us k)), (3, .pointer (some ⟨b3, 0, none⟩)), (5, .pointer (some ⟨b5, 0, none⟩)), (1, .slice aw ws.length cw)]⟩ ∧ (p = true → ¬ UseOk s us k) ∧ (p = false → UseOk s us k) ∧ St H w (.blk b12 (gu us k).c :: .blk b28 (Is C) :: .blk b5 [I n, .slice au us.length cu] :: .blk b3 [I s.many, .slice al s.lims.length cl] :: σ)) ?_ ?_
        · refine .draw mix rfl hs ?_; intro w hs
          refine .z 0 rfl (zfa fa_api_Use_0) ?_; refine .y 1 rfl hs Try.isAgg3 ?_; refine .z 2 rfl (zfa fa_api_System_1) ?_; refine .y 3 rfl hs Try.isAgg30 ?_; refine .z 4 rfl (zlen Try.runUnderlying30) ?_; refine .z 5 rfl zsub ?_
          refine .e1 (i := 6) (by kernel_rfl) rfl rfl .none hs ?_
          refine .call Try.call111 rfl (ref02_within_spec hs) ?_; rintro _ w ⟨rfl, hs⟩
          refine .go ?_
          refine .z 7 rfl znot ?_; refine .z 8 rfl zm ?_
          refine .bif (t' := 45) rfl (fun hb45 => ?_) (fun hb45 => ?_)
          · refine .qF (i := 9) rfl (by kernel_rfl) rfl rfl ?_
            refine .qF (i := 10) rfl (by kernel_rfl) rfl rfl ?_
            refine .qF (i := 11) rfl (by kernel_rfl) rfl rfl ?_
            refine .qF (i := 12) rfl (by kernel_rfl) rfl rfl ?_
            refine .qF (i := 13) rfl (by kernel_rfl) rfl rfl ?_
            refine .qF (i := 14) rfl (by kernel_rfl) rfl rfl ?_
            refine .qF (i := 15) rfl (by kernel_rfl) rfl rfl ?_
            refine .qF (i := 16) rfl (by kernel_rfl) rfl rfl ?_
            refine .qF (i := 17) rfl (by kernel_rfl) rfl rfl ?_
            refine .qF (i := 18) rfl (by kernel_rfl) rfl rfl ?_
            refine .qF (i := 19) rfl (by kernel_rfl) rfl rfl ?_
            refine .qF (i := 20) rfl (by kernel_rfl) rfl rfl ?_
            refine .qF (i := 21) rfl (by kernel_rfl) rfl rfl ?_
            refine .qF (i := 22) rfl (by kernel_rfl) rfl rfl ?_
            refine .z 23 rfl zpT ?_; refine .z 24 rfl zm ?_
            refine .qF (i := 25) rfl (by kernel_rfl) rfl rfl ?_
            refine .qF (i := 26) rfl (by kernel_rfl) rfl rfl ?_
            refine .qF (i := 27) rfl (by kernel_rfl) rfl rfl ?_
            refine .qF (i := 28) rfl (by kernel_rfl) rfl rfl ?_
            refine .z 29 rfl zpT ?_; refine .done (by kernel_rfl) hs ?_
            exact nT ⟨_, by repeat (first | exact .nil rfl rfl | refine .cons rfl ?_), by
              intro hp hU
              have h1 := hU.l0; have h2 := hU.l1; have h3 := hU.t0; have h4 := hU.t1; have h5 := hU.ord
              first
                | (cases hp; done)
                | (have := notdec_true.1 hb45; omega)
                | (have := h5 (by omega); omega)
                | (have := notdec_true.1 hp; omega), by
              intro hp
              first
                | (cases hp; done)
                | exact ⟨by have := notdec_false.1 hb45; omega, by have := notdec_false.1 hb45; omega, by have := notdec_false.1 hp; omega, by have := notdec_false.1 hp; omega, fun h => by omega⟩, hs⟩
          · refine .z 9 rfl zm ?_; refine .z 10 rfl zgtr ?_; refine .z 11 rfl zm ?_
            refine .bifD (t' := 48) rfl (fun hb48 => ?_) (fun hb48 => ?_)
            · refine .z 12 rfl (zfa fa_api_Proof_1) ?_; refine .y 13 rfl hs Try.isAgg38 ?_; refine .z 14 rfl zm ?_; refine .z 15 rfl zsub ?_
              refine .ixX (enc := Use.c) (i := 16) hs rfl (by kernel_rfl) (.some rfl rfl) hU rfl rfl Try.runUnderlying38 Try.sizeOf154 (gu_get (i := k - 1) (by omega)) (by omega) ?_; intro b53 o53 hc53
              refine .z 17 rfl (zfa fa_api_Use_0) ?_
              refine .r (i := 18) hs rfl (by kernel_rfl) (.some rfl rfl) (q_loadR rfl Try.isAgg3 (hc53.get 0 rfl)) ?_
              refine .z 19 rfl (zfa fa_api_Use_0) ?_; refine .y 20 rfl hs Try.isAgg3 ?_; refine .z 21 rfl zgeq ?_; refine .z 22 rfl zpT ?_; refine .z 23 rfl zpF ?_; refine .z 24 rfl zm ?_
              refine .bifD (t' := 61) rfl (fun hb61 => ?_) (fun hb61 => ?_)
              · refine .qF (i := 25) rfl (by kernel_rfl) rfl rfl ?_
                refine .qF (i := 26) rfl (by kernel_rfl) rfl rfl ?_
                refine .qF (i := 27) rfl (by kernel_rfl) rfl rfl ?_
                refine .qF (i := 28) rfl (by kernel_rfl) rfl rfl ?_
                refine .z 29 rfl zpT ?_; refine .done (by kernel_rfl) hs ?_
                exact nT ⟨_, by repeat (first | exact .nil rfl rfl | refine .cons rfl ?_), by
                  intro hp hU
                  have h1 := hU.l0; have h2 := hU.l1; have h3 := hU.t0; have h4 := hU.t1; have h5 := hU.ord
                  first
                    | (cases hp; done)
                    | (have := notdec_true.1 hb45; omega)
                    | (have := h5 (by omega); omega)
                    | (have := notdec_true.1 hp; omega), by
                  intro hp
                  first
                    | (cases hp; done)
                    | exact ⟨by have := notdec_false.1 hb45; omega, by have := notdec_false.1 hb45; omega, by have := notdec_false.1 hp; omega, by have := notdec_false.1 hp; omega, fun h => by omega⟩, hs⟩
              · refine .z 25 rfl (zfa fa_api_Use_1) ?_; refine .y 26 rfl hs Try.isAgg3 ?_
                refine .e1 (i := 27) (by kernel_rfl) rfl rfl (.some rfl rfl) hs ?_
                refine .call Try.call111 rfl (ref02_within_spec hs) ?_; rintro _ w ⟨rfl, hs⟩
                refine .go ?_
                refine .z 28 rfl znot ?_; refine .z 29 rfl zpF ?_; refine .done (by kernel_rfl) hs ?_
                exact nT ⟨_, by repeat (first | exact .nil rfl rfl | refine .cons rfl ?_), by
                  intro hp hU
                  have h1 := hU.l0; have h2 := hU.l1; have h3 := hU.t0; have h4 := hU.t1; have h5 := hU.ord
                  first
                    | (cases hp; done)
                    | (have := notdec_true.1 hb45; omega)
                    | (have := h5 (by omega); omega)
                    | (have := notdec_true.1 hp; omega), by
                  intro hp
                  first
                    | (cases hp; done)
                    | exact ⟨by have := notdec_false.1 hb45; omega, by have := notdec_false.1 hb45; omega, by have := notdec_false.1 hp; omega, by have := notdec_false.1 hp; omega, fun h => by omega⟩, hs⟩
            · refine .qF (i := 12) rfl (by kernel_rfl) rfl rfl ?_
              refine .qF (i := 13) rfl (by kernel_rfl) rfl rfl ?_
              refine .qF (i := 14) rfl (by kernel_rfl) rfl rfl ?_
              refine .qF (i := 15) rfl (by kernel_rfl) rfl rfl ?_
              refine .qF (i := 16) rfl (by kernel_rfl) rfl rfl ?_
              refine .qF (i := 17) rfl (by kernel_rfl) rfl rfl ?_
              refine .qF (i := 18) rfl (by kernel_rfl) rfl rfl ?_
              refine .qF (i := 19) rfl (by kernel_rfl) rfl rfl ?_
              refine .qF (i := 20) rfl (by kernel_rfl) rfl rfl ?_
              refine .qF (i := 21) rfl (by kernel_rfl) rfl rfl ?_
              refine .z 22 rfl zpF ?_; refine .z 23 rfl zpF ?_; refine .z 24 rfl zm ?_; refine .z 25 rfl (zfa fa_api_Use_1) ?_; refine .y 26 rfl hs Try.isAgg3 ?_
              refine .e1 (i := 27) (by kernel_rfl) rfl rfl (.some rfl rfl) hs ?_
              refine .call Try.call111 rfl (ref02_within_spec hs) ?_; rintro _ w ⟨rfl, hs⟩
              refine .go ?_
              refine .z 28 rfl znot ?_; refine .z 29 rfl zpF ?_; refine .done (by kernel_rfl) hs ?_
              exact nT ⟨_, by repeat (first | exact .nil rfl rfl | refine .cons rfl ?_), by
                intro hp hU
                have h1 := hU.l0; have h2 := hU.l1; have h3 := hU.t0; have h4 := hU.t1; have h5 := hU.ord
                first
                  | (cases hp; done)
                  | (have := notdec_true.1 hb45; omega)
                  | (have := h5 (by omega); omega)
                  | (have := notdec_true.1 hp; omega), by
                intro hp
                first
                  | (cases hp; done)
                  | exact ⟨by have := notdec_false.1 hb45; omega, by have := notdec_false.1 hb45; omega, by have := notdec_false.1 hp; omega, by have := notdec_false.1 hp; omega, fun h => by omega⟩, hs⟩
        · rintro fs w ⟨p, hfs, hp1, hp2, hs⟩
          refine WE.sub ?_ hfs
          refine (.cond rfl (fun hc66 => ?_) (fun hc66 => ?_))
          · refine .regSeq (.z zg (.nil ?_))
            refine .ret (rT (rB (rT (rB (rT (Fin.ret1 Try.results32 rfl ?_))))))
            exact ⟨_, rfl, .bad hA (fun h => hp1 hc66 (h.use k hk)), hs.out⟩
          · refine .skip ?_
            refine nT ?_
            refine .regSeq ?_
            have hUk := hp2 (by simpa using hc66)
            have hUs' : ∀ i < k + 1, UseOk s us i := fun i hi => by
              by_cases e : i = k
              · subst e; exact hUk
              · exact hUs i (by omega)
            have hTp := times_pos hUs
            have ht0 := hUk.t0; have ht1 := hUk.t1; have hl0 := hUk.l0; have hl1 := hUk.l1
            have hgl := gl_get (ls := s.lims) (i := (gu us k).l.toNat) (by omega)
            obtain ⟨⟨xa0, xa1⟩, ⟨xb0, xb1⟩, xne, xM, -⟩ := hok.lim _ (List.mem_of_getElem? hgl)
            have hbd1 := bound_bd hok hUs
            have hbd2 := bound_bd hok hUs'
            have hbs : boundTo s us (k + 1) = boundTo s us k + (gu us k).t * (ul s us k).M := rfl
            have hts : timesTo us (k + 1) = timesTo us k + (gu us k).t := rfl
            change 0 ≤ (ul s us k).A at xa0; change (ul s us k).A ≤ s.many at xa1
            change 0 ≤ (ul s us k).B at xb0; change (ul s us k).B ≤ s.many at xb1
            change (ul s us k).A ≠ (ul s us k).B at xne
            have hib := into_bd hUs (ul s us k).B.toNat
            have hia := into_bd hUs (ul s us k).A.toNat
            have hAn : (ul s us k).A.toNat < s.n := by omega
            have hBn : (ul s us k).B.toNat < s.n := by omega
            have hgA := hC2 _ hAn
            have hgB := hC2 _ hBn
            refine .z zm (.z (zfa fa_api_Use_1) (.y hs (zld Try.isAgg3) (.z zadd (.z zg (.nil (.seq (.regSeq (.z zm (.z zgtr ?_)))))))))
            refine .nil ?_
            refine (.condD rfl (fun hc72 => ?_) (fun hc72 => ?_))
            · refine .regSeq (.z zg (.nil ?_))
              refine .ret (rT (rB (rT (rB (rT (Fin.ret1 Try.results32 rfl ?_))))))
              exact ⟨_, rfl, .bad hA (fun h => by have := times_le h.use (k := k + 1) (by omega); have := h.tot; omega), hs.out⟩
            · refine .skip ?_
              refine nT ?_
              refine .regSeq (.z (zfa fa_api_System_1) (.y hs (zld Try.isAgg30) (.z (zfa fa_api_Use_0) (.y hs (zld Try.isAgg3) ?_))))
              refine .ixX (enc := Lim.c) hs hr rfl rfl Try.runUnderlying30 Try.sizeOf100 hgl (by omega) ?_; intro b77 o77 hc77
              refine .q hs (q_loadsR (vs := (ul s us k).c) rfl Try.isAgg100 Try.sizeOf100 hc77) ?_
              refine .o (.alloc hs Try.zeroValue100 rfl ?_); intro b13 w hs
              refine .o (.stores (vs := (ul s us k).c) hs rfl rfl Try.sizeOf100 ?_); intro w hs
              refine .nil ?_
              refine .seq (.draw mix rfl hs ?_); intro w hs
              refine .z 0 rfl zm ?_; refine .z 1 rfl (zfa fa_api_Limit_1) ?_; refine .y 2 rfl hs Try.isAgg3 ?_
              refine .p (i := 3) rfl (by kernel_rfl) .none (q_ixO (k := (ul s us k).B.toNat) rfl rfl Try.runUnderlying22 Try.sizeOf3 (by omega) hBn) ?_
              refine .y 4 rfl hs Try.isAgg3 ?_; refine .z 5 rfl (zfa fa_api_Use_1) ?_; refine .y 6 rfl hs Try.isAgg3 ?_; refine .z 7 rfl zadd ?_
              refine .p (i := 8) rfl (by kernel_rfl) .none (q_ixO (k := (ul s us k).B.toNat) rfl rfl Try.runUnderlying22 Try.sizeOf3 (by omega) hBn) ?_
              refine .e1 (i := 9) (by kernel_rfl) rfl rfl .none hs ?_
              refine .store hs rfl rfl Try.sizeOf3 ?_; intro w hs
              refine .go ?_
              refine .done (by kernel_rfl) hs ?_
              have hD1 : (C.set (ul s us k).B.toNat (gi C (ul s us k).B.toNat + (gu us k).t)).length = s.n := by rw [List.length_set]; exact hC1
              have hD2 : ∀ v, gi (C.set (ul s us k).B.toNat (gi C (ul s us k).B.toNat + (gu us k).t)) v = if v = (ul s us k).B.toNat then gi C (ul s us k).B.toNat + (gu us k).t else gi C v := fun v => gi_set (by omega) _ v
              generalize C.set (ul s us k).B.toNat (gi C (ul s us k).B.toNat + (gu us k).t) = D at hs hD1 hD2
              have hgD : gi D (ul s us k).A.toNat = gi C (ul s us k).A.toNat := by rw [hD2, if_neg (by omega)]
              refine .seq (.draw mix rfl hs ?_); intro w hs
              refine .z 0 rfl zm ?_; refine .z 1 rfl (zfa fa_api_Limit_0) ?_; refine .y 2 rfl hs Try.isAgg3 ?_
              refine .p (i := 3) rfl (by kernel_rfl) .none (q_ixO (k := (ul s us k).A.toNat) rfl rfl Try.runUnderlying22 Try.sizeOf3 (by omega) hAn) ?_
              refine .y 4 rfl hs Try.isAgg3 ?_; refine .z 5 rfl (zfa fa_api_Use_1) ?_; refine .y 6 rfl hs Try.isAgg3 ?_; refine .z 7 rfl zsub ?_
              refine .p (i := 8) rfl (by kernel_rfl) .none (q_ixO (k := (ul s us k).A.toNat) rfl rfl Try.runUnderlying22 Try.sizeOf3 (by omega) hAn) ?_
              refine .e1 (i := 9) (by kernel_rfl) rfl rfl .none hs ?_
              refine .store hs rfl rfl Try.sizeOf3 ?_; intro w hs
              refine .go ?_
              refine .done (by kernel_rfl) hs ?_
              refine .region (.z zm (.z (zfa fa_api_Use_1) (.y hs (zld Try.isAgg3) (.z (zfa fa_api_Limit_2) (.y hs (zld Try.isAgg3) (.z zmul (.z zadd (.z zg (.nil ?_)))))))))
              refine nB (nT ?_)
              exact .mk ⟨rfl, D.set (ul s us k).A.toNat (gi D (ul s us k).A.toNat - (gu us k).t), ⟨by rw [List.length_set]; exact hD1, fun v hv => by
                have hst : intoTo s us (k + 1) v = intoTo s us k v + (gu us k).t * (ind (ul s us k).B.toNat v - ind (ul s us k).A.toNat v) := rfl
                rw [gi_set (by omega), hst, ← hC2 v hv]
                by_cases e1 : v = (ul s us k).A.toNat
                · have i1 : ind (ul s us k).A.toNat v = 1 := by unfold ind; rw [if_pos e1.symm]
                  have i2 : ind (ul s us k).B.toNat v = 0 := by unfold ind; rw [if_neg (by omega)]
                  rw [if_pos e1, hgD, i1, i2, e1]; omega
                · have i1 : ind (ul s us k).A.toNat v = 0 := by unfold ind; rw [if_neg (by omega)]
                  rw [if_neg e1, hD2, i1]
                  by_cases e2 : v = (ul s us k).B.toNat
                  · have i2 : ind (ul s us k).B.toNat v = 1 := by unfold ind; rw [if_pos e2.symm]
                    rw [if_pos e2, i2, e2]; omega
                  · have i2 : ind (ul s us k).B.toNat v = 0 := by unfold ind; rw [if_neg (by omega)]
                    rw [if_neg e2, i2]; omega⟩, hUs', by omega, hs.sub (by repeat (first | exact Sub.refl _ | constructor | apply Sub.weaken))⟩ (hs := .cons rfl (.cons rfl (.cons rfl (.cons rfl (.consI rfl hts.symm (.consI rfl hbs.symm (by repeat (first | exact .nil rfl rfl | refine .cons rfl ?_))))))))
      · rintro fr w ⟨rfl, C, ⟨hC1, hC2⟩, hUs, hTm, hs⟩
        have hlen : us.length ≤ 400 := by omega
        refine nT ?_
        refine .seq (.regSeq (.z zg (.nil (.block ?_))))
        refine .loop (fun k : Nat => ⟨124, [], [(14, I ((k : Int) + 1)), (8, .slice (some ⟨b28, 0, none⟩) s.n s.n), (10, I (boundTo s us us.length)), (3, .pointer (some ⟨b3, 0, none⟩)), (5, .pointer (some ⟨b5, 0, none⟩)), (1, .slice aw ws.length cw)]⟩)
          (fun k w => (k + 1 ≤ s.n ∧ ∀ v, 1 ≤ v → v < k + 1 → gi C v = gi ws v) ∧ St H w (.blk b28 (Is C) :: .blk b5 [I n, .slice au us.length cu] :: .blk b3 [I s.many, .slice al s.lims.length cl] :: σ))
          (fun k => s.n - k) 0 (by repeat (first | exact .nil rfl rfl | refine .cons rfl ?_)) ⟨⟨s.n_pos, fun v h1 h2 => by omega⟩, hs⟩ ?_
        clear hs
        rintro k w ⟨⟨hk, hno⟩, hs⟩
        refine .seq (.regSeq (.z zm (.z (zfa fa_api_System_0) (.y hs (zld Try.isAgg3) (.z zleq (.nil ?_))))))
        refine (.condD rfl (fun hc108 => ?_) (fun hc108 => ?_))
        · refine .skip ?_
          refine nT ?_
          refine .seq (.block ?_)
          refine .seq (.draw mix rfl hs ?_); intro w hs
          have hk1 : k + 1 < s.n := by omega
          refine .z 0 rfl zm ?_; refine .z 1 rfl zm ?_
          refine .p (i := 2) rfl (by kernel_rfl) .none (q_ixO (k := k + 1) rfl rfl Try.runUnderlying22 Try.sizeOf3 (by push_cast; rfl) hk1) ?_
          refine .y 3 rfl hs Try.isAgg3 ?_; refine .z 4 rfl zm ?_; refine .z 5 rfl zm ?_
          refine .ixX (enc := fun x => [I x]) (i := 6) hs rfl (by kernel_rfl) .none hrw rfl rfl Try.runUnderlying22 Try.sizeOf3 (gi_get (l := ws) (i := k + 1) (by omega)) (by push_cast; rfl) ?_; intro b117 o117 hc117; replace hc117 := CellsAt.one hc117
          refine .r (i := 7) hs rfl (by kernel_rfl) .none (q_loadR rfl Try.isAgg3 hc117) ?_
          refine .z 8 rfl zneq ?_; refine .done (by kernel_rfl) hs ?_
          refine (.condN rfl (fun hc119 => ?_) (fun hc119 => ?_))
          · refine .regSeq (.z zg (.nil ?_))
            refine .ret (rB (rT (rT (rB (rT (Fin.ret1 Try.results32 rfl ?_))))))
            exact ⟨_, rfl, .bad hA (fun h => hc119 (by rw [hC2 _ hk1]; exact h.into _ (by omega) hk1)), hs.out⟩
          · refine .skip ?_
            refine nB (nT ?_)
            refine .region (.z zm (.z zadd (.z zg (.nil ?_))))
            refine nT ?_
            exact ⟨k + 1, .consI rfl (by push_cast; omega) (by repeat (first | exact .nil rfl rfl | refine .cons rfl ?_)), ⟨⟨by omega, fun v h1 h2 => by
              by_cases e : v = k + 1
              · subst e; exact hc119
              · exact hno v h1 (by omega)⟩, hs⟩, by omega⟩
        · refine .exit ?_
          refine xT (xT (xB (nT ?_)))
          refine .seq (.regSeq (.z zm (.z (zfa fa_api_Proof_0) (.y hs (zld Try.isAgg3) (.z zneq (.nil ?_))))))
          refine (.condN rfl (fun hc123 => ?_) (fun hc123 => ?_))
          · refine .regSeq (.z zg (.nil ?_))
            refine .ret (rT (Fin.ret1 Try.results32 rfl ?_))
            exact ⟨_, rfl, .bad hA (fun h => hc123 h.bound), hs.out⟩
          · refine .skip ?_
            refine nT ?_
            refine .regSeq (.z zg (.nil ?_))
            refine .ret (Fin.ret1 Try.results32 rfl ?_)
            exact ⟨_, rfl, .ok hA ⟨hlen, hUs, hTm, fun v h1 h2 => by rw [← hC2 v h2]; exact hno v h1 (by omega), by simpa using hc123⟩, hs.out⟩
end Go.Proofs.Ytiiokdeehlfeeaa

namespace Go.Proofs.Ytiiokdeehlfeeaa
open Go.MW
inductive CWR (a : Quest) (l : List Prb) (n m : Int) (us : List Use) : Int → Prop
  | ask {e : Int} (h : CPrbR a l e) (he : e ≠ 0) : CWR a l n m us e
  | bad {e : Int} (h : CPrbR a l 0) (h1 : ProofR (dblS a l) (dblW a.ws) m us e) (he : e ≠ 0) : CWR a l n m us 24
  | more (h : CPrbR a l 0) (h1 : ProofR (dblS a l) (dblW a.ws) m us 0) (he : n < m) : CWR a l n m us 94
  | ok (h : CPrbR a l 0) (h1 : ProofR (dblS a l) (dblW a.ws) m us 0) (he : ¬ n < m) : CWR a l n m us 0
theorem CWR.uniq {a : Quest} {l : List Prb} {n m : Int} {us : List Use} {e f : Int} (h : CWR a l n m us e) (g : CWR a l n m us f) : e = f := by
  cases h with
  | ask h he =>
    cases g with
    | ask g _ => exact h.uniq g
    | bad g _ _ => exact (he (h.uniq g)).elim
    | more g _ _ => exact (he (h.uniq g)).elim
    | ok g _ _ => exact (he (h.uniq g)).elim
  | bad h h1 he =>
    cases g with
    | ask g ge => exact (ge (g.uniq h)).elim
    | bad g _ _ => rfl
    | more g g1 _ => exact (he (h1.uniq g1)).elim
    | ok g g1 _ => exact (he (h1.uniq g1)).elim
  | more h h1 he =>
    cases g with
    | ask g ge => exact (ge (g.uniq h)).elim
    | bad g g1 ge => exact (ge (g1.uniq h1)).elim
    | more g _ _ => rfl
    | ok g _ ge => exact (ge he).elim
  | ok h h1 he =>
    cases g with
    | ask g ge => exact (ge (g.uniq h)).elim
    | bad g g1 ge => exact (ge (g1.uniq h1)).elim
    | more g _ ge => exact (he ge).elim
    | ok g _ _ => rfl
end Go.Proofs.Ytiiokdeehlfeeaa

namespace Go.Proofs.Ytiiokdeehlfeeaa
open Go.MW
theorem slices_Reverse_int {H : Heap} {w : World} {σ : List Ent} {v : Value} {l : List Int} {en : Ent} (hs : St H w (en :: σ)) (ho : OwnS 1 v (Is l) en) (hl : l.length ≤ 1000000) :
    Cl Try.prog 175 [v] w fun _ w' => ∃ en', OwnS 1 v (Is l.reverse) en' ∧ St H w' (en' :: σ) := by
  rcases ho with ⟨a, rfl, h2, rfl⟩ | ⟨b, len, cap, sp, rfl, rfl, h2, h3, h4⟩
  · obtain rfl : l = [] := by
      have := congrArg List.length h2
      exact List.length_eq_zero_iff.1 (by simpa using this)
    have hs := hs.tail
    refine Cl.of Try.func175 rfl Try.ntmps175 (by simp) (args_cons (k := 0) rfl (args0)) ?_
    refine .regSeq (.z zm (.z (zlen Try.runUnderlying22) (.z zsub (.z zg (.z zg (.nil (.block ?_)))))))
    refine .loop (fun _ : Unit => ⟨28, [], [(2, I 0), (3, I (-1))]⟩) (fun _ w => St H w σ) (fun _ => 0) () (by repeat (first | exact .nil rfl rfl | refine .cons rfl ?_)) hs ?_
    rintro _ w hs
    refine .seq (.regSeq (.z zm (.z zm (.z zlss (.nil ?_)))))
    refine (.condD rfl (fun hc9 => ?_) (fun hc9 => ?_))
    · omega
    · refine .exit ?_
      refine xT (xT (xB ?_))
      exact Fin.end0 Try.results175 ⟨.nul, .nil 1 a, hs.nul⟩
  obtain rfl : len = l.length := by simpa using h2.symm
  refine Cl.of Try.func175 rfl Try.ntmps175 (by simp) (args_cons (k := 0) rfl (args0)) ?_
  refine .regSeq (.z zm (.z (zlen Try.runUnderlying22) (.z zsub (.z zg (.z zg (.nil (.block ?_)))))))
  refine .loop (fun p : Nat × List Int => ⟨28, [], [(2, I p.1), (3, I ((l.length : Int) - 1 - p.1)), (0, .slice (some ⟨b, 0, none⟩) l.length cap)]⟩) (fun p w => (2 * p.1 ≤ l.length + 1 ∧ TurnedI l p.2 p.1) ∧ St H w (.blk b (Is p.2 ++ sp) :: σ)) (fun p => l.length - p.1) (0, l) (.cons rfl (.consI rfl (by simp) (.cons rfl (.nil rfl rfl)))) ⟨⟨by simp, .start l⟩, hs⟩ ?_
  rintro ⟨i, L⟩ w ⟨⟨h5, h6⟩, hs⟩
  dsimp only at h5 h6 hs ⊢
  have hL := h6.1
  refine .seq (.regSeq (.z zm (.z zm (.z zlss (.nil ?_)))))
  refine (.condD rfl (fun hc9 => ?_) (fun hc9 => ?_))
  · refine .skip ?_
    refine nT ?_
    refine .seq (.block ?_)
    refine .draw mix rfl hs ?_; intro w hs
    refine .z 0 rfl zm ?_; refine .z 1 rfl zm ?_; refine .z 2 rfl zm ?_; refine .z 3 rfl zm ?_; refine .z 4 rfl zm ?_; refine .z 5 rfl zm ?_
    refine .p (i := 6) rfl (by kernel_rfl) .none (q_ixO (k := l.length - 1 - i) rfl rfl Try.runUnderlying22 Try.sizeOf3 (by omega) (by omega)) ?_
    refine .load (i := 7) hs rfl (by kernel_rfl) .none rfl Try.isAgg3 ?_ (hv := Is_gi_sp (by omega) sp)
    refine .z 8 rfl zm ?_; refine .z 9 rfl zm ?_
    first | (refine .ixv 10 rfl hs Try.runUnderlying22 Try.sizeOf3 ?_; intro b24 o24 hc24) | refine .z 10 rfl (zix Try.runUnderlying22 Try.sizeOf3) ?_
    refine .load (i := 11) hs rfl (by kernel_rfl) .none rfl Try.isAgg3 ?_ (hv := Is_gi_sp (by omega) sp)
    first | (refine .ixv 12 rfl hs Try.runUnderlying22 Try.sizeOf3 ?_; intro b26 o26 hc26) | refine .z 12 rfl (zix Try.runUnderlying22 Try.sizeOf3) ?_
    refine .e1 (i := 13) (by kernel_rfl) rfl rfl .none hs ?_
    refine .store hs rfl rfl Try.sizeOf3 ?_ (by repeat constructor) (by simp; omega) (Is_set_sp (by omega) sp _); intro w hs
    refine .go ?_
    refine .p (i := 14) rfl (by kernel_rfl) .none (q_ixO (k := l.length - 1 - i) rfl rfl Try.runUnderlying22 Try.sizeOf3 (by omega) (by omega)) ?_
    refine .e1 (i := 15) (by kernel_rfl) rfl rfl .none hs ?_
    refine .store hs rfl rfl Try.sizeOf3 ?_ (by repeat constructor) (by simp; omega) (Is_set_sp (by simp; omega) sp _); intro w hs
    refine .go ?_
    refine .done (by kernel_rfl) hs ?_
    refine nB (nT ?_)
    refine .region (.z zm (.z zadd (.z zm (.z zsub (.z zg (.z zg (.nil ?_)))))))
    refine nT ?_
    exact ⟨(i + 1, _), .cons rfl (.consI rfl (by push_cast; omega) (.cons rfl (.nil rfl rfl))), ⟨⟨by dsimp only; omega, h6.step (by omega)⟩, hs⟩, by dsimp only; omega⟩
  · refine .exit ?_
    refine xT (xT (xB ?_))
    rw [h6.done (by omega)] at hs
    exact Fin.end0 Try.results175 ⟨_, .inr ⟨b, l.length, cap, sp, rfl, rfl, by simp, by rw [← h3]; simp, h4⟩, hs⟩
inductive CycR (s : Syst) (xs : List Int) : Int → Prop
  | bad (h : s.check ≠ 0) (h1 : xs = []) : CycR s xs s.check
  | sound (h : s.Ok) (h1 : s.Sound) (h2 : xs = []) : CycR s xs 0
  | chain {st : BS} {x : Arc} {z k : Nat} (h : s.Ok) (h1 : ¬ s.Sound) (h2 : NearR s.n s.arcs st (some x)) (h3 : z = parK st.by_ x.t (s.n + 1)) (h4 : 1 ≤ k) (h5 : k ≤ s.n) (h6 : parK st.by_ z k = z) (h7 : xs = (idxTo st.by_ z k).reverse) : CycR s xs 0
theorem CycR.sound_iff {s : Syst} {xs : List Int} (h : CycR s xs 0) : xs = [] ↔ s.Sound := by
  generalize hz : (0 : Int) = y at h
  cases h with
  | bad h => exact (h hz.symm).elim
  | sound _ h1 h2 => exact ⟨fun _ => h1, fun _ => h2⟩
  | @chain st x z k _ h1 _ _ h4 _ _ h7 => exact ⟨fun h => by
      have := congrArg List.length (h7.symm.trans h)
      rw [List.length_reverse, idxTo_length] at this
      simp at this; omega, fun h => (h1 h).elim⟩
theorem CycR.err {s : Syst} {xs : List Int} {e : Int} (h : CycR s xs e) : e = s.check := by
  cases h with
  | bad => rfl
  | sound h => exact (s.ok_iff.2 h).symm
  | chain h => exact (s.ok_iff.2 h).symm
set_option maxHeartbeats 4000000 in
theorem bound_Cycle_spec {H : Heap} {w : World} {σ : List Ent} {v : Value} {s : Syst} (hs : St H w σ) (hr : RSy H v s) :
    Cl Try.prog 86 [v] w fun u w' => ∃ H1 vx xs e, HLe H H1 ∧ u = .tuple #[vx, I e] ∧ RI H1 vx xs ∧ CycR s xs e ∧ St H1 w' σ := by
  obtain ⟨u, rfl, hr⟩ := hr
  obtain ⟨al, cl, rfl⟩ := RL.shape hr
  refine Cl.of Try.func86 rfl Try.ntmps86 (by simp) (args_cons (k := 0) rfl (args0)) ?_
  refine .regSeq ?_
  refine .o (.box hs rfl rfl ?_); intro b1 w hs
  refine .z zg (.z zg (.nil (.seq (.regSeq (.y hs (zls [_, _] Try.isAgg32 Try.sizeOf32) ?_)))))
  refine .o (.call Try.call72 rfl (bound_Check_spec (s := s) hs ⟨_, rfl, hr⟩) ?_); rintro _ w ⟨rfl, hs⟩
  refine .z zg (.nil (.regSeq (.z zm (.z zneq (.nil ?_)))))
  refine (.condN rfl (fun hc14 => ?_) (fun hc14 => ?_))
  · refine .regSeq (.z zm (.z zg (.z zg (.nil ?_))))
    refine .ret (rT (Fin.ret2 Try.results86 rfl rfl ?_))
    exact ⟨H, _, [], _, HLe.refl H, rfl, RS.nil H 1 none 0, .bad hc14 rfl, hs.out⟩
  · refine .skip ?_
    refine nT ?_
    refine .seq (.draw mix rfl hs ?_); intro w hs
    refine .z 0 rfl (zfa fa_api_System_0) ?_; refine .y 1 rfl hs Try.isAgg3 ?_; refine .ys 2 rfl hs [_, _] Try.isAgg32 Try.sizeOf32 ?_
    refine .e1 (i := 3) (by kernel_rfl) rfl rfl .none hs ?_
    have hok : s.Ok := s.ok_iff.1 (by simpa using hc14)
    have hoka := hok.arcs
    have hn : s.n = s.many.toNat + 1 := rfl
    have hm0 := hok.m0
    have hm1 := hok.m1
    refine .call Try.call174 rfl (bound_steps_spec (s := s) hs hok ⟨_, rfl, hr⟩) ?_; rintro _ w ⟨H1, b10, hle1, rfl, hit, hs⟩
    refine .go ?_
    refine .e1 (i := 4) (by kernel_rfl) rfl rfl .none hs ?_
    have hnear := bound_nearest_spec (N := s.many.toNat) hs (by omega) (by rw [← hn]; exact hoka) hit Try.call202
    rw [Int.toNat_of_nonneg hm0] at hnear
    refine .call Try.call173 rfl hnear ?_; rintro _ w ⟨H2, bc, bb, st, ov, vo, hle2, rfl, hov, hnr, hs⟩
    obtain ⟨a', rfl, ha'⟩ := hov.ptr
    refine .go ?_
    refine .z 5 rfl zm ?_; refine .z 6 rfl zex ?_; refine .z 7 rfl zex ?_; refine .z 8 rfl zex ?_; refine .z 9 rfl zg ?_; refine .z 10 rfl zg ?_; refine .z 11 rfl zg ?_; refine .done (by kernel_rfl) hs ?_
    refine .seq (.regSeq (.z zm ?_))
    refine .q hs (q_eqPN rfl rfl Try.runUnderlying199) ?_
    refine .nil ?_
    refine (.cond rfl (fun hc26 => ?_) (fun hc26 => ?_))
    · refine .regSeq (.z zg (.z zg (.nil ?_)))
      refine .ret (rT (Fin.ret2 Try.results86 rfl rfl ?_))
      exact ⟨H2, _, [], 0, hle1.trans hle2, rfl, RS.nil H2 1 none 0, .sound hok (by
        obtain ⟨r, hN2, hr2⟩ := hnr
        cases ov with
        | none => exact ⟨_, (hN2.sol (by rw [← hn]; exact hoka) (by omega)).1⟩
        | some x => rw [ha'] at hc26; cases hc26) rfl, hs.out⟩
    · refine .skip ?_
      refine nT ?_
      refine .regSeq (.z zm ?_)
      obtain ⟨x, rfl⟩ := OvR.yes ha' hc26
      obtain ⟨b3, e3, hrow⟩ := hov
      cases e3
      have hrowT : cellAt H2 b3 1 = some (I x.t) := hrow.at 1
      have hmn : s.many + 2 = ((s.many.toNat + 2 : Nat) : Int) := by omega
      have hns : ¬ s.Sound := by
        obtain ⟨r, hN2, hr2⟩ := hnr
        exact hN2.none (by rw [← hn]; exact hoka) (by omega) (by have := hr2 (by simp); omega)
      obtain ⟨hlb, hrg, hxt⟩ : st.by_.length = s.many.toNat + 1 ∧ (∀ v < s.many.toNat + 1, (ga st.by_ v).f < s.many.toNat + 1) ∧ x.t < s.many.toNat + 1 := by
        obtain ⟨r, hN2, hr2⟩ := hnr
        exact ⟨hN2.lb, fun v hv => (hN2.rg v hv).1, (hoka.2 x (hN2.ovm x rfl)).2.1⟩
      have hpl := fun k => parK_lt hrg hxt k
      refine .z znc (.z (zfa fa_bound_step_1) ?_)
      refine .q hs (q_loadR rfl Try.isAgg3 hrowT) ?_
      refine .z zg (.nil (.seq (.regSeq (.z (zfa fa_api_System_0) (.y hs (zld Try.isAgg3) (.z zadd ?_))))))
      rw [hmn]
      refine .z zm (.nil ?_)
      refine .for (N := s.many.toNat + 2) (J := fun k fr w => fr = [(8, I (parK st.by_ x.t k)), (6, .slice (some ⟨bb, 0, none⟩) (s.many.toNat + 1) (s.many.toNat + 1))] ∧ St H2 w (.blk bc (Is st.cost) :: .blk bb (Arcs st.by_) :: .blk b1 [I s.many, .slice al s.lims.length cl] :: σ)) (by omega) ?_ ?_ ?_
      · exact .mk ⟨rfl, hs⟩
      · rintro k fr w hk ⟨rfl, hs⟩
        refine .block (.region (.z zm (.z zm ?_)))
        refine .q hs (q_ixOm (k := parK st.by_ x.t k) rfl rfl Try.runUnderlying198 Try.sizeOf205 rfl (hpl k)) ?_
        refine .z (zfa fa_bound_step_0) ?_
        refine .q hs (q_load rfl Try.isAgg3 (.there .here) (Arcs_get (j := 0) (by rw [hlb]; exact hpl k) (by decide))) ?_
        refine .z zg (.nil ?_)
        refine nB (nT ?_)
        exact .mk ⟨rfl, hs.out⟩
      · rintro fr w ⟨rfl, hs⟩
        obtain ⟨pd, hp1, hp2, hp3⟩ := parK_round hrg hxt (m := s.many.toNat + 2) (by omega)
        have hzl := hpl (s.many.toNat + 2)
        generalize hz : parK st.by_ x.t (s.many.toNat + 2) = z at hp3 hzl ⊢
        have hzk := fun k => parK_lt hrg hzl k
        refine nT ?_
        refine .regSeq (.z zg (.nil (.seq (.regSeq (.z zm (.z zg (.nil (.block ?_))))))))
        refine .loop (fun p : Nat × Value => ⟨62, [], [(9, p.2), (8, I (parK st.by_ z p.1)), (10, I z), (6, .slice (some ⟨bb, 0, none⟩) (s.many.toNat + 1) (s.many.toNat + 1))]⟩)
          (fun p w => p.1 < pd ∧ ∃ en, OwnS 1 p.2 (Is (idxTo st.by_ z p.1)) en ∧ St H2 w (en :: .blk bc (Is st.cost) :: .blk bb (Arcs st.by_) :: .blk b1 [I s.many, .slice al s.lims.length cl] :: σ))
          (fun p => pd - p.1) (0, .slice none 0 0) (by repeat (first | exact .nil rfl rfl | refine .cons rfl ?_))
          ⟨by omega, _, .nil 1 none, hs.nul⟩ ?_
        rintro ⟨k, v9⟩ w ⟨hk, en, hO, hs⟩
        dsimp only at hk hO ⊢
        refine .block (.regSeq (.z zm (.z zm (.z zm ?_))))
        refine .q hs (q_ixOm (k := parK st.by_ z k) rfl rfl Try.runUnderlying198 Try.sizeOf205 rfl (hzk k)) ?_
        refine .z (zfa fa_bound_step_3) ?_
        refine .q hs (q_load rfl Try.isAgg3 (.there (.there .here)) (Arcs_get (j := 3) (by rw [hlb]; exact hzk k) (by decide))) ?_
        refine .o (.buildSlice (cells := [_]) hs bls_sl_int_1 rfl rfl ?_); intro b49 w hs
        refine .o (.append (ys := [I (ga st.by_ (parK st.by_ z k)).l]) hs app_sl_int_int rfl rfl hO (.own .here rfl rfl) (by simp [Value.oneCell']) (fun l' h => by simp [idxTo] at h; omega) ?_); intro v50 en50 w hO2 hs
        refine .z zg (.nil (.regSeq (.z zm (.z zm ?_))))
        refine .q hs (q_ixOm (k := parK st.by_ z k) rfl rfl Try.runUnderlying198 Try.sizeOf205 rfl (hzk k)) ?_
        refine .z (zfa fa_bound_step_0) ?_
        refine .q hs (q_load rfl Try.isAgg3 (by repeat (first | exact .here | refine .there ?_)) (Arcs_get (j := 0) (by rw [hlb]; exact hzk k) (by decide))) ?_
        refine .z zg (.nil (.regSeq (.z zm (.z zm (.z zeql (.nil ?_))))))
        refine (.condD rfl (fun hc58 => ?_) (fun hc58 => ?_))
        · refine .exit ?_
          refine xN (xT (xB (nT ?_)))
          refine .regSeq (.z zm ?_)
          have hO3 : OwnS 1 v50 (Is (idxTo st.by_ z (k + 1))) en50 := by rw [idxTo_succ]; simpa [Is] using hO2
          have hkz : parK st.by_ z (k + 1) = z := by
            have h3 : ((ga st.by_ (parK st.by_ z k)).f : Int) = z := by simpa using hc58
            show (ga st.by_ (parK st.by_ z k)).f = z
            omega
          refine .o (.call Try.call175 rfl (slices_Reverse_int hs hO3 (by rw [idxTo_length]; omega)) ?_); rintro _ w ⟨en', hO4, hs⟩
          refine .nil (.regSeq (.z zm (.z zg (.z zg (.nil ?_)))))
          refine .ret (Fin.ret2 Try.results86 rfl rfl ?_)
          obtain ⟨H3, hle3, hRI, hs⟩ := OwnS.publishI hO4 (by rw [List.length_reverse, idxTo_length]; omega) hs .here
          exact ⟨H3, _, _, 0, hle1.trans (hle2.trans hle3), rfl, hRI, .chain hok hns (by rw [hn]; exact hnr) (by rw [hn]; exact hz.symm) (by omega) (by omega) hkz rfl, hs.sub (by repeat (first | exact Sub.refl _ | constructor | apply Sub.weaken))⟩
        · refine .skip ?_
          refine nB (nT ?_)
          exact ⟨(k + 1, v50), by repeat (first | exact .nil rfl rfl | refine .cons rfl ?_), ⟨by
            dsimp only
            have : k + 1 ≠ pd := fun e => hc58 (congrArg (Nat.cast : Nat → Int) (show parK st.by_ z (k + 1) = z by rw [e]; exact hp3))
            omega, en50, by rw [idxTo_succ]; simpa [Is] using hO2, hs.sub (by repeat (first | exact Sub.refl _ | constructor | apply Sub.weaken))⟩, by dsimp only; omega⟩
end Go.Proofs.Ytiiokdeehlfeeaa

namespace Go.Proofs.Ytiiokdeehlfeeaa
open Go.MW
def ROut (H : Heap) (v : Value) (vs : List Int) : Prop := ∃ u, v = .agg #[u] ∧ RI H u vs
theorem ROut.mono {H H' : Heap} {v : Value} {vs : List Int} (h : ROut H v vs) (hl : HLe H H') : ROut H' v vs := by
  obtain ⟨u, h1, h2⟩ := h; exact ⟨u, h1, h2.mono hl⟩
end Go.Proofs.Ytiiokdeehlfeeaa

namespace Go.Proofs.Ytiiokdeehlfeeaa
open Go.MW
inductive COutR (a : Quest) (l : List Prb) (vs : List Int) : Int → Prop
  | ask {e : Int} (h : CPrbR a l e) (he : e ≠ 0) : COutR a l vs e
  | size (h : CPrbR a l 0) (h1 : vs.length ≠ l.length) : COutR a l vs 92
  | ok (h : CPrbR a l 0) (h1 : vs.length = l.length) : COutR a l vs 0
theorem COutR.zero {a : Quest} {l : List Prb} {vs : List Int} (h : COutR a l vs 0) : CPrbR a l 0 ∧ vs.length = l.length := by
  generalize hz : (0 : Int) = y at h
  cases h with
  | ask _ he => exact (he hz.symm).elim
  | size => omega
  | ok h h1 => exact ⟨h, h1⟩
theorem COutR.uniq {a : Quest} {l : List Prb} {vs : List Int} {e f : Int} (h : COutR a l vs e) (g : COutR a l vs f) : e = f := by
  cases h with
  | ask h he =>
    cases g with
    | ask g _ => exact h.uniq g
    | size g _ => exact (he (h.uniq g)).elim
    | ok g _ => exact (he (h.uniq g)).elim
  | size h h1 =>
    cases g with
    | ask g ge => exact (ge (g.uniq h)).elim
    | size => rfl
    | ok _ g1 => exact (h1 g1).elim
  | ok h h1 =>
    cases g with
    | ask g ge => exact (ge (g.uniq h)).elim
    | size _ g1 => exact (g1 h1).elim
    | ok => rfl
end Go.Proofs.Ytiiokdeehlfeeaa

namespace Go.Proofs.Ytiiokdeehlfeeaa
open Go.MW
structure KeepsP (s : Syst) (x : List Int) : Prop where
  len : x.length = s.n
  zero : gi x 0 = 0
  free : ∀ v < s.n, -1000000000 ≤ gi x v ∧ gi x v ≤ 1000000000
  feas : Feas s.arcs (gi x)
theorem ref02_Close_spec {H : Heap} {w : World} {σ : List Ent} {v : Value} {s : Syst} (hs : St H w σ) (hr : RSy H v s) :
    Cl Try.prog 79 [v] w fun u w' => ∃ H1 vt e, HLe H H1 ∧ u = .tuple #[vt, I e] ∧ ((s.check ≠ 0 ∧ e = s.check ∧ vt = .slice none 0 0) ∨ (s.Ok ∧ ¬ s.Sound ∧ e = 23 ∧ vt = .slice none 0 0) ∨ (s.Ok ∧ s.Sound ∧ e = 0 ∧ ∃ rs, RT H1 vt rs ∧ Sq s.n rs ∧ WaysT s.n s.arcs (gt rs))) ∧ St H1 w' σ := by
  obtain ⟨ul, rfl, hl⟩ := hr
  obtain ⟨al, cl, rfl⟩ := RL.shape hl
  refine Cl.of Try.func79 rfl Try.ntmps79 (by simp) (args_cons (k := 0) rfl (args0)) ?_
  refine .regSeq ?_
  refine .o (.box hs rfl rfl ?_); intro b1 w hs
  refine .z zg (.z zg (.nil (.regSeq (.y hs (zls [_, _] Try.isAgg32 Try.sizeOf32) ?_))))
  refine .o (.call Try.call73 rfl (ref02_Check_spec (s := s) hs ⟨_, rfl, hl⟩) ?_); rintro _ w ⟨rfl, hs⟩
  refine .z zg (.nil (.seq (.regSeq (.z zm (.z zneq (.nil ?_))))))
  refine (.condN rfl (fun hc9 => ?_) (fun hc9 => ?_))
  · refine .regSeq (.z zm (.z zg (.z zg (.nil ?_))))
    refine .ret (rT (Fin.ret2 Try.results79 rfl rfl ?_))
    exact ⟨H, _, _, HLe.refl H, rfl, .inl ⟨hc9, rfl, rfl⟩, hs.out⟩
  · refine .skip ?_
    refine nT ?_
    refine .regSeq (.y hs (zls [_, _] Try.isAgg32 Try.sizeOf32) ?_)
    have hok : s.Ok := s.ok_iff.1 (by simpa using hc9)
    have hm1 := hok.m1
    refine .o (.call Try.call145 rfl (ref02_Ways_spec (s := s) hs ⟨_, rfl, hl⟩ hok) ?_); rintro v12 w ⟨H1, rs, hle1, hRT, hSq, hWT, hs⟩
    obtain ⟨at', ct, rfl⟩ := hRT.shape
    refine .z zg (.nil (.seq (.regSeq (.z zm ?_))))
    refine .o (.call Try.call167 rfl (ref02_Sound_spec hs hRT hSq (by simp only [Syst.n]; omega)) ?_); rintro _ w ⟨b, rfl, hb, hs⟩
    have hbs := hb.trans (sound_diag hok hWT).symm
    refine .z znot (.nil ?_)
    refine (.cond rfl (fun hc15 => ?_) (fun hc15 => ?_))
    · refine .regSeq (.z zg (.z zg (.nil ?_)))
      refine .ret (rT (Fin.ret2 Try.results79 rfl rfl ?_))
      exact ⟨H1, _, _, hle1, rfl, .inr (.inl ⟨hok, fun h => by simp [hbs.2 h] at hc15, rfl, rfl⟩), hs.out⟩
    · refine .skip ?_
      refine nT ?_
      refine .regSeq (.z zm (.z zg (.z zg (.nil ?_))))
      refine .ret (Fin.ret2 Try.results79 rfl rfl ?_)
      exact ⟨H1, _, _, hle1, rfl, .inr (.inr ⟨hok, hbs.1 (by simpa using hc15), rfl, rs, hRT, hSq, hWT⟩), hs.out⟩
end Go.Proofs.Ytiiokdeehlfeeaa

namespace Go.Proofs.Ytiiokdeehlfeeaa
open Go.MW
theorem ref02_keeps_spec {H : Heap} {w : World} {σ : List Ent} {v vx : Value} {s : Syst} {x : List Int} (hs : St H w σ) (hr : RSy H v s) (hx : RI H vx x) (hok : s.Ok) :
    Cl Try.prog 134 [v, vx] w fun u w' => ∃ b, u = .bool b ∧ (b = true ↔ KeepsP s x) ∧ St H w' σ := by
  obtain ⟨ul, rfl, hl⟩ := hr
  obtain ⟨al, cl, rfl⟩ := RL.shape hl
  obtain ⟨ax, cx, rfl⟩ := RI.shape hx
  have hm0 := hok.m0
  have hm1 := hok.m1
  have hll := hok.len
  have hlx := (RI.len hx).2.2
  have hnn : (s.n : Int) = s.many + 1 := by simp only [Syst.n]; omega
  refine Cl.of Try.func134 rfl Try.ntmps134 (by simp) (args_cons (k := 0) rfl (args_cons (k := 1) rfl (args0))) ?_
  refine .regSeq ?_
  refine .o (.box hs rfl rfl ?_); intro b2 w hs
  refine .z zg (.nil (.seq (.regSeq (.z zm (.z (zlen Try.runUnderlying22) (.z (zfa fa_api_System_0) (.y hs (zld Try.isAgg3) (.z zadd (.z zneq ?_)))))))))
  refine .z zm ?_
  refine .bifN (t' := 15) rfl (fun hb15 => ?_) (fun hb15 => ?_)
  · refine .gFs 4 6 false rfl rfl rfl ?_
    refine .z zpT (.nil ?_)
    refine (.condT rfl rfl ?_)
    refine .regSeq (.z zg (.nil ?_))
    refine .ret (rT (Fin.ret1 Try.results134 rfl ?_))
    exact ⟨false, rfl, ⟨fun h => (by cases h), fun h => by
      have h8 := h.len
      have h9 := h.zero
      exfalso
      first | (have h7 := hb15; simp at h7; omega) | (simp_all; done)⟩, hs.out⟩
  · refine .gT rfl rfl ?_
    refine .z zm ?_
    refine .gT rfl rfl ?_
    refine .ixX (enc := fun x => [I x]) hs hx rfl rfl Try.runUnderlying22 Try.sizeOf3 (gi_get (l := x) (i := 0) (by omega)) rfl ?_; intro b17 o17 hc17; replace hc17 := CellsAt.one hc17
    refine .gT rfl rfl ?_
    refine .q hs (q_loadR rfl Try.isAgg3 hc17) ?_
    refine .gT rfl rfl ?_
    refine .z zneq (.z zpF (.nil ?_))
    refine (.condN rfl (fun hc20 => ?_) (fun hc20 => ?_))
    · refine .regSeq (.z zg (.nil ?_))
      refine .ret (rT (Fin.ret1 Try.results134 rfl ?_))
      exact ⟨false, rfl, ⟨fun h => (by cases h), fun h => by
        have h8 := h.len
        have h9 := h.zero
        exfalso
        first | (have h7 := hb15; simp at h7; omega) | (simp_all; done)⟩, hs.out⟩
    · refine .skip ?_
      refine nT ?_
      refine .seq (.regSeq (.z zm (.z (zlen Try.runUnderlying22) (.z zm (.nil ?_)))))
      refine .for (N := x.length) (J := fun k fr w => fr = [(21, .slice ax x.length cx), (1, .slice ax x.length cx), (2, .pointer (some ⟨b2, 0, none⟩))] ∧ (∀ i < k, -1000000000 ≤ gi x i ∧ gi x i ≤ 1000000000) ∧ St H w (.blk b2 [I s.many, .slice al s.lims.length cl] :: σ)) (by omega) ?_ ?_ ?_
      · exact .mk ⟨rfl, fun i hi => by omega, hs⟩
      · rintro k fr w hk ⟨rfl, h0, hs⟩
        refine .block (.regSeq ?_)
        refine .ixX (enc := fun x => [I x]) hs hx rfl rfl Try.runUnderlying22 Try.sizeOf3 (gi_get hk) rfl ?_; intro b25 o25 hc25; replace hc25 := CellsAt.one hc25
        refine .q hs (q_loadR rfl Try.isAgg3 hc25) ?_
        refine .z zg (.nil (.regSeq (.z zm ?_)))
        refine .o (.call Try.call111 rfl (ref02_within_spec hs) ?_); rintro _ w ⟨rfl, hs⟩
        refine .z znot (.nil ?_)
        refine (.cond rfl (fun hc29 => ?_) (fun hc29 => ?_))
        · refine .regSeq (.z zg (.nil ?_))
          refine .ret (rB (rT (rB (rT (Fin.ret1 Try.results134 rfl ?_)))))
          exact ⟨false, rfl, ⟨fun h => (by cases h), fun h => by
            have h8 := h.free k (by have := h.len; omega)
            exfalso
            have h7 := hc29
            rw [decide_eq_true h8] at h7
            simp at h7⟩, hs.out⟩
        · refine .skip ?_
          refine nB (nT ?_)
          exact .mk ⟨rfl, fun i hi => by
            by_cases e : i = k
            · subst e; exact of_decide_eq_true (by simpa using hc29)
            · exact h0 i (by omega), hs⟩
      · rintro fr w ⟨rfl, h0, hs⟩
        refine nT ?_
        refine .seq (.regSeq (.z (zfa fa_api_System_1) (.y hs (zld Try.isAgg30) (.z (zlen Try.runUnderlying30) (.z zm (.nil ?_))))))
        refine .for (N := s.lims.length) (J := fun k fr w => fr = [(32, .slice al s.lims.length cl), (1, .slice ax x.length cx)] ∧ (∀ i < k, ∀ y, s.lims[i]? = some y → gi x y.B.toNat ≤ gi x y.A.toNat + y.M) ∧ St H w (.blk b2 [I s.many, .slice al s.lims.length cl] :: σ)) (by omega) ?_ ?_ ?_
        · exact .mk ⟨rfl, fun i hi => by omega, hs⟩
        · rintro k fr w hk ⟨rfl, h1, hs⟩
          obtain ⟨y, hy⟩ := nth hk
          obtain ⟨⟨y1, y2⟩, ⟨y3, y4⟩, y5, y6, -⟩ := hok.lim y (List.mem_of_getElem? hy)
          have z1 := h0 y.B.toNat (by omega)
          have z2 := h0 y.A.toNat (by omega)
          refine .block (.regSeq ?_)
          refine .ixX (enc := Lim.c) hs hl rfl rfl Try.runUnderlying30 Try.sizeOf100 hy rfl ?_; intro b36 o36 hc36
          refine .q hs (q_loadsR (vs := y.c) rfl Try.isAgg100 Try.sizeOf100 hc36) ?_
          refine .o (.alloc hs Try.zeroValue100 rfl ?_); intro b8 w hs
          refine .o (.stores (vs := y.c) hs rfl rfl Try.sizeOf100 ?_); intro w hs
          refine .nil ?_
          refine .seq (.draw mix rfl hs ?_); intro w hs
          refine .z 0 rfl zm ?_; refine .z 1 rfl (zfa fa_api_Limit_1) ?_; refine .y 2 rfl hs Try.isAgg3 ?_
          refine .ixX (enc := fun x => [I x]) (i := 3) hs rfl (by kernel_rfl) .none hx rfl rfl Try.runUnderlying22 Try.sizeOf3 (gi_get (l := x) (i := y.B.toNat) (by omega)) (by omega) ?_; intro b41 o41 hc41; replace hc41 := CellsAt.one hc41
          refine .r (i := 4) hs rfl (by kernel_rfl) .none (q_loadR rfl Try.isAgg3 hc41) ?_
          refine .z 5 rfl zm ?_; refine .z 6 rfl (zfa fa_api_Limit_0) ?_; refine .y 7 rfl hs Try.isAgg3 ?_
          refine .ixX (enc := fun x => [I x]) (i := 8) hs rfl (by kernel_rfl) .none hx rfl rfl Try.runUnderlying22 Try.sizeOf3 (gi_get (l := x) (i := y.A.toNat) (by omega)) (by omega) ?_; intro b46 o46 hc46; replace hc46 := CellsAt.one hc46
          refine .r (i := 9) hs rfl (by kernel_rfl) .none (q_loadR rfl Try.isAgg3 hc46) ?_
          refine .z 10 rfl zsub ?_; refine .z 11 rfl (zfa fa_api_Limit_2) ?_; refine .y 12 rfl hs Try.isAgg3 ?_; refine .z 13 rfl zgtr ?_; refine .done (by kernel_rfl) hs ?_
          refine (.condD rfl (fun hc51 => ?_) (fun hc51 => ?_))
          · refine .regSeq (.z zg (.nil ?_))
            refine .ret (rB (rT (rB (rT (Fin.ret1 Try.results134 rfl ?_)))))
            exact ⟨false, rfl, ⟨fun h => (by cases h), fun h => by
              have h8 := feas_iff.1 h.feas y (List.mem_of_getElem? hy)
              exfalso; omega⟩, hs.out⟩
          · refine .skip ?_
            refine nB (nT ?_)
            exact .mk ⟨rfl, fun i hi z hz => by
              by_cases e : i = k
              · subst e; rw [hy] at hz; cases hz; omega
              · exact h1 i (by omega) z hz, hs.out⟩
        · rintro fr w ⟨rfl, h1, hs⟩
          refine nT ?_
          refine .regSeq (.z zg (.nil ?_))
          refine .ret (Fin.ret1 Try.results134 rfl ?_)
          exact ⟨true, rfl, ⟨fun _ => ⟨by omega, by first | omega | (simp_all; done), fun v hv => h0 v (by omega), feas_iff.2 fun y hy => by
            obtain ⟨i, hi⟩ := List.getElem?_of_mem hy
            exact h1 i (List.getElem?_eq_some_iff.1 hi).1 y hi⟩, fun _ => rfl⟩, hs.out⟩
inductive CPtR (s : Syst) (x : List Int) : Int → Prop
  | bad (h : s.check ≠ 0) : CPtR s x s.check
  | off (h : s.Ok) (h1 : ¬ KeepsP s x) : CPtR s x 25
  | ok (h : s.Ok) (h1 : KeepsP s x) : CPtR s x 0
theorem CPtR.uniq {s : Syst} {x : List Int} {e f : Int} (h : CPtR s x e) (g : CPtR s x f) : e = f := by
  cases h with
  | bad h =>
    cases g with
    | bad => rfl
    | off g _ => exact (h (s.ok_iff.2 g)).elim
    | ok g _ => exact (h (s.ok_iff.2 g)).elim
  | off h h1 =>
    cases g with
    | bad g => exact (g (s.ok_iff.2 h)).elim
    | off => rfl
    | ok _ g1 => exact (h1 g1).elim
  | ok h h1 =>
    cases g with
    | bad g => exact (g (s.ok_iff.2 h)).elim
    | off _ g1 => exact (g1 h1).elim
    | ok => rfl
theorem ref02_CheckPoint_spec {H : Heap} {w : World} {σ : List Ent} {v vx : Value} {s : Syst} {x : List Int} (hs : St H w σ) (hr : RSy H v s) (hx : RI H vx x) :
    Cl Try.prog 49 [v, vx] w fun u w' => ∃ e, u = I e ∧ CPtR s x e ∧ St H w' σ := by
  obtain ⟨ul, rfl, hl⟩ := hr
  obtain ⟨al, cl, rfl⟩ := RL.shape hl
  obtain ⟨ax, cx, rfl⟩ := RI.shape hx
  refine Cl.of Try.func49 rfl Try.ntmps49 (by simp) (args_cons (k := 0) rfl (args_cons (k := 1) rfl (args0))) ?_
  refine .regSeq ?_
  refine .o (.box hs rfl rfl ?_); intro b2 w hs
  refine .z zg (.nil (.regSeq (.y hs (zls [_, _] Try.isAgg32 Try.sizeOf32) ?_)))
  refine .o (.call Try.call73 rfl (ref02_Check_spec (s := s) hs ⟨_, rfl, hl⟩) ?_); rintro _ w ⟨rfl, hs⟩
  refine .z zg (.nil (.seq (.regSeq (.z zm (.z zneq (.nil ?_))))))
  refine (.condN rfl (fun hc9 => ?_) (fun hc9 => ?_))
  · refine .regSeq (.z zm (.z zg (.nil ?_)))
    refine .ret (rT (Fin.ret1 Try.results49 rfl ?_))
    exact ⟨_, rfl, .bad hc9, hs.out⟩
  · refine .skip ?_
    refine nT ?_
    refine .seq (.regSeq (.y hs (zls [_, _] Try.isAgg32 Try.sizeOf32) (.z zm ?_)))
    have hok : s.Ok := s.ok_iff.1 (by simpa using hc9)
    refine .o (.call Try.call134 rfl (ref02_keeps_spec (s := s) hs ⟨_, rfl, hl⟩ hx hok) ?_); rintro _ w ⟨b, rfl, hb, hs⟩
    refine .z znot (.nil ?_)
    refine (.cond rfl (fun hc14 => ?_) (fun hc14 => ?_))
    · refine .regSeq (.z zg (.nil ?_))
      refine .ret (rT (Fin.ret1 Try.results49 rfl ?_))
      exact ⟨_, rfl, .off hok (fun h => by simp [hb.2 h] at hc14), hs.out⟩
    · refine .skip ?_
      refine nT ?_
      refine .regSeq (.z zg (.nil ?_))
      refine .ret (Fin.ret1 Try.results49 rfl ?_)
      exact ⟨_, rfl, .ok hok (hb.1 (by simpa using hc14)), hs.out⟩
end Go.Proofs.Ytiiokdeehlfeeaa

namespace Go.Proofs.Ytiiokdeehlfeeaa
open Go.MW
set_option maxHeartbeats 4000000 in
theorem ref02_Point_spec {H : Heap} {w : World} {σ : List Ent} {v vp : Value} {s : Syst} {picks : List Int} (hs : St H w σ) (hr : RSy H v s) (hp : RI H vp picks) :
    Cl Try.prog 80 [v, vp] w fun u w' => ∃ H1 vx x e, HLe H H1 ∧ u = .tuple #[vx, I e] ∧ RI H1 vx x ∧ PointR s picks x e ∧ St H1 w' σ := by
  obtain ⟨ul, rfl, hl⟩ := hr
  obtain ⟨al, cl, rfl⟩ := RL.shape hl
  obtain ⟨ap, cp, rfl⟩ := RI.shape hp
  refine Cl.of Try.func80 rfl Try.ntmps80 (by simp) (args_cons (k := 0) rfl (args_cons (k := 1) rfl (args0))) ?_
  refine .regSeq ?_
  refine .o (.box hs rfl rfl ?_); intro b2 w hs
  refine .z zg (.z zg (.nil (.regSeq (.y hs (zls [_, _] Try.isAgg32 Try.sizeOf32) ?_))))
  refine .o (.call Try.call79 rfl (ref02_Close_spec (s := s) hs ⟨_, rfl, hl⟩) ?_); rintro _ w ⟨H1, vt, e, hle1, rfl, hcase, hs⟩
  refine .z zm (.z zex (.z zex (.z zg (.z zg (.nil (.seq (.regSeq (.z zm (.z zneq ?_)))))))))
  refine .nil ?_
  refine (.condN rfl (fun hc20 => ?_) (fun hc20 => ?_))
  · refine .regSeq (.z zm (.z zg (.z zg (.nil ?_))))
    refine .ret (rT (Fin.ret2 Try.results80 rfl rfl ?_))
    rcases hcase with ⟨h1, rfl, rfl⟩ | ⟨h1, h2, rfl, rfl⟩ | ⟨_, _, rfl, _⟩
    · exact ⟨H1, _, [], _, hle1, rfl, RS.nil H1 1 none 0, .bad h1, hs.out⟩
    · exact ⟨H1, _, [], _, hle1, rfl, RS.nil H1 1 none 0, .clash h1 h2, hs.out⟩
    · exact (hc20 rfl).elim
  · refine .skip ?_
    refine nT ?_
    refine .regSeq ?_
    subst hc20
    obtain ⟨hok, hsd, rs, hRT, hSq, hWT⟩ : s.Ok ∧ s.Sound ∧ ∃ rs, RT H1 vt rs ∧ Sq s.n rs ∧ WaysT s.n s.arcs (gt rs) := by
      rcases hcase with ⟨h1, h2, _⟩ | ⟨_, _, h2, _⟩ | ⟨h1, h2, _, h3⟩
      · exact (h1 h2.symm).elim
      · omega
      · exact ⟨h1, h2, h3⟩
    obtain ⟨at', ct, rfl⟩ := hRT.shape
    have hTS := hok.tabS hsd hWT
    have hrl := hSq.1
    have hm0 := hok.m0
    have hm1 := hok.m1
    have hnn : (s.n : Int) = s.many + 1 := by simp only [Syst.n]; omega
    refine .o (.buildSlice (cells := [_]) hs bls_sl_int_1 rfl rfl ?_); intro b22 w hs
    refine .z zg (.nil (.seq (.regSeq (.z zg (.nil (.block ?_))))))
    refine .loop (fun p : List Int × Value => ⟨109, [], [(9, I (p.1.length : Int)), (8, p.2), (6, .slice at' rs.length ct), (2, .pointer (some ⟨b2, 0, none⟩)), (1, .slice ap picks.length cp)]⟩)
      (fun p w => PtsR (gt rs) (pickI picks) p.1 ∧ p.1.length ≤ s.n ∧ ∃ en, OwnS 1 p.2 (Is p.1) en ∧ St H1 w (en :: .blk b2 [I s.many, .slice al s.lims.length cl] :: σ))
      (fun p => s.n - p.1.length) ([0], .slice (some ⟨b22, 0, none⟩) 1 1) (by repeat (first | exact .nil rfl rfl | refine .cons rfl ?_))
      ⟨.start, s.n_pos, _, .full (len := 1) rfl, hs⟩ ?_
    rintro ⟨X, v8⟩ w ⟨hP, hXn, en, hO, hs⟩
    dsimp only at hP hXn hO ⊢
    have hI := hP.inv (fun i n hn => pickI_bd picks i hn) hTS hXn
    have hX0 := hI.l0
    have hO1 := hO
    obtain ⟨b, cap, sp, rfl, rfl, hcap⟩ := hO.some hX0
    refine .seq (.regSeq (.z zm (.z (zfa fa_api_System_0) (.y hs (zld Try.isAgg3) (.z zleq (.nil ?_))))))
    refine (.condD rfl (fun hc26 => ?_) (fun hc26 => ?_))
    · refine .skip ?_
      refine nT ?_
      refine .seq (.block (.regSeq (.z zg (.nil ?_))))
      have hXl : X.length < s.n := by omega
      refine .regSeq (.z zg (.nil (.seq (.regSeq (.z zm (.z (zlen Try.runUnderlying22) (.z zm (.nil ?_))))))))
      refine .for (N := X.length) (J := fun k fr w => ∃ lo hi, fr = [(10, I lo), (11, I hi), (9, I (X.length : Int)), (8, .slice (some ⟨b, 0, none⟩) X.length cap), (6, .slice at' rs.length ct), (2, .pointer (some ⟨b2, 0, none⟩)), (1, .slice ap picks.length cp)] ∧   LoI (gt rs) X X.length k lo ∧ HiI (gt rs) X X.length k hi ∧ St H1 w (.blk b (Is X ++ sp) :: .blk b2 [I s.many, .slice al s.lims.length cl] :: σ)) (by omega) ?_ ?_ ?_
      · exact .mk ⟨_, _, rfl, .start _ _ _, .start _ _ _, hs⟩
      · rintro k fr w hk ⟨lo, hi, rfl, hLo, hHi, hs⟩
        have hXk := hI.bd k hk
        have hr1 : (gr rs X.length).length = s.n := hSq.2 _ hXl
        have hr2 : (gr rs k).length = s.n := hSq.2 _ (by omega)
        have hb1 : gi (gr rs X.length) k ≠ 1000000000 → -1400000 ≤ gi (gr rs X.length) k ∧ gi (gr rs X.length) k ≤ 1400000 := fun h => hTS.bd X.length k hXl (by omega) h
        have hb2 : gi (gr rs k) X.length ≠ 1000000000 → -1400000 ≤ gi (gr rs k) X.length ∧ gi (gr rs k) X.length ≤ 1400000 := fun h => hTS.bd k X.length (by omega) hXl h
        refine .block (.regSeq (.z zm (.z zg (.nil ?_))))
        refine .cut (fun fs w => ∃ lo', FSub fs ⟨109, [], [(10, I lo'), (12, I (k : Int)), (31, I (k : Int)), (30, I (X.length : Int)), (11, I hi), (9, I (X.length : Int)), (8, .slice (some ⟨b, 0, none⟩) X.length cap), (6, .slice at' rs.length ct), (2, .pointer (some ⟨b2, 0, none⟩)), (1, .slice ap picks.length cp)]⟩ ∧ LoI (gt rs) X X.length (k + 1) lo' ∧ St H1 w (.blk b (Is X ++ sp) :: .blk b2 [I s.many, .slice al s.lims.length cl] :: σ)) ?_ ?_
        · refine .regSeq (.z zm (.z zm ?_))
          refine .ixT hs hRT rfl rfl Try.runUnderlying87 Try.sizeOf22 (show X.length < rs.length by omega) rfl ?_; intro b36 o36 a36 c36 hc36 hR36
          refine .q hs (q_loadR rfl Try.isAgg22 hc36) ?_
          refine .z zm ?_
          refine .ixY hs hR36 rfl rfl Try.runUnderlying22 Try.sizeOf3 (gi_get (l := gr rs X.length) (i := k) (by omega)) rfl ?_; intro b39 o39 hc39
          refine .q hs (q_loadR rfl Try.isAgg3 hc39) ?_
          refine .z zneq (.nil ?_)
          refine (.condN rfl (fun hc41 => ?_) (fun hc41 => ?_))
          · refine .draw mix rfl hs ?_; intro w hs
            refine .z 0 rfl zm ?_; refine .z 1 rfl zm ?_; refine .z 2 rfl zm ?_; refine .z 3 rfl (zix Try.runUnderlying22 Try.sizeOf3) ?_
            refine .load (i := 4) hs rfl (by kernel_rfl) .none rfl Try.isAgg3 ?_ (hv := Is_gi_sp hk sp)
            refine .z 5 rfl zm ?_; refine .z 6 rfl zm ?_
            refine .ixT (i := 7) hs rfl (by kernel_rfl) .none hRT rfl rfl Try.runUnderlying87 Try.sizeOf22 (show X.length < rs.length by omega) rfl ?_; intro b49 o49 a49 c49 hc49 hR49
            refine .r (i := 8) hs rfl (by kernel_rfl) .none (q_loadR rfl Try.isAgg22 hc49) ?_
            refine .z 9 rfl zm ?_
            refine .ixX (enc := fun x => [I x]) (i := 10) hs rfl (by kernel_rfl) .none hR49 rfl rfl Try.runUnderlying22 Try.sizeOf3 (gi_get (l := gr rs X.length) (i := k) (by omega)) rfl ?_; intro b52 o52 hc52; replace hc52 := CellsAt.one hc52
            refine .r (i := 11) hs rfl (by kernel_rfl) .none (q_loadR rfl Try.isAgg3 hc52) ?_
            refine .z 12 rfl zsub ?_; refine .z 13 rfl zmax ?_; refine .z 14 rfl zg ?_; refine .done (by kernel_rfl) hs ?_
            refine nT ?_
            exact ⟨_, by repeat (first | exact .nil rfl rfl | refine .cons rfl ?_), hLo.put hc41 (by have := hb1 hc41; have := hXk; have := hTS.n65; show -1000000000 ≤ gi X k - gi (gr rs X.length) k; omega), hs⟩
          · refine .skip ?_
            refine nT ?_
            exact ⟨_, by repeat (first | exact .nil rfl rfl | refine .cons rfl ?_), hLo.skip hc41, hs⟩
        · rintro fs w ⟨lo', hfs, hLo', hs⟩
          refine WE.sub ?_ hfs
          refine .regSeq (.z zm (.z zm ?_))
          refine .ixT hs hRT rfl rfl Try.runUnderlying87 Try.sizeOf22 (show k < rs.length by omega) rfl ?_; intro b58 o58 a58 c58 hc58 hR58
          refine .q hs (q_loadR rfl Try.isAgg22 hc58) ?_
          refine .z zm ?_
          refine .ixY hs hR58 rfl rfl Try.runUnderlying22 Try.sizeOf3 (gi_get (l := gr rs k) (i := X.length) (by omega)) rfl ?_; intro b61 o61 hc61
          refine .q hs (q_loadR rfl Try.isAgg3 hc61) ?_
          refine .z zneq (.nil ?_)
          refine (.condN rfl (fun hc63 => ?_) (fun hc63 => ?_))
          · refine .draw mix rfl hs ?_; intro w hs
            refine .z 0 rfl zm ?_; refine .z 1 rfl zm ?_; refine .z 2 rfl zm ?_; refine .z 3 rfl (zix Try.runUnderlying22 Try.sizeOf3) ?_
            refine .load (i := 4) hs rfl (by kernel_rfl) .none rfl Try.isAgg3 ?_ (hv := Is_gi_sp hk sp)
            refine .z 5 rfl zm ?_; refine .z 6 rfl zm ?_
            refine .ixT (i := 7) hs rfl (by kernel_rfl) .none hRT rfl rfl Try.runUnderlying87 Try.sizeOf22 (show k < rs.length by omega) rfl ?_; intro b71 o71 a71 c71 hc71 hR71
            refine .r (i := 8) hs rfl (by kernel_rfl) .none (q_loadR rfl Try.isAgg22 hc71) ?_
            refine .z 9 rfl zm ?_
            refine .ixX (enc := fun x => [I x]) (i := 10) hs rfl (by kernel_rfl) .none hR71 rfl rfl Try.runUnderlying22 Try.sizeOf3 (gi_get (l := gr rs k) (i := X.length) (by omega)) rfl ?_; intro b74 o74 hc74; replace hc74 := CellsAt.one hc74
            refine .r (i := 11) hs rfl (by kernel_rfl) .none (q_loadR rfl Try.isAgg3 hc74) ?_
            refine .z 12 rfl zadd ?_; refine .z 13 rfl zmin ?_; refine .z 14 rfl zg ?_; refine .done (by kernel_rfl) hs ?_
            refine nB (nT ?_)
            exact .mk ⟨lo', _, rfl, hLo', hHi.put hc63 (by have := hb2 hc63; have := hXk; have := hTS.n65; show gi X k + gi (gr rs k) X.length ≤ 1000000000; omega), hs⟩
          · refine .skip ?_
            refine nB (nT ?_)
            exact .mk ⟨lo', _, rfl, hLo', hHi.skip hc63, hs⟩
      · rintro fr w ⟨lo, hi, rfl, hLo, hHi, hs⟩
        have hlb := hLo.bd hI hTS hXl (Nat.le_refl _)
        have hhb := hHi.bd hI hTS hXl (Nat.le_refl _)
        have hle := hI.le hTS hXl rfl hLo hHi
        simp only [free] at hlb hhb hle
        have hpk := pickI_bd picks ((X.length : Int) - 1) (n := hi - lo + 1)
        refine nT ?_
        refine .regSeq (.z zg (.nil ?_))
        refine .cut (fun fs w => FSub fs ⟨109, [], [(13, I (chooseI lo hi (pickI picks ((X.length : Int) - 1) (hi - lo + 1)))), (9, I (X.length : Int)), (8, .slice (some ⟨b, 0, none⟩) X.length cap), (6, .slice at' rs.length ct), (2, .pointer (some ⟨b2, 0, none⟩)), (1, .slice ap picks.length cp)]⟩ ∧ St H1 w (.blk b (Is X ++ sp) :: .blk b2 [I s.many, .slice al s.lims.length cl] :: σ)) ?_ ?_
        · refine .block (.regSeq (.z zm (.z zneq (.z zm ?_))))
          refine .bifN (t' := 82) rfl (fun hb82 => ?_) (fun hb82 => ?_)
          · refine .gT rfl rfl ?_
            refine .z zm ?_
            refine .gT rfl rfl ?_
            refine .z zneq (.z zpT (.z zg (.nil ?_)))
            refine (.condN rfl (fun hc79 => ?_) (fun hc79 => ?_))
            · refine .region (.z zm (.z zm (.z zm (.z zsub (.z zm (.z zm (.z zsub (.z zadd ?_))))))))
              refine .o (.call Try.call25 rfl (ref02_Pick_spec hs (hp.mono hle1) (by omega) (by omega)) ?_); rintro _ w ⟨rfl, hs⟩
              have hq1 : hi ≠ 1000000000 := by simpa using hc79
              have hq2 := hle (by simpa using hb82) hq1
              have hq3 := hpk (by omega)
              refine .z zadd (.z zg (.nil ?_))
              refine nB (nT ?_)
              refine ⟨.consI rfl ?_ (by repeat (first | exact .nil rfl rfl | refine .cons rfl ?_)), hs⟩
              unfold chooseI
              simp only [free] at *
              split <;> (try split) <;> first | rfl | omega | (simp_all; done) | (exfalso; simp_all; omega)
            · refine .regSeq (.z zm (.z zneq (.z zg (.nil ?_))))
              refine (.condN rfl (fun hc96 => ?_) (fun hc96 => ?_))
              · refine .region (.z zm (.z zg (.nil ?_)))
                refine nB (nT ?_)
                refine ⟨.consI rfl ?_ (by repeat (first | exact .nil rfl rfl | refine .cons rfl ?_)), hs⟩
                unfold chooseI
                simp only [free] at *
                split <;> (try split) <;> first | rfl | omega | (simp_all; done) | (exfalso; simp_all; omega)
              · refine .regSeq (.z zm (.z zneq (.z zg (.nil ?_))))
                refine (.condN rfl (fun hc100 => ?_) (fun hc100 => ?_))
                · refine .region (.z zm (.z zg (.nil ?_)))
                  refine nB (nT ?_)
                  refine ⟨.consI rfl ?_ (by repeat (first | exact .nil rfl rfl | refine .cons rfl ?_)), hs⟩
                  unfold chooseI
                  simp only [free] at *
                  split <;> (try split) <;> first | rfl | omega | (simp_all; done) | (exfalso; simp_all; omega)
                · refine .skip ?_
                  refine nB (nT ?_)
                  refine ⟨.consI rfl ?_ (by repeat (first | exact .nil rfl rfl | refine .cons rfl ?_)), hs⟩
                  unfold chooseI
                  simp only [free] at *
                  split <;> (try split) <;> first | rfl | omega | (simp_all; done) | (exfalso; simp_all; omega)
          · refine .gFs 2 2 true rfl rfl rfl ?_
            refine .z zpF (.z zg (.nil ?_))
            refine (.condF rfl rfl ?_)
            refine .regSeq (.z zm (.z zneq (.z zg (.nil ?_))))
            refine (.condN rfl (fun hc96 => ?_) (fun hc96 => ?_))
            · refine .region (.z zm (.z zg (.nil ?_)))
              refine nB (nT ?_)
              refine ⟨.consI rfl ?_ (by repeat (first | exact .nil rfl rfl | refine .cons rfl ?_)), hs⟩
              unfold chooseI
              simp only [free] at *
              split <;> (try split) <;> first | rfl | omega | (simp_all; done) | (exfalso; simp_all; omega)
            · refine .regSeq (.z zm (.z zneq (.z zg (.nil ?_))))
              refine (.condN rfl (fun hc100 => ?_) (fun hc100 => ?_))
              · refine .region (.z zm (.z zg (.nil ?_)))
                refine nB (nT ?_)
                refine ⟨.consI rfl ?_ (by repeat (first | exact .nil rfl rfl | refine .cons rfl ?_)), hs⟩
                unfold chooseI
                simp only [free] at *
                split <;> (try split) <;> first | rfl | omega | (simp_all; done) | (exfalso; simp_all; omega)
              · refine .skip ?_
                refine nB (nT ?_)
                refine ⟨.consI rfl ?_ (by repeat (first | exact .nil rfl rfl | refine .cons rfl ?_)), hs⟩
                unfold chooseI
                simp only [free] at *
                split <;> (try split) <;> first | rfl | omega | (simp_all; done) | (exfalso; simp_all; omega)
        · rintro fs w ⟨hfs, hs⟩
          refine WE.sub ?_ hfs
          refine .region (.z zm (.z zm ?_))
          refine .o (.buildSlice (cells := [_]) hs bls_sl_int_1 rfl rfl ?_); intro b106 w hs
          refine .o (.append (ys := Is [chooseI lo hi (pickI picks ((X.length : Int) - 1) (hi - lo + 1))]) hs app_sl_int_int rfl rfl hO1 (.own .here rfl rfl) (Is_cell _) (fun l' h => by simp at h; have := hTS.n65; omega) ?_); intro v107 en107 w hO2 hs
          rw [← List.map_append] at hO2
          refine .z zg (.nil ?_)
          refine nB (nT ?_)
          refine .region (.z zm (.z zadd (.z zg (.nil ?_))))
          refine nT ?_
          exact ⟨(X ++ [chooseI lo hi (pickI picks ((X.length : Int) - 1) (hi - lo + 1))], v107), .consI rfl (by simp) (by repeat (first | exact .nil rfl rfl | refine .cons rfl ?_)), ⟨hP.snoc hLo hHi, by simp; omega, _, hO2, hs.sub (by repeat (first | exact Sub.refl _ | constructor | apply Sub.weaken))⟩, by simp; omega⟩
    · refine .exit ?_
      refine xT (xT (xB (nT ?_)))
      refine .regSeq (.z zm (.z zg (.z zg (.nil ?_))))
      refine .ret (Fin.ret2 Try.results80 rfl rfl ?_)
      obtain ⟨H2, hle2, hRX, hs⟩ := OwnS.publishI hO1 (by have := hTS.n65; omega) hs .here
      exact ⟨H2, _, X, 0, hle1.trans hle2, rfl, hRX, .ok hok hsd ⟨gt rs, hWT, hP, by omega⟩, hs.out⟩
end Go.Proofs.Ytiiokdeehlfeeaa

namespace Go.Proofs.Ytiiokdeehlfeeaa
open Go.MW
def ValR (a : Quest) (p : Prb) (lo hi e : Int) : Prop := (CPrbR a [p] e ∧ e ≠ 0 ∧ lo = 0 ∧ hi = 0) ∨ (CPrbR a [p] 0 ∧ e = 0 ∧ ∃ l h, RangeR a.sys (oneW a.sys.many p.u) l h 0 ∧ lo = l - p.t ∧ hi = h + p.t)
theorem ValR.uniq {a : Quest} {p : Prb} {lo hi e lo' hi' e' : Int} (h : ValR a p lo hi e) (g : ValR a p lo' hi' e') : lo = lo' ∧ hi = hi' ∧ e = e' := by
  rcases h with ⟨h1, h2, h3, h4⟩ | ⟨h1, h2, l, u, h3, h4, h5⟩
  · rcases g with ⟨g1, g2, g3, g4⟩ | ⟨g1, g2, _⟩
    · exact ⟨by omega, by omega, h1.uniq g1⟩
    · exact (h2 (h1.uniq g1)).elim
  · rcases g with ⟨g1, g2, g3, g4⟩ | ⟨g1, g2, l', u', g3, g4, g5⟩
    · exact (g2 (g1.uniq h1)).elim
    · obtain ⟨rfl, rfl, _⟩ := h3.uniq g3
      exact ⟨by omega, by omega, by omega⟩
end Go.Proofs.Ytiiokdeehlfeeaa

namespace Go.Proofs.Ytiiokdeehlfeeaa
open Go.MW
theorem IndexFunc_int {H : Heap} {w : World} {σ : List Ent} {v : Value} {ls : List Int} {g : Nat} {cap : List Value} {q : Int → Prop} (hs : St H w σ) (hr : RI H v ls)
    (hc : ∀ args w, (callFunc g args).run Try.prog w = .ok (.enter g args) w) (hp : ∀ w l, St H w σ → Cl Try.prog g ([I l] ++ cap) w fun u w' => ∃ b, u = .bool b ∧ (b = true ↔ q l) ∧ St H w' σ) :
    Cl Try.prog 197 [v, .func (.func g) #[] cap.toArray] w fun u w' => ∃ i, u = I i ∧ (0 ≤ i ↔ ∃ p ∈ ls, q p) ∧ St H w' σ := by
  obtain ⟨a, c, rfl⟩ := RI.shape hr
  have hl := (RI.len hr).2.2
  refine Cl.of Try.func197 rfl Try.ntmps197 (by simp) (args_cons (k := 0) rfl (args_cons (k := 1) rfl (args0))) ?_
  refine .regSeq (.z zg (.nil (.seq (.regSeq (.z zm (.z (zlen Try.runUnderlying22) (.z zm (.nil ?_))))))))
  refine .for (N := ls.length) (J := fun k fr w => fr = [(1, .func (.func g) #[] cap.toArray), (0, .slice a ls.length c)] ∧ St H w σ ∧ ∀ j < k, ∀ l, ls[j]? = some l → ¬ q l) (by omega) ?_ ?_ ?_
  · exact .mk ⟨rfl, hs, fun j hj => by omega⟩
  · rintro k fr w hk ⟨rfl, hs, hno⟩
    obtain ⟨l, hl⟩ := nth hk
    refine .block (.regSeq (.z zm (.z zg (.nil (.regSeq (.z zm (.z zm (.z zm ?_))))))))
    first | (refine .ixv hs Try.runUnderlying22 Try.sizeOf3 ?_; intro b14 o14 hc14) | refine .z (zix Try.runUnderlying22 Try.sizeOf3) ?_
    refine .y hs (zld Try.isAgg3) ?_
    refine .o (.callG (first := []) rfl rfl hc (hp _ _ hs) ?_); rintro _ w ⟨b16, rfl, hb16, hs⟩
    refine .nil ?_
    refine (.cond rfl (fun hc16 => ?_) (fun hc16 => ?_))
    · refine .regSeq (.z zm (.z zg (.nil ?_)))
      refine .ret (rB (rT (rB (rT (Fin.ret1 Try.results197 rfl ?_)))))
      exact ⟨_, rfl, ⟨fun _ => ⟨l, List.mem_of_getElem? hl, hb16.1 hc16⟩, fun _ => by omega⟩, hs⟩
    · refine .skip ?_
      refine nB (nT ?_)
      exact .mk ⟨rfl, hs, upto_succ hno hl (fun h => by rw [hb16.2 h] at hc16; cases hc16)⟩
  · rintro fr w ⟨rfl, hs, hno⟩
    refine nT ?_
    refine .regSeq (.z zg (.nil ?_))
    refine .ret (Fin.ret1 Try.results197 rfl ?_)
    exact ⟨_, rfl, ⟨fun h => by omega, fun ⟨p, h1, h2⟩ => by
      obtain ⟨j, hj⟩ := List.getElem?_of_mem h1
      exact (hno j (List.getElem?_eq_some_iff.1 hj).1 p hj h2).elim⟩, hs⟩
theorem ContainsFunc_int {H : Heap} {w : World} {σ : List Ent} {v : Value} {ls : List Int} {g : Nat} {cap : List Value} {q : Int → Prop} (hs : St H w σ) (hr : RI H v ls)
    (hc : ∀ args w, (callFunc g args).run Try.prog w = .ok (.enter g args) w) (hp : ∀ w l, St H w σ → Cl Try.prog g ([I l] ++ cap) w fun u w' => ∃ b, u = .bool b ∧ (b = true ↔ q l) ∧ St H w' σ) :
    Cl Try.prog 156 [v, .func (.func g) #[] cap.toArray] w fun u w' => ∃ b, u = .bool b ∧ (b = true ↔ ∃ p ∈ ls, q p) ∧ St H w' σ := by
  refine Cl.of Try.func156 rfl Try.ntmps156 (by simp) (args_cons (k := 0) rfl (args_cons (k := 1) rfl (args0))) ?_
  refine .regSeq (.z zg (.nil (.regSeq (.z zm (.z zm ?_)))))
  refine .o (.call Try.call197 rfl (IndexFunc_int hs hr hc hp) ?_); rintro _ w ⟨i, rfl, hi, hs⟩
  refine .z zgeq (.z zg (.nil ?_))
  refine .ret (Fin.ret1 Try.results156 rfl ?_)
  exact ⟨_, rfl, by simp only [decide_eq_true_eq]; exact hi, hs⟩
theorem bound_CheckPoint_1 {H : Heap} {w : World} {σ : List Ent} {n : Int} (hs : St H w σ) : Cl Try.prog 172 [I n] w fun v w' => ∃ b, v = .bool b ∧ (b = true ↔ ¬ (-1000000000 ≤ n ∧ n ≤ 1000000000)) ∧ St H w' σ := by
  refine Cl.of Try.func172 rfl Try.ntmps172 (by simp) (args_cons (k := 0) rfl (args0)) ?_
  refine .regSeq (.z zg (.nil (.regSeq (.z zm ?_))))
  refine .o (.call Try.call160 rfl (bound_within_spec hs) ?_); rintro _ w ⟨rfl, hs⟩
  refine .z znot (.z zg (.nil ?_))
  refine .ret (Fin.ret1 Try.results172 rfl ?_)
  exact ⟨_, rfl, by simp; omega, hs⟩
theorem bound_CheckPoint_spec {H : Heap} {w : World} {σ : List Ent} {v vx : Value} {s : Syst} {x : List Int} (hs : St H w σ) (hr : RSy H v s) (hx : RI H vx x) :
    Cl Try.prog 85 [v, vx] w fun u w' => ∃ e, u = I e ∧ CPtR s x e ∧ St H w' σ := by
  obtain ⟨ul, rfl, hl⟩ := hr
  obtain ⟨al, cl, rfl⟩ := RL.shape hl
  obtain ⟨ax, cx, rfl⟩ := RI.shape hx
  refine Cl.of Try.func85 rfl Try.ntmps85 (by simp) (args_cons (k := 0) rfl (args_cons (k := 1) rfl (args0))) ?_
  refine .regSeq ?_
  refine .o (.box hs rfl rfl ?_); intro b2 w hs
  refine .z zg (.nil (.seq (.regSeq (.y hs (zls [_, _] Try.isAgg32 Try.sizeOf32) ?_))))
  refine .o (.call Try.call72 rfl (bound_Check_spec (s := s) hs ⟨_, rfl, hl⟩) ?_); rintro _ w ⟨rfl, hs⟩
  refine .z zg (.nil (.regSeq (.z zm (.z zneq (.nil ?_)))))
  skip
  refine (.condN rfl (fun hc11 => ?_) (fun hc11 => ?_))
  · refine .regSeq (.z zm (.z zg (.nil ?_)))
    refine .ret (rT (Fin.ret1 Try.results85 rfl ?_))
    exact ⟨_, rfl, .bad hc11, hs.out⟩
  · refine .skip ?_
    refine nT ?_
    refine .seq (.regSeq ?_)
    have hok : s.Ok := s.ok_iff.1 (by simpa using hc11)
    have hm0 := hok.m0
    have hm1 := hok.m1
    have hll := hok.len
    have hnn : (s.n : Int) = s.many + 1 := by simp only [Syst.n]; omega
    refine .z zm (.z (zlen Try.runUnderlying22) (.z (zfa fa_api_System_0) (.y hs (zld Try.isAgg3) (.z zadd (.z zneq (.z zm ?_))))))
    refine .bifN (t' := 19) rfl (fun hb19 => ?_) (fun hb19 => ?_)
    · refine .gFs 4 6 false rfl rfl rfl ?_
      refine .z zpT (.z zm ?_)
      refine .gFs 2 12 false rfl rfl rfl ?_
      refine .z zpT (.nil ?_)
      refine (.condT rfl rfl ?_)
      refine .regSeq (.z zg (.nil ?_))
      refine .ret (rT (Fin.ret1 Try.results85 rfl ?_))
      first
        | exact ⟨_, rfl, .ok hok ⟨by omega, by first | omega | (simpa using hb25), fun v hv => hfree v (by omega), feas_iff.2 fun y hy => by
            obtain ⟨i, hi⟩ := List.getElem?_of_mem hy
            exact h1 i (List.getElem?_eq_some_iff.1 hi).1 y hi⟩, hs.out⟩
        | exact ⟨_, rfl, .off hok (fun h => by have := h.len; omega), hs.out⟩
        | exact ⟨_, rfl, .off hok (fun h => by have := h.zero; first | omega | (simp at hb25; omega)), hs.out⟩
        | exact ⟨_, rfl, .off hok (fun h => by
            obtain ⟨p, h1, h2⟩ := hb27.1 hc28
            obtain ⟨i, hi⟩ := List.getElem?_of_mem h1
            have hil := (List.getElem?_eq_some_iff.1 hi).1
            have := gi_get hil
            rw [hi] at this
            cases this
            exact h2 (h.free i (by have := h.len; omega))), hs.out⟩
        | exact ⟨_, rfl, .off hok (fun h => by
            have h8 := feas_iff.1 h.feas y (List.mem_of_getElem? hy)
            omega), hs.out⟩
    · refine .gT rfl rfl ?_
      refine .z zm ?_
      refine .gT rfl rfl ?_
      refine .ixX (enc := fun x => [I x]) hs hx rfl rfl Try.runUnderlying22 Try.sizeOf3 (gi_get (l := x) (i := 0) (by omega)) rfl ?_; intro b21 o21 hc21; replace hc21 := CellsAt.one hc21
      refine .gT rfl rfl ?_
      refine .y hs (zld Try.isAgg3) ?_
      refine .gT rfl rfl ?_
      refine .z zneq (.z zpF (.z zm ?_))
      refine .bifN (t' := 25) rfl (fun hb25 => ?_) (fun hb25 => ?_)
      · refine .gFs 2 12 false rfl rfl rfl ?_
        refine .z zpT (.nil ?_)
        refine (.condT rfl rfl ?_)
        refine .regSeq (.z zg (.nil ?_))
        refine .ret (rT (Fin.ret1 Try.results85 rfl ?_))
        first
          | exact ⟨_, rfl, .ok hok ⟨by omega, by first | omega | (simpa using hb25), fun v hv => hfree v (by omega), feas_iff.2 fun y hy => by
              obtain ⟨i, hi⟩ := List.getElem?_of_mem hy
              exact h1 i (List.getElem?_eq_some_iff.1 hi).1 y hi⟩, hs.out⟩
          | exact ⟨_, rfl, .off hok (fun h => by have := h.len; omega), hs.out⟩
          | exact ⟨_, rfl, .off hok (fun h => by have := h.zero; first | omega | (simp at hb25; omega)), hs.out⟩
          | exact ⟨_, rfl, .off hok (fun h => by
              obtain ⟨p, h1, h2⟩ := hb27.1 hc28
              obtain ⟨i, hi⟩ := List.getElem?_of_mem h1
              have hil := (List.getElem?_eq_some_iff.1 hi).1
              have := gi_get hil
              rw [hi] at this
              cases this
              exact h2 (h.free i (by have := h.len; omega))), hs.out⟩
          | exact ⟨_, rfl, .off hok (fun h => by
              have h8 := feas_iff.1 h.feas y (List.mem_of_getElem? hy)
              omega), hs.out⟩
      · refine .gT rfl rfl ?_
        refine .z zm ?_
        refine .gT rfl rfl ?_
        refine .o (.call Try.call156 rfl (ContainsFunc_int (q := fun n => ¬ (-1000000000 ≤ n ∧ n ≤ 1000000000)) (cap := []) hs hx Try.call172 (fun w n hs => bound_CheckPoint_1 hs)) ?_); rintro _ w ⟨b27, rfl, hb27, hs⟩
        refine .z zpF (.nil ?_)
        refine (.cond rfl (fun hc28 => ?_) (fun hc28 => ?_))
        · refine .regSeq (.z zg (.nil ?_))
          refine .ret (rT (Fin.ret1 Try.results85 rfl ?_))
          first
            | exact ⟨_, rfl, .ok hok ⟨by omega, by first | omega | (simpa using hb25), fun v hv => hfree v (by omega), feas_iff.2 fun y hy => by
                obtain ⟨i, hi⟩ := List.getElem?_of_mem hy
                exact h1 i (List.getElem?_eq_some_iff.1 hi).1 y hi⟩, hs.out⟩
            | exact ⟨_, rfl, .off hok (fun h => by have := h.len; omega), hs.out⟩
            | exact ⟨_, rfl, .off hok (fun h => by have := h.zero; first | omega | (simp at hb25; omega)), hs.out⟩
            | exact ⟨_, rfl, .off hok (fun h => by
                obtain ⟨p, h1, h2⟩ := hb27.1 hc28
                obtain ⟨i, hi⟩ := List.getElem?_of_mem h1
                have hil := (List.getElem?_eq_some_iff.1 hi).1
                have := gi_get hil
                rw [hi] at this
                cases this
                exact h2 (h.free i (by have := h.len; omega))), hs.out⟩
            | exact ⟨_, rfl, .off hok (fun h => by
                have h8 := feas_iff.1 h.feas y (List.mem_of_getElem? hy)
                omega), hs.out⟩
        · refine .skip ?_
          refine nT ?_
          refine .seq (.regSeq (.z (zfa fa_api_System_1) (.y hs (zld Try.isAgg30) (.z (zlen Try.runUnderlying30) (.z zm (.nil ?_))))))
          refine .for (N := s.lims.length) (J := fun k fr w => fr = [(30, .slice al s.lims.length cl), (1, .slice ax x.length cx)] ∧ (∀ i < k, ∀ y, s.lims[i]? = some y → gi x y.B.toNat ≤ gi x y.A.toNat + y.M) ∧ St H w (.blk b2 [I s.many, .slice al s.lims.length cl] :: σ)) (by omega) ?_ ?_ ?_
          · exact .mk ⟨rfl, fun i hi => by omega, hs⟩
          · have hfree : ∀ v < x.length, -1000000000 ≤ gi x v ∧ gi x v ≤ 1000000000 := fun v hv => by
              apply Classical.byContradiction
              intro h
              have := hb27.2 ⟨gi x v, List.mem_of_getElem? (gi_get hv), h⟩
              subst this
              simp at hc28
            rintro k fr w hk ⟨rfl, h1, hs⟩
            obtain ⟨y, hy⟩ := nth hk
            obtain ⟨⟨y1, y2⟩, ⟨y3, y4⟩, y5, y6, -⟩ := hok.lim y (List.mem_of_getElem? hy)
            have z1 := hfree y.B.toNat (by omega)
            have z2 := hfree y.A.toNat (by omega)
            refine .block (.regSeq ?_)
            refine .ixX (enc := Lim.c) hs hl rfl rfl Try.runUnderlying30 Try.sizeOf100 hy rfl ?_; intro b34 o34 hc34
            refine .q hs (q_loadsR (vs := y.c) rfl Try.isAgg100 Try.sizeOf100 hc34) ?_
            refine .o (.alloc hs Try.zeroValue100 rfl ?_); intro b7 w hs
            refine .o (.stores (vs := y.c) hs rfl rfl Try.sizeOf100 ?_); intro w hs
            refine .nil ?_
            refine .seq (.draw mix rfl hs ?_); intro w hs
            refine .z 0 rfl zm ?_; refine .z 1 rfl (zfa fa_api_Limit_1) ?_; refine .y 2 rfl hs Try.isAgg3 ?_
            refine .ixX (enc := fun x => [I x]) (i := 3) hs rfl (by kernel_rfl) .none hx rfl rfl Try.runUnderlying22 Try.sizeOf3 (gi_get (l := x) (i := y.B.toNat) (by omega)) (by omega) ?_; intro b39 o39 hc39; replace hc39 := CellsAt.one hc39
            refine .r (i := 4) hs rfl (by kernel_rfl) .none (q_loadR rfl Try.isAgg3 hc39) ?_
            refine .z 5 rfl zm ?_; refine .z 6 rfl (zfa fa_api_Limit_0) ?_; refine .y 7 rfl hs Try.isAgg3 ?_
            refine .ixX (enc := fun x => [I x]) (i := 8) hs rfl (by kernel_rfl) .none hx rfl rfl Try.runUnderlying22 Try.sizeOf3 (gi_get (l := x) (i := y.A.toNat) (by omega)) (by omega) ?_; intro b44 o44 hc44; replace hc44 := CellsAt.one hc44
            refine .r (i := 9) hs rfl (by kernel_rfl) .none (q_loadR rfl Try.isAgg3 hc44) ?_
            refine .z 10 rfl zsub ?_; refine .z 11 rfl (zfa fa_api_Limit_2) ?_; refine .y 12 rfl hs Try.isAgg3 ?_; refine .z 13 rfl zgtr ?_; refine .done (by kernel_rfl) hs ?_
            refine (.condD rfl (fun hc49 => ?_) (fun hc49 => ?_))
            · refine .regSeq (.z zg (.nil ?_))
              refine .ret (rB (rT (rB (rT (Fin.ret1 Try.results85 rfl ?_)))))
              first
                | exact ⟨_, rfl, .ok hok ⟨by omega, by first | omega | (simpa using hb25), fun v hv => hfree v (by omega), feas_iff.2 fun y hy => by
                    obtain ⟨i, hi⟩ := List.getElem?_of_mem hy
                    exact h1 i (List.getElem?_eq_some_iff.1 hi).1 y hi⟩, hs.out⟩
                | exact ⟨_, rfl, .off hok (fun h => by have := h.len; omega), hs.out⟩
                | exact ⟨_, rfl, .off hok (fun h => by have := h.zero; first | omega | (simp at hb25; omega)), hs.out⟩
                | exact ⟨_, rfl, .off hok (fun h => by
                    obtain ⟨p, h1, h2⟩ := hb27.1 hc28
                    obtain ⟨i, hi⟩ := List.getElem?_of_mem h1
                    have hil := (List.getElem?_eq_some_iff.1 hi).1
                    have := gi_get hil
                    rw [hi] at this
                    cases this
                    exact h2 (h.free i (by have := h.len; omega))), hs.out⟩
                | exact ⟨_, rfl, .off hok (fun h => by
                    have h8 := feas_iff.1 h.feas y (List.mem_of_getElem? hy)
                    omega), hs.out⟩
            · refine .skip ?_
              refine nB (nT ?_)
              exact .mk ⟨rfl, fun i hi z hz => by
                by_cases e : i = k
                · subst e; rw [hy] at hz; cases hz; omega
                · exact h1 i (by omega) z hz, hs.out⟩
          · have hfree : ∀ v < x.length, -1000000000 ≤ gi x v ∧ gi x v ≤ 1000000000 := fun v hv => by
              apply Classical.byContradiction
              intro h
              have := hb27.2 ⟨gi x v, List.mem_of_getElem? (gi_get hv), h⟩
              subst this
              simp at hc28
            rintro fr w ⟨rfl, h1, hs⟩
            refine nT ?_
            refine .regSeq (.z zg (.nil ?_))
            refine .ret (Fin.ret1 Try.results85 rfl ?_)
            first
              | exact ⟨_, rfl, .ok hok ⟨by omega, by first | omega | (simpa using hb25), fun v hv => hfree v (by omega), feas_iff.2 fun y hy => by
                  obtain ⟨i, hi⟩ := List.getElem?_of_mem hy
                  exact h1 i (List.getElem?_eq_some_iff.1 hi).1 y hi⟩, hs.out⟩
              | exact ⟨_, rfl, .off hok (fun h => by have := h.len; omega), hs.out⟩
              | exact ⟨_, rfl, .off hok (fun h => by have := h.zero; first | omega | (simp at hb25; omega)), hs.out⟩
              | exact ⟨_, rfl, .off hok (fun h => by
                  obtain ⟨p, h1, h2⟩ := hb27.1 hc28
                  obtain ⟨i, hi⟩ := List.getElem?_of_mem h1
                  have hil := (List.getElem?_eq_some_iff.1 hi).1
                  have := gi_get hil
                  rw [hi] at this
                  cases this
                  exact h2 (h.free i (by have := h.len; omega))), hs.out⟩
              | exact ⟨_, rfl, .off hok (fun h => by
                  have h8 := feas_iff.1 h.feas y (List.mem_of_getElem? hy)
                  omega), hs.out⟩
end Go.Proofs.Ytiiokdeehlfeeaa

namespace Go.Proofs.Ytiiokdeehlfeeaa
open Go.MW
def apartV (a : Quest) (A B : List Int) (k : Nat) : Int := sumTo (fun i => gi a.ws i * (gi B i - gi A i)) k
inductive ApR (a : Quest) (l : List Prb) (A B : List Int) : Int → Int → Prop
  | point (h1 : ¬ (KeepsP a.sys A ∧ KeepsP a.sys B)) : ApR a l A B 0 25
  | far (h1 : KeepsP a.sys A) (h2 : KeepsP a.sys B) (h3 : ¬ Near l (gi A) (gi B)) : ApR a l A B 0 92
  | ok (h1 : KeepsP a.sys A) (h2 : KeepsP a.sys B) (h3 : Near l (gi A) (gi B)) : ApR a l A B (IntKind.i64.wrap (apartV a A B a.ws.length)) 0
theorem ApR.uniq {a : Quest} {l : List Prb} {A B : List Int} {n m e f : Int} (h : ApR a l A B n e) (g : ApR a l A B m f) : n = m ∧ e = f := by
  cases h with
  | point h1 =>
    cases g with
    | point => exact ⟨rfl, rfl⟩
    | far g1 g2 _ => exact (h1 ⟨g1, g2⟩).elim
    | ok g1 g2 _ => exact (h1 ⟨g1, g2⟩).elim
  | far h1 h2 h3 =>
    cases g with
    | point g1 => exact (g1 ⟨h1, h2⟩).elim
    | far => exact ⟨rfl, rfl⟩
    | ok _ _ g3 => exact (h3 g3).elim
  | ok h1 h2 h3 =>
    cases g with
    | point g1 => exact (g1 ⟨h1, h2⟩).elim
    | far _ _ g3 => exact (g3 h3).elim
    | ok => exact ⟨rfl, rfl⟩
def TwnR (a : Quest) (l : List Prb) (A B : List Int) (n e : Int) : Prop := (CPrbR a l e ∧ e ≠ 0 ∧ n = 0) ∨ (CPrbR a l 0 ∧ ApR a l A B n e)
theorem TwnR.uniq {a : Quest} {l : List Prb} {A B : List Int} {n m e f : Int} (h : TwnR a l A B n e) (g : TwnR a l A B m f) : n = m ∧ e = f := by
  rcases h with ⟨h1, h2, h3⟩ | ⟨h1, h2⟩
  · rcases g with ⟨g1, g2, g3⟩ | ⟨g1, g2⟩
    · exact ⟨by omega, h1.uniq g1⟩
    · exact (h2 (h1.uniq g1)).elim
  · rcases g with ⟨g1, g2, g3⟩ | ⟨g1, g2⟩
    · exact (g2 (g1.uniq h1)).elim
    · exact h2.uniq g2
end Go.Proofs.Ytiiokdeehlfeeaa

namespace Go.Proofs.Ytiiokdeehlfeeaa
open Go.MW
structure TwinF (a : Quest) (l : List Prb) (A B : List Int) : Prop where
  kA : KeepsP a.sys A
  kB : KeepsP a.sys B
  near : Near l (gi A) (gi B)
  most : PairS a l (apartV a A B a.ws.length)
  meet : meetErr A B l = 0
end Go.Proofs.Ytiiokdeehlfeeaa

namespace Go.Proofs.Ytiiokdeehlfeeaa
open Go.MW
theorem BestP.uniq {a : Quest} {l : List Prb} {x y e f : Int} (h : BestP a l x e) (g : BestP a l y f) : x = y ∧ e = f := by
  rcases h with ⟨h1, h2, h3⟩ | ⟨i, n, h1, h2, h3⟩
  · rcases g with ⟨g1, g2, g3⟩ | ⟨j, m, g1, g2, g3⟩
    · exact ⟨by omega, by omega⟩
    · subst h1; have := g3.lt; simp at this
  · rcases g with ⟨g1, g2, g3⟩ | ⟨j, m, g1, g2, g3⟩
    · subst g1; have := h3.lt; simp at this
    · refine ⟨?_, by omega⟩
      have e1 := h3.le j g3.lt m g3.here
      have e2 := g3.le i h3.lt n h3.here
      rcases Nat.lt_trichotomy i j with e | e | e
      · have := g3.first i e n h3.here; omega
      · omega
      · have := h3.first j e m g3.here; omega
end Go.Proofs.Ytiiokdeehlfeeaa

namespace Go.Proofs.Ytiiokdeehlfeeaa
open Go.MW
theorem TwinF.wrap {a : Quest} {l : List Prb} {A B : List Int} (hok : AskOk a) (h : TwinF a l A B) (hin : ∀ p ∈ l, PrbIn a p) : IntKind.i64.wrap (apartV a A B a.ws.length) = apartV a A B a.ws.length := by
  obtain ⟨lo, hi, hR⟩ := hok.range
  have hb := hR.bd
  obtain ⟨⟨x, y, g1, g2⟩, g3⟩ := h.most
  have h1 := Pair.le hR g1
  obtain ⟨z, hz⟩ := Pair.some hok hin
  have h2 := g3 z z hz
  exact i64wrap (by omega)
end Go.Proofs.Ytiiokdeehlfeeaa

namespace Go.Proofs.Ytiiokdeehlfeeaa
open Go.MW
def gtw (p : Pck) (j : Nat) : List Int × List Int := p.fails.getD j ([], [])
structure GoodK (a : Quest) (l : List Prb) (p : Pck) (k : Nat) : Prop where
  here : (choicesL l.length)[k]? = some p.probes
  len : p.fails.length = k
  width : p.width ≤ a.width
  worst : CWR a (chosenL l p.probes) p.width p.bound p.uses 0
  fails : ∀ (j : Nat) (cj : List Int), j < k → (choicesL l.length)[j]? = some cj → ∃ n, ApR a (chosenL l cj) (gtw p j).1 (gtw p j).2 n 0 ∧ a.width < n
def PickR (a : Quest) (l : List Prb) (p : Pck) (e : Int) : Prop := (CPrbR a l e ∧ e ≠ 0) ∨ (CPrbR a l 0 ∧ ((e = 0 ∧ ∃ k, GoodK a l p k) ∨ (e = 93 ∧ ¬ ∃ k, GoodK a l p k)))
theorem PickR.uniq {a : Quest} {l : List Prb} {p : Pck} {e f : Int} (h : PickR a l p e) (g : PickR a l p f) : e = f := by
  rcases h with ⟨h1, h2⟩ | ⟨h1, h2⟩
  · rcases g with ⟨g1, g2⟩ | ⟨g1, g2⟩
    · exact h1.uniq g1
    · exact (h2 (h1.uniq g1)).elim
  · rcases g with ⟨g1, g2⟩ | ⟨g1, g2⟩
    · exact (g2 (g1.uniq h1)).elim
    · rcases h2 with ⟨h2, h3⟩ | ⟨h2, h3⟩ <;> rcases g2 with ⟨g2, g3⟩ | ⟨g2, g3⟩
      · omega
      · exact (g3 h3).elim
      · exact (h3 g3).elim
      · omega
end Go.Proofs.Ytiiokdeehlfeeaa

namespace Go.Proofs
open Go.Shelf
def Try.lays189_ren : Go.Shelf.Ren := ⟨fun | 189 => 199 | 125 => 213 | 257 => 212 | 128 => 227 | 129 => 228 | 294 => 218 | 295 => 219 | 296 => 220 | 297 => 221 | 298 => 222 | 299 => 223 | 216 => 224 | 300 => 225 | 301 => 226 | 328 => 229 | 329 => 230 | 330 => 231 | 331 => 232 | 332 => 233 | 215 => 234 | 343 => 235 | n => n, fun | 28 => 22 | 3 => 3 | 46 => 221 | 0 => 0 | 51 => 247 | 53 => 250 | 4 => 4 | 183 => 255 | 182 => 254 | 131 => 228 | 5 => 5 | 9 => 9 | 218 => 262 | 222 => 266 | 228 => 268 | 229 => 269 | n => n, fun | n => n⟩
theorem Try.lays189 : Go.Proofs.Lays.n189 Try.prog Try.lays189_ren := {
  mixed := by kernel_rfl
  f125 := Try.func213.trans (congrArg some (by kernel_rfl))
  f128 := Try.func227.trans (congrArg some (by kernel_rfl))
  f129 := Try.func228.trans (congrArg some (by kernel_rfl))
  f189 := Try.func199.trans (congrArg some (by kernel_rfl))
  f215 := Try.func234.trans (congrArg some (by kernel_rfl))
  f216 := Try.func224.trans (congrArg some (by kernel_rfl))
  f257 := Try.func212.trans (congrArg some (by kernel_rfl))
  f294 := Try.func218.trans (congrArg some (by kernel_rfl))
  f295 := Try.func219.trans (congrArg some (by kernel_rfl))
  f296 := Try.func220.trans (congrArg some (by kernel_rfl))
  f297 := Try.func221.trans (congrArg some (by kernel_rfl))
  f298 := Try.func222.trans (congrArg some (by kernel_rfl))
  f299 := Try.func223.trans (congrArg some (by kernel_rfl))
  f300 := Try.func225.trans (congrArg some (by kernel_rfl))
  f301 := Try.func226.trans (congrArg some (by kernel_rfl))
  f328 := Try.func229.trans (congrArg some (by kernel_rfl))
  f329 := Try.func230.trans (congrArg some (by kernel_rfl))
  f330 := Try.func231.trans (congrArg some (by kernel_rfl))
  f331 := Try.func232.trans (congrArg some (by kernel_rfl))
  f332 := Try.func233.trans (congrArg some (by kernel_rfl))
  f343 := Try.func235.trans (congrArg some (by kernel_rfl))
  t0 := Try.underlying0
  a0 := Try.isAgg0
  z0 := Try.sizeOf0
  v0 := Try.zeroValue0
  t3 := Try.underlying3
  a3 := Try.isAgg3
  z3 := Try.sizeOf3
  v3 := Try.zeroValue3
  t4 := Try.underlying4
  a4 := Try.isAgg4
  z4 := Try.sizeOf4
  v4 := Try.zeroValue4
  t5 := Try.underlying5
  a5 := Try.isAgg5
  z5 := Try.sizeOf5
  v5 := Try.zeroValue5
  t9 := Try.underlying9
  a9 := Try.isAgg9
  z9 := Try.sizeOf9
  v9 := Try.zeroValue9
  t28 := Try.underlying22
  a28 := Try.isAgg22
  z28 := Try.sizeOf22
  v28 := Try.zeroValue22
  t46 := Try.underlying221
  a46 := Try.isAgg221
  z46 := Try.sizeOf221
  v46 := Try.zeroValue221
  t51 := Try.underlying247
  a51 := Try.isAgg247
  z51 := Try.sizeOf247
  v51 := Try.zeroValue247
  t53 := Try.underlying250
  a53 := Try.isAgg250
  z53 := Try.sizeOf250
  v53 := Try.zeroValue250
  t131 := Try.underlying228
  a131 := Try.isAgg228
  z131 := Try.sizeOf228
  v131 := Try.zeroValue228
  t182 := Try.underlying254
  a182 := Try.isAgg254
  z182 := Try.sizeOf254
  v182 := Try.zeroValue254
  t183 := Try.underlying255
  a183 := Try.isAgg255
  z183 := Try.sizeOf255
  v183 := Try.zeroValue255
  t218 := Try.underlying262
  a218 := Try.isAgg262
  z218 := Try.sizeOf262
  v218 := Try.zeroValue262
  t222 := Try.underlying266
  a222 := Try.isAgg266
  z222 := Try.sizeOf266
  v222 := Try.zeroValue266
  t228 := Try.underlying268
  a228 := Try.isAgg268
  z228 := Try.sizeOf268
  v228 := Try.zeroValue268
  t229 := Try.underlying269
  a229 := Try.isAgg269
  z229 := Try.sizeOf269
  v229 := Try.zeroValue269 }
def Try.lays2n20_ren : Go.Shelf.Ren := ⟨fun | 20 => 200 | n => n, fun | 22 => 22 | 3 => 3 | 4 => 4 | 0 => 0 | n => n, fun | n => n⟩
theorem Try.lays2n20 : Go.Proofs.Lays2.n20 Try.prog Try.lays2n20_ren := {
  mixed := by kernel_rfl
  f20 := Try.func200.trans (congrArg some (by kernel_rfl))
  t0 := Try.underlying0
  a0 := Try.isAgg0
  z0 := Try.sizeOf0
  v0 := Try.zeroValue0
  t3 := Try.underlying3
  a3 := Try.isAgg3
  z3 := Try.sizeOf3
  v3 := Try.zeroValue3
  t4 := Try.underlying4
  a4 := Try.isAgg4
  z4 := Try.sizeOf4
  v4 := Try.zeroValue4
  t22 := Try.underlying22
  a22 := Try.isAgg22
  z22 := Try.sizeOf22
  v22 := Try.zeroValue22
  i3 := by kernel_rfl }
end Go.Proofs
namespace Go.Proofs.Ytiiokdeehlfeeaa
open Go.Sort Go.RowKit
theorem srt_Sort (blk off cap : Nat) (zs : List Int) (w : World) (hH : Holds (Value.int .i64) w blk off zs.toArray) (hblk : blk < w.heap.size) (hsz : zs.length < 4611686018427387904) :
    Calls Try.prog 199 #[.slice (some ⟨blk, off, none⟩) zs.length cap] w fun e w' => e = .returned (.tuple #[]) ∧ ∃ n os, w' = grow (putRow (Value.int .i64) (Sort.ahead w n) blk off (zs.mergeSort fun x y => decide (x ≤ y)).toArray) os :=
  Any.slices_Sort_int Try.lays189 blk off cap zs w hH hblk hsz
theorem srt_Sort_none (p : Option Addr) (cap : Nat) (w : World) : Calls Try.prog 199 #[.slice p 0 cap] w fun e w' => e = .returned (.tuple #[]) ∧ w' = w :=
  Any.slices_Sort_int_none Try.lays189 p cap w
theorem srt_Compact (blk off cap : Nat) (zs : List Int) (w : World) (hH : Holds (Value.int .i64) w blk off zs.toArray) (hsz : zs.length ≤ 9223372036854775807) (hcap : zs.length ≤ cap) :
    Calls Try.prog 200 #[.slice (some ⟨blk, off, none⟩) zs.length cap] w fun e w' => e = .returned (.slice (some ⟨blk, off, none⟩) (Lib.compact zs).length cap) ∧ ∃ q, w' = putRow (Value.int .i64) (Sort.ahead w q) blk off (Lib.compact zs ++ List.replicate (zs.length - (Lib.compact zs).length) 0).toArray :=
  Any.slices_Compact_int Try.lays2n20 blk off cap zs w hH hsz hcap
theorem srt_Compact_none (p : Option Addr) (cap : Nat) (w : World) : Calls Try.prog 200 #[.slice p 0 cap] w fun e w' => e = .returned (.slice p 0 cap) ∧ w' = w :=
  Any.slices_Compact_int_empty Try.lays2n20 p cap w
end Go.Proofs.Ytiiokdeehlfeeaa

namespace Go.Proofs.Ytiiokdeehlfeeaa
open Go.MW
inductive ReadyR (s : Syst) : Int → Prop
  | bad (h : s.check ≠ 0) : ReadyR s s.check
  | clash (h : s.Ok) (h1 : ¬ s.Sound) : ReadyR s 23
  | ok (h : s.Ok) (h1 : s.Sound) : ReadyR s 0
theorem bound_ready_spec {H : Heap} {w : World} {σ : List Ent} {v : Value} {s : Syst} (hs : St H w σ) (hr : RSy H v s) :
    Cl Try.prog 136 [v] w fun u w' => ∃ H1 e, HLe H H1 ∧ u = I e ∧ ReadyR s e ∧ St H1 w' σ := by
  obtain ⟨ul, rfl, hl⟩ := hr
  obtain ⟨al, cl, rfl⟩ := RL.shape hl
  refine Cl.of Try.func136 rfl Try.ntmps136 (by simp) (args_cons (k := 0) rfl (args0)) ?_
  refine .regSeq ?_
  refine .o (.box hs rfl rfl ?_); intro b1 w hs
  refine .z zg (.nil (.seq (.regSeq (.y hs (zls [_, _] Try.isAgg32 Try.sizeOf32) ?_))))
  refine .o (.call Try.call72 rfl (bound_Check_spec (s := s) hs ⟨_, rfl, hl⟩) ?_); rintro _ w ⟨rfl, hs⟩
  refine .z zg (.nil (.regSeq (.z zm (.z zneq (.nil ?_)))))
  refine (.condN rfl (fun hc7 => ?_) (fun hc7 => ?_))
  · refine .regSeq (.z zm (.z zg (.nil ?_)))
    refine .ret (rT (Fin.ret1 Try.results136 rfl ?_))
    exact ⟨H, _, HLe.refl H, rfl, .bad hc7, hs.out⟩
  · refine .skip ?_
    refine nT ?_
    refine .seq (.regSeq (.y hs (zls [_, _] Try.isAgg32 Try.sizeOf32) ?_))
    have hok : s.Ok := s.ok_iff.1 (by simpa using hc7)
    refine .o (.call Try.call149 rfl (bound_isSound_spec (s := s) hs hok ⟨_, rfl, hl⟩) ?_); rintro _ w ⟨H1, b10, hle1, rfl, hb, hs⟩
    refine .z znot (.nil ?_)
    refine (.cond rfl (fun hc11 => ?_) (fun hc11 => ?_))
    · refine .regSeq (.z zg (.nil ?_))
      refine .ret (rT (Fin.ret1 Try.results136 rfl ?_))
      exact ⟨H1, _, hle1, rfl, .clash hok (fun h => by simp [hb.2 h] at hc11), hs.out⟩
    · refine .skip ?_
      refine nT ?_
      refine .regSeq (.z zg (.nil ?_))
      refine .ret (Fin.ret1 Try.results136 rfl ?_)
      exact ⟨H1, _, hle1, rfl, .ok hok (hb.1 (by simpa using hc11)), hs.out⟩
set_option maxHeartbeats 4000000 in
theorem bound_matrix_spec {H : Heap} {w : World} {σ : List Ent} {v : Value} {s : Syst} (hs : St H w σ) (hr : RSy H v s) (hok : s.Ok) (hsd : s.Sound) :
    Cl Try.prog 137 [v] w fun u w' => ∃ H1 rs, HLe H H1 ∧ RT H1 u rs ∧ Sq s.n rs ∧ WaysT s.n s.arcs (gt rs) ∧ St H1 w' σ := by
  obtain ⟨ul, rfl, hl⟩ := hr
  obtain ⟨al, cl, rfl⟩ := RL.shape hl
  have hm0 := hok.m0
  have hm1 := hok.m1
  have hlen := hok.len
  have hnp := s.n_pos
  have hn65 := hok.n65
  have hinn := hok.inn
  have hmn : s.many + 1 = (s.n : Int) := by simp only [Syst.n]; omega
  obtain ⟨p0, hp0⟩ := hsd
  generalize hn : s.n = n at hnp hn65 hinn hmn ⊢
  refine Cl.of Try.func137 rfl Try.ntmps137 (by simp) (args_cons (k := 0) rfl (args0)) ?_
  refine .regSeq ?_
  refine .o (.box hs rfl rfl ?_); intro b1 w hs
  refine .z zg (.nil (.regSeq (.z (zfa fa_api_System_0) ?_)))
  first | refine .q hs (q_load rfl Try.isAgg3 (hm := by repeat (first | exact .here | assumption | exact Mem.row (by omega) (by omega) | refine .there ?_ | refine Mem.app2 ?_)) (hv := by first | rfl | exact ptr_get (by omega) | exact Is_gt (by assumption) (by omega) (by omega) | exact Is_gi (by first | assumption | omega))) ?_ | refine .q hs (q_loadR rfl Try.isAgg3 (by assumption)) ?_
  refine .z zadd ?_
  rw [hmn]
  refine .o (.makeP n hs rfl rfl Try.runUnderlying87 Try.typeInfo22 rfl Try.sizeOf22 Try.zeroValue22 (by omega) ?_); intro b12 w hs
  refine .o (.alloc hs Try.zeroValue87 rfl ?_); intro b3 w hs
  refine .o (.store hs rfl rfl Try.sizeOf87 ?_); intro w hs
  refine .nil (.seq (.regSeq ?_))
  first | refine .q hs (q_load rfl Try.isAgg87 (hm := by repeat (first | exact .here | assumption | exact Mem.row (by omega) (by omega) | refine .there ?_ | refine Mem.app2 ?_)) (hv := by first | rfl | exact ptr_get (by omega) | exact Is_gt (by assumption) (by omega) (by omega) | exact Is_gi (by first | assumption | omega))) ?_ | refine .q hs (q_loadR rfl Try.isAgg87 (by assumption)) ?_
  refine .z (zlen Try.runUnderlying87) (.z zm (.nil ?_))
  refine .for (N := n) (J := fun k fr w => fr = [(3, .pointer (some ⟨b3, 0, none⟩)), (1, .pointer (some ⟨b1, 0, none⟩))] ∧ ∃ bs : List Nat, bs.length = k ∧ St H w (.blk b12 (bs.map (ptr n) ++ List.replicate (n - k) (.slice none 0 0)) :: (rowsE bs (tabR ways0 n k) ++ (.blk b3 [.slice (some ⟨b12, 0, none⟩) n n] :: .blk b1 [I s.many, .slice al s.lims.length cl] :: σ)))) (by omega) ?_ ?_ ?_
  · exact .mk ⟨rfl, [], rfl, hs.perm (.swap _ _ _)⟩
  · rintro k fr w hk ⟨rfl, bs, hbl, hs⟩
    refine .block (.regSeq (.z zm (.z zg (.nil ?_))))
    refine .seq (.draw mix rfl hs ?_); intro w hs
    first | refine .load (i := 0) hs rfl (by kernel_rfl) .none rfl Try.isAgg87 ?_ (by repeat (first | exact .here | assumption | exact Mem.row (by omega) (by omega) | refine .there ?_ | refine Mem.app2 ?_)) (by first | rfl | exact ptr_get (by omega) | exact Is_gt (by assumption) (by omega) (by omega) | exact Is_gi (by first | assumption | omega)) | refine .r (i := 0) hs rfl (by kernel_rfl) .none (q_loadR rfl Try.isAgg87 (by assumption)) ?_
    refine .z 1 rfl zm ?_; refine .z 3 rfl (zfa fa_api_System_0) ?_
    first | refine .load (i := 4) hs rfl (by kernel_rfl) .none rfl Try.isAgg3 ?_ (by repeat (first | exact .here | assumption | exact Mem.row (by omega) (by omega) | refine .there ?_ | refine Mem.app2 ?_)) (by first | rfl | exact ptr_get (by omega) | exact Is_gt (by assumption) (by omega) (by omega) | exact Is_gi (by first | assumption | omega)) | refine .r (i := 4) hs rfl (by kernel_rfl) .none (q_loadR rfl Try.isAgg3 (by assumption)) ?_
    refine .z 5 rfl zadd ?_
    rw [hmn]
    refine .e1 (i := 2) (by kernel_rfl) rfl rfl .none hs ?_ (hp := by repeat (first | exact .nil | refine .cons (by first | exact HLe.bot _ | exact HLe.refl _ | assumption) (by first | exact .nil | (refine Sub.one ?_; repeat (first | exact .here | assumption | exact Mem.row (by omega) (by omega) | refine .there ?_ | refine Mem.app2 ?_))) ?_))
    refine .buildSlice (cells := [_]) hs bls_sl_int_1 rfl rfl ?_; intro b20 w hs
    refine .go ?_
    refine .e1 (i := 6) (by kernel_rfl) rfl rfl .none hs ?_ (hp := by repeat (first | exact .nil | refine .cons (by first | exact HLe.bot _ | exact HLe.refl _ | assumption) (by first | exact .nil | (refine Sub.one ?_; repeat (first | exact .here | assumption | exact Mem.row (by omega) (by omega) | refine .there ?_ | refine Mem.app2 ?_))) ?_))
    refine .call Try.call192 rfl (slices_Repeat_int (z := 1000000000) (c := n) hs .here (by omega) (by omega)) ?_; rintro _ w ⟨b24, rfl, hs⟩
    refine .go ?_
    first | (refine .ixw 7 rfl hs Try.runUnderlying87 Try.sizeOf22 ?_; intro b25 o25 hc25) | refine .z 7 rfl (zix Try.runUnderlying87 Try.sizeOf22) ?_
    refine .e1 (i := 8) (by kernel_rfl) rfl rfl .none hs ?_ (hp := by repeat (first | exact .nil | refine .cons (by first | exact HLe.bot _ | exact HLe.refl _ | assumption) (by first | exact .nil | (refine Sub.one ?_; repeat (first | exact .here | assumption | exact Mem.row (by omega) (by omega) | refine .there ?_ | refine Mem.app2 ?_))) ?_))
    refine .store hs rfl rfl Try.sizeOf22 ?_ (by repeat constructor) (by simp [hbl]; omega) (ptr_set hbl hk); intro w hs
    refine .go ?_
    refine .done (by kernel_rfl) hs ?_ (hp := by repeat (first | exact .nil | refine .cons (by first | exact HLe.bot _ | exact HLe.refl _ | assumption) (by first | exact .nil | (refine Sub.one ?_; repeat (first | exact .here | assumption | exact Mem.row (by omega) (by omega) | refine .there ?_ | refine Mem.app2 ?_))) ?_))
    refine .region ?_
    first | refine .q hs (q_load rfl Try.isAgg87 (hm := by repeat (first | exact .here | assumption | exact Mem.row (by omega) (by omega) | refine .there ?_ | refine Mem.app2 ?_)) (hv := by first | rfl | exact ptr_get (by omega) | exact Is_gt (by assumption) (by omega) (by omega) | exact Is_gi (by first | assumption | omega))) ?_ | refine .q hs (q_loadR rfl Try.isAgg87 (by assumption)) ?_
    refine .z zm ?_
    first | (refine .ixw hs Try.runUnderlying87 Try.sizeOf22 ?_; intro b28 o28 hc28) | refine .z (zix Try.runUnderlying87 Try.sizeOf22) ?_
    refine .q hs (q_load rfl Try.isAgg22 (hv := ptr_last hbl)) ?_
    refine .z zm ?_
    first | (refine .ixv hs Try.runUnderlying22 Try.sizeOf3 ?_; intro b31 o31 hc31) | refine .z (zix Try.runUnderlying22 Try.sizeOf3) ?_
    refine .o (.store hs rfl rfl Try.sizeOf3 ?_ (by repeat constructor) (blt_Is (by simp; omega)) (Is_set _ _ _)); intro w hs
    refine .nil ?_
    refine nB (nT ?_)
    have e : (List.replicate n (1000000000 : Int)).set k 0 = (List.range n).map (ways0 k) := by
      rw [range_const (fun _ => 1000000000) n 1000000000 (fun _ _ => rfl)]
      exact range_set _ _ hk 0 (fun j _ => by
        unfold ways0
        by_cases e : k = j
        · rw [if_pos e, if_pos e.symm]
        · rw [if_neg e, if_neg (fun h => e h.symm)])
    rw [e] at hs
    replace hs := (hs.perm (.swap _ _ _)).tail.rowIn (by rw [hbl, tabR_length])
    rw [← tabR_succ] at hs
    exact .mk ⟨rfl, bs ++ [b24], by simp [hbl], hs⟩
  · rintro fr w ⟨rfl, bs, hbl, hs⟩
    rw [Nat.sub_self, List.replicate_zero, List.append_nil] at hs
    refine nT ?_
    refine .seq (.regSeq ?_)
    refine .q hs (q_loads (vs := [I s.many, .slice al s.lims.length cl]) rfl Try.isAgg32 Try.sizeOf32 (hm := .there (Mem.app2 (.there .here)))) ?_
    refine .o (.call Try.call174 rfl (bound_steps_spec (s := s) hs hok ⟨_, rfl, hl⟩) ?_); rintro _ w ⟨H1, b34, hle1, rfl, hit, hs⟩
    refine .nil (.block ?_)
    refine .rangeFunc (gf := 202) (cap := [.pointer (some ⟨b34, 0, none⟩)]) (xs := s.arcs.map fun x => [.agg x.v.toArray]) (σb := .blk b12 (bs.map (ptr n)) :: (rowsE bs (tabR ways0 n n) ++ [.blk b3 [.slice (some ⟨b12, 0, none⟩) n n], .blk b1 [I s.many, .slice al s.lims.length cl]])) (σf := σ) (by simpa only [List.cons_append, List.append_assoc, List.nil_append] using hs) trivial rfl hit Try.call202 (by simp) rfl
      (I := fun k H' σb => ∃ rs, σb = .blk b12 (bs.map (ptr n)) :: (rowsE bs rs ++ [.blk b3 [.slice (some ⟨b12, 0, none⟩) n n], .blk b1 [I s.many, .slice al s.lims.length cl]]) ∧ Sq n rs ∧ WayB n s.arcs k (gt rs)) (Ix := fun _ _ _ => False) (fun _ _ _ _ _ h => h) (fun _ _ _ _ _ h => h)
      ⟨_, rfl, tabR_sq ways0 n, ways0_B s.arcs (fun i j hi hj => tabR_gt ways0 hi hj)⟩ ?_ ?_ (fun D c H' σb w _ h _ => h.elim)
    · rintro l k hk H2 σb2 σf2 w hle2 ⟨rs, rfl, hq, hB⟩ hs ⟨rr, hrr⟩
      obtain ⟨x, hx⟩ := nth (l := s.arcs) (by simpa using hk)
      have hxk : (s.arcs.map fun x => [Value.agg x.v.toArray])[k] = [.agg x.v.toArray] := map_at hx
      rw [hxk]
      obtain ⟨xf, xt, xne, xc0, xc1⟩ := hinn x (List.mem_of_getElem? hx)
      have hrl := hq.1
      replace hs : St H2 w (.blk b12 (bs.map (ptr n)) :: (rowsE bs rs ++ (.blk b3 [.slice (some ⟨b12, 0, none⟩) n n] :: .blk b1 [I s.many, .slice al s.lims.length cl] :: σf2))) := by simpa only [List.cons_append, List.append_assoc, List.nil_append] using hs
      refine .region ?_
      refine .o (.alloc hs Try.zeroValue205 rfl ?_); intro b5 w hs
      refine .o (.stores (vs := x.v) hs rfl rfl Try.sizeOf205 ?_); intro w hs
      change St _ _ (.blk b5 x.v :: _) at hs
      refine .nil ?_
      refine nT ?_
      refine ⟨H2, .blk b5 x.v :: .blk b12 (bs.map (ptr n)) :: (rowsE bs rs ++ [.blk b3 [.slice (some ⟨b12, 0, none⟩) n n], .blk b1 [I s.many, .slice al s.lims.length cl]]), HLe.refl _, by simpa only [List.cons_append, List.append_assoc, List.nil_append] using hs, ?_⟩; rintro w σf4 - hs
      replace hs : St H2 w (.blk b5 x.v :: .blk b12 (bs.map (ptr n)) :: (rowsE bs rs ++ (.blk b3 [.slice (some ⟨b12, 0, none⟩) n n] :: .blk b1 [I s.many, .slice al s.lims.length cl] :: σf4))) := by simpa only [List.cons_append, List.append_assoc, List.nil_append] using hs
      refine .block ?_
      refine .draw mix rfl hs ?_; intro w hs
      first | refine .load (i := 0) hs rfl (by kernel_rfl) .none rfl Try.isAgg87 ?_ (by repeat (first | exact .here | assumption | exact Mem.row (by omega) (by omega) | refine .there ?_ | refine Mem.app2 ?_)) (by first | rfl | exact ptr_get (by omega) | exact Is_gt (by assumption) (by omega) (by omega) | exact Is_gi (by first | assumption | omega)) | refine .r (i := 0) hs rfl (by kernel_rfl) .none (q_loadR rfl Try.isAgg87 (by assumption)) ?_
      refine .z 1 rfl (zfa fa_bound_step_0) ?_
      first | refine .load (i := 2) hs rfl (by kernel_rfl) .none rfl Try.isAgg3 ?_ (by repeat (first | exact .here | assumption | exact Mem.row (by omega) (by omega) | refine .there ?_ | refine Mem.app2 ?_)) (by first | rfl | exact ptr_get (by omega) | exact Is_gt (by assumption) (by omega) (by omega) | exact Is_gi (by first | assumption | omega)) | refine .r (i := 2) hs rfl (by kernel_rfl) .none (q_loadR rfl Try.isAgg3 (by assumption)) ?_
      first | (refine .ixw 3 rfl hs Try.runUnderlying87 Try.sizeOf22 ?_; intro b39 o39 hc39) | refine .z 3 rfl (zix Try.runUnderlying87 Try.sizeOf22) ?_
      first | refine .load (i := 4) hs rfl (by kernel_rfl) .none rfl Try.isAgg22 ?_ (by repeat (first | exact .here | assumption | exact Mem.row (by omega) (by omega) | refine .there ?_ | refine Mem.app2 ?_)) (by first | rfl | exact ptr_get (by omega) | exact Is_gt (by assumption) (by omega) (by omega) | exact Is_gi (by first | assumption | omega)) | refine .r (i := 4) hs rfl (by kernel_rfl) .none (q_loadR rfl Try.isAgg22 (by assumption)) ?_
      refine .z 5 rfl (zfa fa_bound_step_1) ?_
      first | refine .load (i := 6) hs rfl (by kernel_rfl) .none rfl Try.isAgg3 ?_ (by repeat (first | exact .here | assumption | exact Mem.row (by omega) (by omega) | refine .there ?_ | refine Mem.app2 ?_)) (by first | rfl | exact ptr_get (by omega) | exact Is_gt (by assumption) (by omega) (by omega) | exact Is_gi (by first | assumption | omega)) | refine .r (i := 6) hs rfl (by kernel_rfl) .none (q_loadR rfl Try.isAgg3 (by assumption)) ?_
      first | refine .load (i := 7) hs rfl (by kernel_rfl) .none rfl Try.isAgg87 ?_ (by repeat (first | exact .here | assumption | exact Mem.row (by omega) (by omega) | refine .there ?_ | refine Mem.app2 ?_)) (by first | rfl | exact ptr_get (by omega) | exact Is_gt (by assumption) (by omega) (by omega) | exact Is_gi (by first | assumption | omega)) | refine .r (i := 7) hs rfl (by kernel_rfl) .none (q_loadR rfl Try.isAgg87 (by assumption)) ?_
      refine .z 8 rfl (zfa fa_bound_step_0) ?_
      first | refine .load (i := 9) hs rfl (by kernel_rfl) .none rfl Try.isAgg3 ?_ (by repeat (first | exact .here | assumption | exact Mem.row (by omega) (by omega) | refine .there ?_ | refine Mem.app2 ?_)) (by first | rfl | exact ptr_get (by omega) | exact Is_gt (by assumption) (by omega) (by omega) | exact Is_gi (by first | assumption | omega)) | refine .r (i := 9) hs rfl (by kernel_rfl) .none (q_loadR rfl Try.isAgg3 (by assumption)) ?_
      first | (refine .ixw 10 rfl hs Try.runUnderlying87 Try.sizeOf22 ?_; intro b46 o46 hc46) | refine .z 10 rfl (zix Try.runUnderlying87 Try.sizeOf22) ?_
      first | refine .load (i := 11) hs rfl (by kernel_rfl) .none rfl Try.isAgg22 ?_ (by repeat (first | exact .here | assumption | exact Mem.row (by omega) (by omega) | refine .there ?_ | refine Mem.app2 ?_)) (by first | rfl | exact ptr_get (by omega) | exact Is_gt (by assumption) (by omega) (by omega) | exact Is_gi (by first | assumption | omega)) | refine .r (i := 11) hs rfl (by kernel_rfl) .none (q_loadR rfl Try.isAgg22 (by assumption)) ?_
      refine .z 12 rfl (zfa fa_bound_step_1) ?_
      first | refine .load (i := 13) hs rfl (by kernel_rfl) .none rfl Try.isAgg3 ?_ (by repeat (first | exact .here | assumption | exact Mem.row (by omega) (by omega) | refine .there ?_ | refine Mem.app2 ?_)) (by first | rfl | exact ptr_get (by omega) | exact Is_gt (by assumption) (by omega) (by omega) | exact Is_gi (by first | assumption | omega)) | refine .r (i := 13) hs rfl (by kernel_rfl) .none (q_loadR rfl Try.isAgg3 (by assumption)) ?_
      first | (refine .ixv 14 rfl hs Try.runUnderlying22 Try.sizeOf3 ?_; intro b50 o50 hc50) | refine .z 14 rfl (zix Try.runUnderlying22 Try.sizeOf3) ?_
      first | refine .load (i := 15) hs rfl (by kernel_rfl) .none rfl Try.isAgg3 ?_ (by repeat (first | exact .here | assumption | exact Mem.row (by omega) (by omega) | refine .there ?_ | refine Mem.app2 ?_)) (by first | rfl | exact ptr_get (by omega) | exact Is_gt (by assumption) (by omega) (by omega) | exact Is_gi (by first | assumption | omega)) | refine .r (i := 15) hs rfl (by kernel_rfl) .none (q_loadR rfl Try.isAgg3 (by assumption)) ?_
      refine .z 16 rfl (zfa fa_bound_step_2) ?_
      first | refine .load (i := 17) hs rfl (by kernel_rfl) .none rfl Try.isAgg3 ?_ (by repeat (first | exact .here | assumption | exact Mem.row (by omega) (by omega) | refine .there ?_ | refine Mem.app2 ?_)) (by first | rfl | exact ptr_get (by omega) | exact Is_gt (by assumption) (by omega) (by omega) | exact Is_gi (by first | assumption | omega)) | refine .r (i := 17) hs rfl (by kernel_rfl) .none (q_loadR rfl Try.isAgg3 (by assumption)) ?_
      refine .z 18 rfl zmin ?_
      first | (refine .ixv 19 rfl hs Try.runUnderlying22 Try.sizeOf3 ?_; intro b55 o55 hc55) | refine .z 19 rfl (zix Try.runUnderlying22 Try.sizeOf3) ?_
      refine .e1 (i := 20) (by kernel_rfl) rfl rfl .none hs ?_ (hp := by repeat (first | exact .nil | refine .cons (by first | exact HLe.bot _ | exact HLe.refl _ | assumption) (by first | exact .nil | (refine Sub.one ?_; repeat (first | exact .here | assumption | exact Mem.row (by omega) (by omega) | refine .there ?_ | refine Mem.app2 ?_))) ?_))
      refine .store hs rfl rfl Try.sizeOf3 ?_ (.there (.there (Upd.row _ (by omega) (by omega)))) (blt_Is (by rw [hq.2 _ xf]; exact xt)) (Is_set _ _ _); intro w hs
      refine .go ?_
      refine .done (by kernel_rfl) hs ?_ (hp := by repeat (first | exact .nil | refine .cons (by first | exact HLe.bot _ | exact HLe.refl _ | assumption) (by first | exact .nil | (refine Sub.one ?_; repeat (first | exact .here | assumption | exact Mem.row (by omega) (by omega) | refine .there ?_ | refine Mem.app2 ?_))) ?_))
      refine nB ?_
      exact ⟨H2, .blk b12 (bs.map (ptr n)) :: (rowsE bs (rs.set x.f ((gr rs x.f).set x.t (min (gt rs x.f x.t) x.c))) ++ [.blk b3 [.slice (some ⟨b12, 0, none⟩) n n], .blk b1 [I s.many, .slice al s.lims.length cl]]), HLe.refl _, by simpa only [List.cons_append, List.append_assoc, List.nil_append] using hs.tail, _, rfl, hq.set xf _, by rw [gt_set hq xf xt]; exact hB.step hinn hx⟩
    · rintro D H2 σb2 w hle2 ⟨rs, rfl, hq, hB⟩ hs
      replace hs : St H2 w (.blk b12 (bs.map (ptr n)) :: (rowsE bs rs ++ (.obj D (.deferred (some [])) :: .blk b3 [.slice (some ⟨b12, 0, none⟩) n n] :: .blk b1 [I s.many, .slice al s.lims.length cl] :: σ))) := by
        have hs' : St H2 w (.obj D (.deferred (some [])) :: .blk b12 (bs.map (ptr n)) :: (rowsE bs rs ++ (.blk b3 [.slice (some ⟨b12, 0, none⟩) n n] :: .blk b1 [I s.many, .slice al s.lims.length cl] :: σ))) := by simpa only [entOf, List.cons_append, List.append_assoc, List.nil_append] using hs
        exact hs'.perm ((List.Perm.swap _ _ _).trans (.cons _ List.perm_middle.symm))
      rw [List.length_map] at hB
      have hI := hB.go hinn hnp
      have hcb : ∀ x ∈ s.arcs, -20000 ≤ x.c ∧ x.c ≤ 20000 := fun x hx => by have := hinn x hx; omega
      refine nB (nT ?_)
      refine .seq (.regSeq ?_)
      first | refine .q hs (q_load rfl Try.isAgg87 (hm := by repeat (first | exact .here | assumption | exact Mem.row (by omega) (by omega) | refine .there ?_ | refine Mem.app2 ?_)) (hv := by first | rfl | exact ptr_get (by omega) | exact Is_gt (by assumption) (by omega) (by omega) | exact Is_gi (by first | assumption | omega))) ?_ | refine .q hs (q_loadR rfl Try.isAgg87 (by assumption)) ?_
      refine .z (zlen Try.runUnderlying87) (.z zm (.nil ?_))
      refine .forD (N := n) (J := fun m ds fr w => ds = marks [D] ∧ fr = [(3, .pointer (some ⟨b3, 0, none⟩))] ∧ ∃ rs, Sq n rs ∧ (m < n → WayI n s.arcs m (fun _ _ => False) (gt rs)) ∧ (m = n → WaysT n s.arcs (gt rs)) ∧ St H2 w (.blk b12 (bs.map (ptr n)) :: (rowsE bs rs ++ (.obj D (.deferred (some [])) :: .blk b3 [.slice (some ⟨b12, 0, none⟩) n n] :: .blk b1 [I s.many, .slice al s.lims.length cl] :: σ)))) (by omega) ?_ ?_ ?_
      · exact .mk ⟨rfl, rfl, rs, hq, fun _ => hI, fun e => by omega, hs⟩
      · clear hI hB hq
        rintro m ds fr w hm ⟨rfl, rfl, rs, hq, hI, -, hs⟩
        replace hI := hI hm
        refine .block (.regSeq (.z zm (.z zg (.nil (.regSeq ?_)))))
        first | refine .q hs (q_load rfl Try.isAgg87 (hm := by repeat (first | exact .here | assumption | exact Mem.row (by omega) (by omega) | refine .there ?_ | refine Mem.app2 ?_)) (hv := by first | rfl | exact ptr_get (by omega) | exact Is_gt (by assumption) (by omega) (by omega) | exact Is_gi (by first | assumption | omega))) ?_ | refine .q hs (q_loadR rfl Try.isAgg87 (by assumption)) ?_
        refine .z (zlen Try.runUnderlying87) (.z zm (.nil ?_))
        refine .forD (N := n) (J := fun i ds fr w => ds = marks [D] ∧ fr = [(6, I (m : Int)), (58, I (m : Int)), (57, I (n : Int)), (3, .pointer (some ⟨b3, 0, none⟩))] ∧ ∃ rs, Sq n rs ∧ WayI n s.arcs m (fun a _ => a < i) (gt rs) ∧ St H2 w (.blk b12 (bs.map (ptr n)) :: (rowsE bs rs ++ (.obj D (.deferred (some [])) :: .blk b3 [.slice (some ⟨b12, 0, none⟩) n n] :: .blk b1 [I s.many, .slice al s.lims.length cl] :: σ)))) (by omega) ?_ ?_ ?_
        · exact .mk ⟨rfl, rfl, rs, hq, hI.skip hcb hm (P := fun _ _ => False) (fun i j h => by omega) (fun _ _ _ _ h => h.elim), hs⟩
        · clear hI hq
          rintro i ds fr w hi ⟨rfl, rfl, rs, hq, hI, hs⟩
          refine .block (.regSeq (.z zm (.z zg (.nil (.regSeq ?_)))))
          first | refine .q hs (q_load rfl Try.isAgg87 (hm := by repeat (first | exact .here | assumption | exact Mem.row (by omega) (by omega) | refine .there ?_ | refine Mem.app2 ?_)) (hv := by first | rfl | exact ptr_get (by omega) | exact Is_gt (by assumption) (by omega) (by omega) | exact Is_gi (by first | assumption | omega))) ?_ | refine .q hs (q_loadR rfl Try.isAgg87 (by assumption)) ?_
          refine .z (zlen Try.runUnderlying87) (.z zm (.nil ?_))
          refine .forD (N := n) (J := fun k ds fr w => ds = marks [D] ∧ fr = [(7, I (i : Int)), (63, I (i : Int)), (62, I (n : Int)), (6, I (m : Int)), (58, I (m : Int)), (57, I (n : Int)), (3, .pointer (some ⟨b3, 0, none⟩))] ∧ ∃ rs, Sq n rs ∧ WayI n s.arcs m (fun a b => a < i ∨ (a = i ∧ b < k)) (gt rs) ∧ St H2 w (.blk b12 (bs.map (ptr n)) :: (rowsE bs rs ++ (.obj D (.deferred (some [])) :: .blk b3 [.slice (some ⟨b12, 0, none⟩) n n] :: .blk b1 [I s.many, .slice al s.lims.length cl] :: σ)))) (by omega) ?_ ?_ ?_
          · exact .mk ⟨rfl, rfl, rs, hq, hI.skip hcb hm (P := fun _ _ => False) (fun a b h => by omega) (fun _ _ _ _ h => h.elim), hs⟩
          · clear hI hq
            rintro k ds fr w hk ⟨rfl, rfl, rs, hq, hI, hs⟩
            have hrl := hq.1
            have c1 := hI.cl i m hi hm; have c2 := hI.cl m k hm hk
            have u1 := hI.up i m hi hm; have u2 := hI.up m k hm hk
            simp only [free] at u1 u2
            refine .block (.regSeq (.z zm (.z zg (.nil (.regSeq ?_)))))
            first | refine .q hs (q_load rfl Try.isAgg87 (hm := by repeat (first | exact .here | assumption | exact Mem.row (by omega) (by omega) | refine .there ?_ | refine Mem.app2 ?_)) (hv := by first | rfl | exact ptr_get (by omega) | exact Is_gt (by assumption) (by omega) (by omega) | exact Is_gi (by first | assumption | omega))) ?_ | refine .q hs (q_loadR rfl Try.isAgg87 (by assumption)) ?_
            refine .z zm ?_
            first | (refine .ixw hs Try.runUnderlying87 Try.sizeOf22 ?_; intro b73 o73 hc73) | refine .z (zix Try.runUnderlying87 Try.sizeOf22) ?_
            first | refine .q hs (q_load rfl Try.isAgg22 (hm := by repeat (first | exact .here | assumption | exact Mem.row (by omega) (by omega) | refine .there ?_ | refine Mem.app2 ?_)) (hv := by first | rfl | exact ptr_get (by omega) | exact Is_gt (by assumption) (by omega) (by omega) | exact Is_gi (by first | assumption | omega))) ?_ | refine .q hs (q_loadR rfl Try.isAgg22 (by assumption)) ?_
            refine .z zm ?_
            first | (refine .ixv hs Try.runUnderlying22 Try.sizeOf3 ?_; intro b76 o76 hc76) | refine .z (zix Try.runUnderlying22 Try.sizeOf3) ?_
            first | refine .q hs (q_load rfl Try.isAgg3 (hm := by repeat (first | exact .here | assumption | exact Mem.row (by omega) (by omega) | refine .there ?_ | refine Mem.app2 ?_)) (hv := by first | rfl | exact ptr_get (by omega) | exact Is_gt (by assumption) (by omega) (by omega) | exact Is_gi (by first | assumption | omega))) ?_ | refine .q hs (q_loadR rfl Try.isAgg3 (by assumption)) ?_
            refine .z zlss (.z zm ?_)
            refine .bifD (t' := 79) rfl (fun hb79 => ?_) (fun hb79 => ?_)
            · refine .gT rfl rfl ?_
              first | refine .q hs (q_load rfl Try.isAgg87 (hm := by repeat (first | exact .here | assumption | exact Mem.row (by omega) (by omega) | refine .there ?_ | refine Mem.app2 ?_)) (hv := by first | rfl | exact ptr_get (by omega) | exact Is_gt (by assumption) (by omega) (by omega) | exact Is_gi (by first | assumption | omega))) ?_ | refine .q hs (q_loadR rfl Try.isAgg87 (by assumption)) ?_
              refine .gT rfl rfl ?_
              refine .z zm ?_
              refine .gT rfl rfl ?_
              first | (refine .ixw hs Try.runUnderlying87 Try.sizeOf22 ?_; intro b82 o82 hc82) | refine .z (zix Try.runUnderlying87 Try.sizeOf22) ?_
              refine .gT rfl rfl ?_
              first | refine .q hs (q_load rfl Try.isAgg22 (hm := by repeat (first | exact .here | assumption | exact Mem.row (by omega) (by omega) | refine .there ?_ | refine Mem.app2 ?_)) (hv := by first | rfl | exact ptr_get (by omega) | exact Is_gt (by assumption) (by omega) (by omega) | exact Is_gi (by first | assumption | omega))) ?_ | refine .q hs (q_loadR rfl Try.isAgg22 (by assumption)) ?_
              refine .gT rfl rfl ?_
              refine .z zm ?_
              refine .gT rfl rfl ?_
              first | (refine .ixv hs Try.runUnderlying22 Try.sizeOf3 ?_; intro b85 o85 hc85) | refine .z (zix Try.runUnderlying22 Try.sizeOf3) ?_
              refine .gT rfl rfl ?_
              first | refine .q hs (q_load rfl Try.isAgg3 (hm := by repeat (first | exact .here | assumption | exact Mem.row (by omega) (by omega) | refine .there ?_ | refine Mem.app2 ?_)) (hv := by first | rfl | exact ptr_get (by omega) | exact Is_gt (by assumption) (by omega) (by omega) | exact Is_gi (by first | assumption | omega))) ?_ | refine .q hs (q_loadR rfl Try.isAgg3 (by assumption)) ?_
              refine .gT rfl rfl ?_
              refine .z zlss (.z zpT (.nil ?_))
              refine (.condD rfl (fun hc88 => ?_) (fun hc88 => ?_))
              · refine .draw mix rfl hs ?_; intro w hs
                first | refine .load (i := 0) hs rfl (by kernel_rfl) .none rfl Try.isAgg87 ?_ (by repeat (first | exact .here | assumption | exact Mem.row (by omega) (by omega) | refine .there ?_ | refine Mem.app2 ?_)) (by first | rfl | exact ptr_get (by omega) | exact Is_gt (by assumption) (by omega) (by omega) | exact Is_gi (by first | assumption | omega)) | refine .r (i := 0) hs rfl (by kernel_rfl) .none (q_loadR rfl Try.isAgg87 (by assumption)) ?_
                refine .z 1 rfl zm ?_
                first | (refine .ixw 2 rfl hs Try.runUnderlying87 Try.sizeOf22 ?_; intro b91 o91 hc91) | refine .z 2 rfl (zix Try.runUnderlying87 Try.sizeOf22) ?_
                first | refine .load (i := 3) hs rfl (by kernel_rfl) .none rfl Try.isAgg22 ?_ (by repeat (first | exact .here | assumption | exact Mem.row (by omega) (by omega) | refine .there ?_ | refine Mem.app2 ?_)) (by first | rfl | exact ptr_get (by omega) | exact Is_gt (by assumption) (by omega) (by omega) | exact Is_gi (by first | assumption | omega)) | refine .r (i := 3) hs rfl (by kernel_rfl) .none (q_loadR rfl Try.isAgg22 (by assumption)) ?_
                refine .z 4 rfl zm ?_
                first | refine .load (i := 5) hs rfl (by kernel_rfl) .none rfl Try.isAgg87 ?_ (by repeat (first | exact .here | assumption | exact Mem.row (by omega) (by omega) | refine .there ?_ | refine Mem.app2 ?_)) (by first | rfl | exact ptr_get (by omega) | exact Is_gt (by assumption) (by omega) (by omega) | exact Is_gi (by first | assumption | omega)) | refine .r (i := 5) hs rfl (by kernel_rfl) .none (q_loadR rfl Try.isAgg87 (by assumption)) ?_
                refine .z 6 rfl zm ?_
                first | (refine .ixw 7 rfl hs Try.runUnderlying87 Try.sizeOf22 ?_; intro b96 o96 hc96) | refine .z 7 rfl (zix Try.runUnderlying87 Try.sizeOf22) ?_
                first | refine .load (i := 8) hs rfl (by kernel_rfl) .none rfl Try.isAgg22 ?_ (by repeat (first | exact .here | assumption | exact Mem.row (by omega) (by omega) | refine .there ?_ | refine Mem.app2 ?_)) (by first | rfl | exact ptr_get (by omega) | exact Is_gt (by assumption) (by omega) (by omega) | exact Is_gi (by first | assumption | omega)) | refine .r (i := 8) hs rfl (by kernel_rfl) .none (q_loadR rfl Try.isAgg22 (by assumption)) ?_
                refine .z 9 rfl zm ?_
                first | (refine .ixv 10 rfl hs Try.runUnderlying22 Try.sizeOf3 ?_; intro b99 o99 hc99) | refine .z 10 rfl (zix Try.runUnderlying22 Try.sizeOf3) ?_
                first | refine .load (i := 11) hs rfl (by kernel_rfl) .none rfl Try.isAgg3 ?_ (by repeat (first | exact .here | assumption | exact Mem.row (by omega) (by omega) | refine .there ?_ | refine Mem.app2 ?_)) (by first | rfl | exact ptr_get (by omega) | exact Is_gt (by assumption) (by omega) (by omega) | exact Is_gi (by first | assumption | omega)) | refine .r (i := 11) hs rfl (by kernel_rfl) .none (q_loadR rfl Try.isAgg3 (by assumption)) ?_
                first | refine .load (i := 12) hs rfl (by kernel_rfl) .none rfl Try.isAgg87 ?_ (by repeat (first | exact .here | assumption | exact Mem.row (by omega) (by omega) | refine .there ?_ | refine Mem.app2 ?_)) (by first | rfl | exact ptr_get (by omega) | exact Is_gt (by assumption) (by omega) (by omega) | exact Is_gi (by first | assumption | omega)) | refine .r (i := 12) hs rfl (by kernel_rfl) .none (q_loadR rfl Try.isAgg87 (by assumption)) ?_
                refine .z 13 rfl zm ?_
                first | (refine .ixw 14 rfl hs Try.runUnderlying87 Try.sizeOf22 ?_; intro b103 o103 hc103) | refine .z 14 rfl (zix Try.runUnderlying87 Try.sizeOf22) ?_
                first | refine .load (i := 15) hs rfl (by kernel_rfl) .none rfl Try.isAgg22 ?_ (by repeat (first | exact .here | assumption | exact Mem.row (by omega) (by omega) | refine .there ?_ | refine Mem.app2 ?_)) (by first | rfl | exact ptr_get (by omega) | exact Is_gt (by assumption) (by omega) (by omega) | exact Is_gi (by first | assumption | omega)) | refine .r (i := 15) hs rfl (by kernel_rfl) .none (q_loadR rfl Try.isAgg22 (by assumption)) ?_
                refine .z 16 rfl zm ?_
                first | (refine .ixv 17 rfl hs Try.runUnderlying22 Try.sizeOf3 ?_; intro b106 o106 hc106) | refine .z 17 rfl (zix Try.runUnderlying22 Try.sizeOf3) ?_
                first | refine .load (i := 18) hs rfl (by kernel_rfl) .none rfl Try.isAgg3 ?_ (by repeat (first | exact .here | assumption | exact Mem.row (by omega) (by omega) | refine .there ?_ | refine Mem.app2 ?_)) (by first | rfl | exact ptr_get (by omega) | exact Is_gt (by assumption) (by omega) (by omega) | exact Is_gi (by first | assumption | omega)) | refine .r (i := 18) hs rfl (by kernel_rfl) .none (q_loadR rfl Try.isAgg3 (by assumption)) ?_
                first | refine .load (i := 19) hs rfl (by kernel_rfl) .none rfl Try.isAgg87 ?_ (by repeat (first | exact .here | assumption | exact Mem.row (by omega) (by omega) | refine .there ?_ | refine Mem.app2 ?_)) (by first | rfl | exact ptr_get (by omega) | exact Is_gt (by assumption) (by omega) (by omega) | exact Is_gi (by first | assumption | omega)) | refine .r (i := 19) hs rfl (by kernel_rfl) .none (q_loadR rfl Try.isAgg87 (by assumption)) ?_
                refine .z 20 rfl zm ?_
                first | (refine .ixw 21 rfl hs Try.runUnderlying87 Try.sizeOf22 ?_; intro b110 o110 hc110) | refine .z 21 rfl (zix Try.runUnderlying87 Try.sizeOf22) ?_
                first | refine .load (i := 22) hs rfl (by kernel_rfl) .none rfl Try.isAgg22 ?_ (by repeat (first | exact .here | assumption | exact Mem.row (by omega) (by omega) | refine .there ?_ | refine Mem.app2 ?_)) (by first | rfl | exact ptr_get (by omega) | exact Is_gt (by assumption) (by omega) (by omega) | exact Is_gi (by first | assumption | omega)) | refine .r (i := 22) hs rfl (by kernel_rfl) .none (q_loadR rfl Try.isAgg22 (by assumption)) ?_
                refine .z 23 rfl zm ?_
                first | (refine .ixv 24 rfl hs Try.runUnderlying22 Try.sizeOf3 ?_; intro b113 o113 hc113) | refine .z 24 rfl (zix Try.runUnderlying22 Try.sizeOf3) ?_
                first | refine .load (i := 25) hs rfl (by kernel_rfl) .none rfl Try.isAgg3 ?_ (by repeat (first | exact .here | assumption | exact Mem.row (by omega) (by omega) | refine .there ?_ | refine Mem.app2 ?_)) (by first | rfl | exact ptr_get (by omega) | exact Is_gt (by assumption) (by omega) (by omega) | exact Is_gi (by first | assumption | omega)) | refine .r (i := 25) hs rfl (by kernel_rfl) .none (q_loadR rfl Try.isAgg3 (by assumption)) ?_
                refine .z 26 rfl zadd ?_; refine .z 27 rfl zmin ?_
                first | (refine .ixv 28 rfl hs Try.runUnderlying22 Try.sizeOf3 ?_; intro b117 o117 hc117) | refine .z 28 rfl (zix Try.runUnderlying22 Try.sizeOf3) ?_
                refine .e1 (i := 29) (by kernel_rfl) rfl rfl .none hs ?_ (hp := by repeat (first | exact .nil | refine .cons (by first | exact HLe.bot _ | exact HLe.refl _ | assumption) (by first | exact .nil | (refine Sub.one ?_; repeat (first | exact .here | assumption | exact Mem.row (by omega) (by omega) | refine .there ?_ | refine Mem.app2 ?_))) ?_))
                refine .store hs rfl rfl Try.sizeOf3 ?_ (.there (Upd.row _ (by omega) (by omega))) (blt_Is (by rw [hq.2 _ hi]; exact hk)) (Is_set _ _ _); intro w hs
                refine .go ?_
                refine .done (by kernel_rfl) hs ?_ (hp := by repeat (first | exact .nil | refine .cons (by first | exact HLe.bot _ | exact HLe.refl _ | assumption) (by first | exact .nil | (refine Sub.one ?_; repeat (first | exact .here | assumption | exact Mem.row (by omega) (by omega) | refine .there ?_ | refine Mem.app2 ?_))) ?_))
                refine nB (nT ?_)
                exact .mk ⟨rfl, rfl, _, hq.set hi _, by rw [gt_set hq hi hk]; exact hI.stepS hinn hn65 ⟨p0, hp0⟩ hm hi hk (fun a b h => by omega) (by simp only [free]; omega) (by simp only [free]; omega), hs⟩
              · refine .skip ?_
                refine nB (nT ?_)
                exact .mk ⟨rfl, rfl, rs, hq, hI.skip hcb hm (P := fun a b => a = i ∧ b = k) (fun a b h => by omega) (fun a b _ _ h => by obtain ⟨rfl, rfl⟩ := h; exact .inr (by simp only [free]; omega)), hs⟩
            · refine .gFs 8 8 true rfl rfl rfl ?_
              refine .z zpF (.nil ?_)
              refine (.condF rfl rfl ?_)
              refine .skip ?_
              refine nB (nT ?_)
              exact .mk ⟨rfl, rfl, rs, hq, hI.skip hcb hm (P := fun a b => a = i ∧ b = k) (fun a b h => by omega) (fun a b _ _ h => by obtain ⟨rfl, rfl⟩ := h; exact .inl (by simp only [free]; omega)), hs⟩
          · rintro ds fr w ⟨rfl, rfl, rs, hq, hI, hs⟩
            refine nB (nT ?_)
            exact .mk ⟨rfl, rfl, rs, hq, hI.skip hcb hm (P := fun a b => a = i ∧ n ≤ b) (fun a b h => by omega) (fun a b _ hb h => by omega), hs⟩
        · rintro ds fr w ⟨rfl, rfl, rs, hq, hI, hs⟩
          replace hI : WayI n s.arcs m (fun _ _ => True) (gt rs) := hI.skip hcb hm (P := fun a _ => n ≤ a) (fun a b h => by omega) (fun a b ha _ h => by omega)
          refine nB (nT ?_)
          exact .mk ⟨rfl, rfl, rs, hq, fun h => hI.next hcb h hn65, fun h => hI.done hcb h.symm hn65, hs⟩
      · rintro ds fr w ⟨rfl, rfl, rs, hq, -, hT, hs⟩
        replace hT := hT rfl
        refine nT ?_
        refine .regSeq ?_
        first | refine .q hs (q_load rfl Try.isAgg87 (hm := by repeat (first | exact .here | assumption | exact Mem.row (by omega) (by omega) | refine .there ?_ | refine Mem.app2 ?_)) (hv := by first | rfl | exact ptr_get (by omega) | exact Is_gt (by assumption) (by omega) (by omega) | exact Is_gi (by first | assumption | omega))) ?_ | refine .q hs (q_loadR rfl Try.isAgg87 (by assumption)) ?_
        refine .z zg (.nil ?_)
        refine .ret ?_
        obtain ⟨H3, g1, g2, hs⟩ := table_publish hq hbl (by omega) hs
        exact Fin.retD [D] [] hs fun w hs => ⟨_, results1 Try.results137 rfl, H3, rs, hle1.trans (hle2.trans g1), g2, hq, hT, hs.out⟩
theorem bound_Close_spec {H : Heap} {w : World} {σ : List Ent} {v : Value} {s : Syst} (hs : St H w σ) (hr : RSy H v s) :
    Cl Try.prog 52 [v] w fun u w' => ∃ H1 vt e, HLe H H1 ∧ u = .tuple #[vt, I e] ∧ ((s.check ≠ 0 ∧ e = s.check ∧ vt = .slice none 0 0) ∨ (s.Ok ∧ ¬ s.Sound ∧ e = 23 ∧ vt = .slice none 0 0) ∨ (s.Ok ∧ s.Sound ∧ e = 0 ∧ ∃ rs, RT H1 vt rs ∧ Sq s.n rs ∧ WaysT s.n s.arcs (gt rs))) ∧ St H1 w' σ := by
  obtain ⟨ul, rfl, hl⟩ := hr
  obtain ⟨al, cl, rfl⟩ := RL.shape hl
  refine Cl.of Try.func52 rfl Try.ntmps52 (by simp) (args_cons (k := 0) rfl (args0)) ?_
  refine .regSeq ?_
  refine .o (.box hs rfl rfl ?_); intro b1 w hs
  refine .z zg (.z zg (.nil (.seq (.regSeq (.y hs (zls [_, _] Try.isAgg32 Try.sizeOf32) ?_)))))
  refine .o (.call Try.call136 rfl (bound_ready_spec (s := s) hs ⟨_, rfl, hl⟩) ?_); rintro _ w ⟨H1, e, hle1, rfl, hR, hs⟩
  refine .z zg (.nil (.regSeq (.z zm (.z zneq (.nil ?_)))))
  refine (.condN rfl (fun hc8 => ?_) (fun hc8 => ?_))
  · refine .regSeq (.z zm (.z zg (.z zg (.nil ?_))))
    refine .ret (rT (Fin.ret2 Try.results52 rfl rfl ?_))
    exact ⟨H1, _, _, hle1, rfl, by
      cases hR with
      | bad h => exact .inl ⟨h, rfl, rfl⟩
      | clash h h1 => exact .inr (.inl ⟨h, h1, rfl, rfl⟩)
      | ok _ _ => exact (hc8 rfl).elim, hs.out⟩
  · refine .skip ?_
    refine nT ?_
    refine .regSeq (.y hs (zls [_, _] Try.isAgg32 Try.sizeOf32) ?_)
    obtain ⟨hok, hsd⟩ : s.Ok ∧ s.Sound := by
      generalize hz : e = z at hR
      cases hR with
      | bad h => exact (h (by omega)).elim
      | clash h h1 => omega
      | ok h h1 => exact ⟨h, h1⟩
    refine .o (.call Try.call137 rfl (bound_matrix_spec (s := s) hs ⟨_, rfl, hl.mono hle1⟩ hok hsd) ?_); rintro v11 w ⟨H2, rs, hle2, hRT, hSq, hWT, hs⟩
    obtain ⟨at', ct, rfl⟩ := hRT.shape
    refine .z zg (.z zg (.nil ?_))
    refine .ret (Fin.ret2 Try.results52 rfl rfl ?_)
    exact ⟨H2, _, _, hle1.trans hle2, rfl, .inr (.inr ⟨hok, hsd, rfl, rs, hRT, hSq, hWT⟩), hs.out⟩
end Go.Proofs.Ytiiokdeehlfeeaa

namespace Go.Proofs.Ytiiokdeehlfeeaa
open Go.MW
def pkI (l : List Int) (i : Int) : Int := if l = [] then 0 else gi l (i.tmod l.length).toNat
theorem pickI_pk (l : List Int) (i : Int) {n : Int} (hn : 1 ≤ n) : pickI l i n = pkI l i % n := by
  unfold pickI pkI
  by_cases h : l = []
  · rw [if_pos (.inl h), if_pos h]; simp
  · rw [if_neg (fun g => g.elim h (fun g => by omega)), if_neg h]
theorem bound_pick_spec {H : Heap} {w : World} {σ : List Ent} {v : Value} {l : List Int} {i : Int} (hs : St H w σ) (hr : RI H v l) (hi : 0 ≤ i) : Cl Try.prog 138 [v, I i] w fun v w' => v = I (pkI l i) ∧ St H w' σ := by
  obtain ⟨a, c, rfl⟩ := RI.shape hr
  have hlen := (RI.len hr).2.2
  refine Cl.of Try.func138 rfl Try.ntmps138 (by simp) (args_cons (k := 0) rfl (args_cons (k := 1) rfl (args0))) ?_
  refine .regSeq (.z zg (.nil (.seq (.regSeq (.z zm (.z (zlen Try.runUnderlying22) (.z zeql (.nil ?_))))))))
  refine (.condD rfl (fun hc7 => ?_) (fun hc7 => ?_))
  · refine .regSeq (.z zg (.nil ?_))
    refine .ret (rT (Fin.ret1 Try.results138 rfl ?_))
    exact ⟨by rw [show pkI l i = 0 by unfold pkI; rw [if_pos (List.length_eq_zero_iff.1 (by omega))]], hs⟩
  · refine .skip ?_
    refine nT ?_
    refine .regSeq (.z zm (.z zm (.z zm (.z (zlen Try.runUnderlying22) ?_))))
    have hl0 : 0 < l.length := by omega
    have h1 := Int.tmod_nonneg (a := i) (l.length : Int) hi
    have h2 := Int.tmod_lt_of_pos i (b := (l.length : Int)) (by omega)
    have hx := gi_get (l := l) (i := (i.tmod (l.length : Int)).toNat) (by omega)
    refine .z zrem ?_
    refine .ixY hs hr rfl rfl Try.runUnderlying22 Try.sizeOf3 hx (by omega) ?_; intro b13 o13 hc13
    refine .q hs (q_loadR rfl Try.isAgg3 hc13) ?_
    refine .z zg (.nil ?_)
    refine .ret (Fin.ret1 Try.results138 rfl ?_)
    exact ⟨by unfold pkI; rw [if_neg (fun h => by rw [h] at hl0; exact Nat.lt_irrefl _ hl0)], hs⟩
theorem choose_TT {lo hi p : Int} (h1 : lo ≠ -free) (h2 : hi ≠ free) : chooseI lo hi p = lo + p := by
  unfold chooseI; rw [if_pos h1, if_pos h2]
theorem choose_TF {lo p : Int} (h1 : lo ≠ -free) : chooseI lo free p = lo := by
  unfold chooseI; rw [if_pos h1, if_neg (by simp)]
theorem choose_FT {hi p : Int} (h2 : hi ≠ free) : chooseI (-free) hi p = hi := by
  unfold chooseI; rw [if_neg (by simp), if_pos h2]
theorem choose_FF {p : Int} : chooseI (-free) free p = 0 := by
  unfold chooseI; rw [if_neg (by simp), if_neg (by simp)]
set_option maxHeartbeats 4000000 in
theorem bound_Point_spec {H : Heap} {w : World} {σ : List Ent} {v vp : Value} {s : Syst} {picks : List Int} (hs : St H w σ) (hr : RSy H v s) (hp : RI H vp picks) :
    Cl Try.prog 53 [v, vp] w fun u w' => ∃ H1 vx x e, HLe H H1 ∧ u = .tuple #[vx, I e] ∧ RI H1 vx x ∧ PointR s picks x e ∧ St H1 w' σ := by
  obtain ⟨ul, rfl, hl⟩ := hr
  obtain ⟨al, cl, rfl⟩ := RL.shape hl
  obtain ⟨ap, cp, rfl⟩ := RI.shape hp
  refine Cl.of Try.func53 rfl Try.ntmps53 (by simp) (args_cons (k := 0) rfl (args_cons (k := 1) rfl (args0))) ?_
  refine .regSeq ?_
  refine .o (.box hs rfl rfl ?_); intro b2 w hs
  refine .z zg (.z zg (.nil (.seq (.regSeq (.y hs (zls [_, _] Try.isAgg32 Try.sizeOf32) ?_)))))
  refine .o (.call Try.call136 rfl (bound_ready_spec (s := s) hs ⟨_, rfl, hl⟩) ?_); rintro _ w ⟨H0, e, hle0, rfl, hR, hs⟩
  refine .z zg (.nil (.regSeq (.z zm (.z zneq (.nil ?_)))))
  refine (.condN rfl (fun hc23 => ?_) (fun hc23 => ?_))
  · refine .regSeq (.z zm (.z zg (.z zg (.nil ?_))))
    refine .ret (rT (Fin.ret2 Try.results53 rfl rfl ?_))
    exact ⟨H0, _, [], _, hle0, rfl, RS.nil H0 1 none 0, by
      cases hR with
      | bad h => exact .bad h
      | clash h h1 => exact .clash h h1
      | ok _ _ => exact (hc23 rfl).elim, hs.out⟩
  · refine .skip ?_
    refine nT ?_
    refine .regSeq (.y hs (zls [_, _] Try.isAgg32 Try.sizeOf32) ?_)
    obtain ⟨hok, hsd⟩ : s.Ok ∧ s.Sound := by
      generalize hz : e = z at hR
      cases hR with
      | bad h => exact (h (by omega)).elim
      | clash h h1 => omega
      | ok h h1 => exact ⟨h, h1⟩
    refine .o (.call Try.call137 rfl (bound_matrix_spec (s := s) hs ⟨_, rfl, hl.mono hle0⟩ hok hsd) ?_); rintro v26 w ⟨H1, rs, hle1, hRT, hSq, hWT, hs⟩
    replace hle1 := hle0.trans hle1
    obtain ⟨at', ct, rfl⟩ := hRT.shape
    have hTS := hok.tabS hsd hWT
    have hrl := hSq.1
    have hm0 := hok.m0
    have hm1 := hok.m1
    have hnn : (s.n : Int) = s.many + 1 := by simp only [Syst.n]; omega
    refine .z zg (.nil (.regSeq ?_))
    refine .o (.buildSlice (cells := [_]) hs bls_sl_int_1 rfl rfl ?_); intro b27 w hs
    refine .z zg (.nil (.seq (.regSeq (.z zg (.nil (.block ?_))))))
    refine .loop (fun p : List Int × Value => ⟨129, [], [(9, I (p.1.length : Int)), (8, p.2), (7, .slice at' rs.length ct), (2, .pointer (some ⟨b2, 0, none⟩)), (1, .slice ap picks.length cp)]⟩)
      (fun p w => PtsR (gt rs) (pickI picks) p.1 ∧ p.1.length ≤ s.n ∧ ∃ en, OwnS 1 p.2 (Is p.1) en ∧ St H1 w (en :: .blk b2 [I s.many, .slice al s.lims.length cl] :: σ))
      (fun p => s.n - p.1.length) ([0], .slice (some ⟨b27, 0, none⟩) 1 1) (by repeat (first | exact .nil rfl rfl | refine .cons rfl ?_))
      ⟨.start, s.n_pos, _, .full (len := 1) rfl, hs⟩ ?_
    rintro ⟨X, v8⟩ w ⟨hP, hXn, en, hO, hs⟩
    dsimp only at hP hXn hO ⊢
    have hI := hP.inv (fun i n hn => pickI_bd picks i hn) hTS hXn
    have hX0 := hI.l0
    have hO1 := hO
    obtain ⟨b, cap, sp, rfl, rfl, hcap⟩ := hO.some hX0
    refine .seq (.regSeq (.z zm (.z (zfa fa_api_System_0) (.y hs (zld Try.isAgg3) (.z zleq (.nil ?_))))))
    refine (.condD rfl (fun hc31 => ?_) (fun hc31 => ?_))
    · refine .skip ?_
      refine nT ?_
      refine .cut (fun fs w => ∃ Y v8 en8, FSub fs ⟨129, [], [(9, I (X.length : Int)), (8, v8), (7, .slice at' rs.length ct), (2, .pointer (some ⟨b2, 0, none⟩)), (1, .slice ap picks.length cp)]⟩ ∧ PtsR (gt rs) (pickI picks) Y ∧ Y.length = X.length + 1 ∧ OwnS 1 v8 (Is Y) en8 ∧ St H1 w (en8 :: .blk b2 [I s.many, .slice al s.lims.length cl] :: σ)) ?_ ?_
      · refine .block (.regSeq (.z zg (.z zg (.z zg (.z zg (.nil ?_))))))
        have hXl : X.length < s.n := by omega
        refine .seq (.regSeq (.z zm (.z (zlen Try.runUnderlying22) (.z zm (.nil ?_)))))
        refine .for (N := X.length) (J := fun k fr w => ∃ lo hi low high, fr = [(10, I lo), (11, I hi), (12, .bool low), (13, .bool high), (34, .slice (some ⟨b, 0, none⟩) X.length cap), (9, I (X.length : Int)), (8, .slice (some ⟨b, 0, none⟩) X.length cap), (7, .slice at' rs.length ct), (2, .pointer (some ⟨b2, 0, none⟩)), (1, .slice ap picks.length cp)] ∧   (low = true → -100000000 ≤ lo ∧ lo ≤ 100000000) ∧ (high = true → -100000000 ≤ hi ∧ hi ≤ 100000000) ∧ LoI (gt rs) X X.length k (bif low then lo else -free) ∧ HiI (gt rs) X X.length k (bif high then hi else free) ∧ St H1 w (.blk b (Is X ++ sp) :: .blk b2 [I s.many, .slice al s.lims.length cl] :: σ)) (by omega) ?_ ?_ ?_
        · exact .mk ⟨0, 0, false, false, rfl, fun h => (by cases h), fun h => (by cases h), .start _ _ _, .start _ _ _, hs⟩
        · rintro k fr w hk ⟨lo, hi, low, high, rfl, hlob, hhib, hLo, hHi, hs⟩
          have hXk := hI.bd k hk
          have hn65 := hTS.n65
          have hr1 : (gr rs X.length).length = s.n := hSq.2 _ hXl
          have hr2 : (gr rs k).length = s.n := hSq.2 _ (by omega)
          have hb1 : gi (gr rs X.length) k ≠ 1000000000 → -1400000 ≤ gi (gr rs X.length) k ∧ gi (gr rs X.length) k ≤ 1400000 := fun h => hTS.bd X.length k hXl (by omega) h
          have hb2 : gi (gr rs k) X.length ≠ 1000000000 → -1400000 ≤ gi (gr rs k) X.length ∧ gi (gr rs k) X.length ≤ 1400000 := fun h => hTS.bd k X.length (by omega) hXl h
          refine .block (.regSeq (.z zm (.z (zix Try.runUnderlying22 Try.sizeOf3) ?_)))
          refine .q hs (q_load rfl Try.isAgg3 (hv := Is_gi_sp hk sp)) ?_
          refine .z zg (.z zg (.nil ?_))
          refine .cut (fun fs w => ∃ lo' low', FSub fs ⟨129, [], [(10, I lo'), (12, .bool low'), (14, I (k : Int)), (15, I (gi X k)), (36, I (k : Int)), (35, I (X.length : Int)), (11, I hi), (13, .bool high), (34, .slice (some ⟨b, 0, none⟩) X.length cap), (9, I (X.length : Int)), (8, .slice (some ⟨b, 0, none⟩) X.length cap), (7, .slice at' rs.length ct), (2, .pointer (some ⟨b2, 0, none⟩)), (1, .slice ap picks.length cp)]⟩ ∧ (low' = true → -100000000 ≤ lo' ∧ lo' ≤ 100000000) ∧ LoI (gt rs) X X.length (k + 1) (bif low' then lo' else -free) ∧ St H1 w (.blk b (Is X ++ sp) :: .blk b2 [I s.many, .slice al s.lims.length cl] :: σ)) ?_ ?_
          · refine .regSeq (.z zm (.z zm ?_))
            refine .ixT hs hRT rfl rfl Try.runUnderlying87 Try.sizeOf22 (show X.length < rs.length by omega) rfl ?_; intro b43 o43 a43 c43 hc43 hR43
            refine .q hs (q_loadR rfl Try.isAgg22 hc43) ?_
            refine .z zm ?_
            refine .ixY hs hR43 rfl rfl Try.runUnderlying22 Try.sizeOf3 (gi_get (l := gr rs X.length) (i := k) (by omega)) rfl ?_; intro b46 o46 hc46
            refine .q hs (q_loadR rfl Try.isAgg3 hc46) ?_
            refine .z zg (.nil (.regSeq (.z zm (.z zneq (.z zm ?_)))))
            refine .bifN (t' := 50) rfl (fun hb50 => ?_) (fun hb50 => ?_)
            · refine .gT rfl rfl ?_
              refine .z zm ?_
              refine .gT rfl rfl ?_
              refine .z znot ?_
              refine .gT rfl rfl ?_
              refine .z zm ?_
              refine .bif (t' := 53) rfl (fun hb53 => ?_) (fun hb53 => ?_)
              · refine .gFs 5 5 false rfl rfl rfl ?_
                refine .gT rfl rfl ?_
                refine .z zpT (.z zpT (.nil ?_))
                refine (.condT rfl rfl ?_)
                refine .region (.z zm (.z zm (.z zsub (.z zg (.z zg (.nil ?_))))))
                refine nT ?_
                obtain rfl : low = false := by simpa using hb53
                have hb1' := hb1 hb50
                exact ⟨gi X k - gi (gr rs X.length) k, true, by repeat (first | exact .nil rfl rfl | refine .cons rfl ?_), fun _ => by omega, hLo.put' hb50 (by show -1000000000 ≤ gi X k - gi (gr rs X.length) k; omega) (by show gi X k - gi (gr rs X.length) k = max (-1000000000) (gi X k - gi (gr rs X.length) k); omega), hs⟩
              · refine .gT rfl rfl ?_
                refine .z zm ?_
                refine .gT rfl rfl ?_
                refine .z zm ?_
                refine .gT rfl rfl ?_
                refine .z zsub ?_
                refine .gT rfl rfl ?_
                refine .z zm ?_
                refine .gT rfl rfl ?_
                refine .z zgtr ?_
                refine .gT rfl rfl ?_
                refine .z zpF (.z zpT (.nil ?_))
                refine (.condD rfl (fun hc60 => ?_) (fun hc60 => ?_))
                · refine .region (.z zm (.z zm (.z zsub (.z zg (.z zg (.nil ?_))))))
                  refine nT ?_
                  obtain rfl : low = true := by simpa using hb53
                  have hb1' := hb1 hb50
                  exact ⟨gi X k - gi (gr rs X.length) k, true, by repeat (first | exact .nil rfl rfl | refine .cons rfl ?_), fun _ => by omega, hLo.put' hb50 (by show -1000000000 ≤ gi X k - gi (gr rs X.length) k; omega) (by show gi X k - gi (gr rs X.length) k = max lo (gi X k - gi (gr rs X.length) k); omega), hs⟩
                · refine .skip ?_
                  refine nT ?_
                  obtain rfl : low = true := by simpa using hb53
                  have hb1' := hb1 hb50
                  exact ⟨lo, true, by repeat (first | exact .nil rfl rfl | refine .cons rfl ?_), hlob, hLo.put' hb50 (by show -1000000000 ≤ gi X k - gi (gr rs X.length) k; omega) (by show lo = max lo (gi X k - gi (gr rs X.length) k); omega), hs⟩
            · refine .gFs 3 2 true rfl rfl rfl ?_
              refine .gFs 5 5 false rfl rfl rfl ?_
              refine .gFs 1 2 true rfl rfl rfl ?_
              refine .z zpF (.nil ?_)
              refine (.condF rfl rfl ?_)
              refine .skip ?_
              refine nT ?_
              exact ⟨lo, low, by repeat (first | exact .nil rfl rfl | refine .cons rfl ?_), hlob, hLo.skip hb50, hs⟩
          · rintro fs w ⟨lo', low', hfs, hlob', hLo', hs⟩
            refine WE.sub ?_ hfs
            refine .regSeq (.z zm (.z zm ?_))
            refine .ixT hs hRT rfl rfl Try.runUnderlying87 Try.sizeOf22 (show k < rs.length by omega) rfl ?_; intro b66 o66 a66 c66 hc66 hR66
            refine .q hs (q_loadR rfl Try.isAgg22 hc66) ?_
            refine .z zm ?_
            refine .ixY hs hR66 rfl rfl Try.runUnderlying22 Try.sizeOf3 (gi_get (l := gr rs k) (i := X.length) (by omega)) rfl ?_; intro b69 o69 hc69
            refine .q hs (q_loadR rfl Try.isAgg3 hc69) ?_
            refine .z zg (.nil (.regSeq (.z zm (.z zneq (.z zm ?_)))))
            refine .bifN (t' := 73) rfl (fun hb73 => ?_) (fun hb73 => ?_)
            · refine .gT rfl rfl ?_
              refine .z zm ?_
              refine .gT rfl rfl ?_
              refine .z znot ?_
              refine .gT rfl rfl ?_
              refine .z zm ?_
              refine .bif (t' := 76) rfl (fun hb76 => ?_) (fun hb76 => ?_)
              · refine .gFs 5 5 false rfl rfl rfl ?_
                refine .gT rfl rfl ?_
                refine .z zpT (.z zpT (.nil ?_))
                refine (.condT rfl rfl ?_)
                refine .region (.z zm (.z zm (.z zadd (.z zg (.z zg (.nil ?_))))))
                refine nB (nT ?_)
                obtain rfl : high = false := by simpa using hb76
                have hb2' := hb2 hb73
                exact .mk ⟨lo', gi X k + gi (gr rs k) X.length, low', true, rfl, hlob', fun _ => by omega, hLo', hHi.put' hb73 (by show gi X k + gi (gr rs k) X.length ≤ 1000000000; omega) (by show gi X k + gi (gr rs k) X.length = min 1000000000 (gi X k + gi (gr rs k) X.length); omega), hs⟩
              · refine .gT rfl rfl ?_
                refine .z zm ?_
                refine .gT rfl rfl ?_
                refine .z zm ?_
                refine .gT rfl rfl ?_
                refine .z zadd ?_
                refine .gT rfl rfl ?_
                refine .z zm ?_
                refine .gT rfl rfl ?_
                refine .z zlss ?_
                refine .gT rfl rfl ?_
                refine .z zpF (.z zpT (.nil ?_))
                refine (.condD rfl (fun hc83 => ?_) (fun hc83 => ?_))
                · refine .region (.z zm (.z zm (.z zadd (.z zg (.z zg (.nil ?_))))))
                  refine nB (nT ?_)
                  obtain rfl : high = true := by simpa using hb76
                  have hb2' := hb2 hb73
                  exact .mk ⟨lo', gi X k + gi (gr rs k) X.length, low', true, rfl, hlob', fun _ => by omega, hLo', hHi.put' hb73 (by show gi X k + gi (gr rs k) X.length ≤ 1000000000; omega) (by show gi X k + gi (gr rs k) X.length = min hi (gi X k + gi (gr rs k) X.length); omega), hs⟩
                · refine .skip ?_
                  refine nB (nT ?_)
                  obtain rfl : high = true := by simpa using hb76
                  have hb2' := hb2 hb73
                  exact .mk ⟨lo', hi, low', true, rfl, hlob', hhib, hLo', hHi.put' hb73 (by show gi X k + gi (gr rs k) X.length ≤ 1000000000; omega) (by show hi = min hi (gi X k + gi (gr rs k) X.length); omega), hs⟩
            · refine .gFs 3 2 true rfl rfl rfl ?_
              refine .gFs 5 5 false rfl rfl rfl ?_
              refine .gFs 1 2 true rfl rfl rfl ?_
              refine .z zpF (.nil ?_)
              refine (.condF rfl rfl ?_)
              refine .skip ?_
              refine nB (nT ?_)
              exact .mk ⟨lo', hi, low', high, rfl, hlob', hhib, hLo', hHi.skip hb73, hs⟩
        · rintro fr w ⟨lo, hi, low, high, rfl, hlob, hhib, hLo, hHi, hs⟩
          have hle := hI.le hTS hXl rfl hLo hHi
          simp only [free] at hle
          refine nT ?_
          refine .regSeq (.z zm (.z zm (.z zsub ?_)))
          refine .o (.call Try.call138 rfl (bound_pick_spec (i := (X.length : Int) - 1) hs (hp.mono hle1) (by omega)) ?_); rintro _ w ⟨rfl, hs⟩
          refine .z zg (.nil (.block (.regSeq (.z zm (.z zm ?_)))))
          refine .bif (t' := 97) rfl (fun hb97 => ?_) (fun hb97 => ?_)
          · refine .gT rfl rfl ?_
            refine .z zm (.z zpT (.z zg (.nil ?_)))
            refine (.cond rfl (fun hc95 => ?_) (fun hc95 => ?_))
            · refine .regSeq (.z zm (.z zm ?_))
              have hlo' : low = true := by simpa using hb97
              have hhi' : high = true := by simpa using hc95
              subst hlo'; subst hhi'
              have hlb := hlob rfl
              have hhb := hhib rfl
              simp only [cond_true] at hle
              have hle' := hle (by omega) (by omega)
              have hq1 := Int.tmod_lt_of_pos (pkI picks ((X.length : Int) - 1)) (b := hi - lo + 1) (by omega)
              have hq2 := Int.lt_tmod_of_pos (pkI picks ((X.length : Int) - 1)) (b := hi - lo + 1) (by omega)
              have hq3 := rem_emod (n := pkI picks ((X.length : Int) - 1)) (m := hi - lo + 1) (by omega)
              have hq4 := Int.emod_nonneg (pkI picks ((X.length : Int) - 1)) (b := hi - lo + 1) (by omega)
              have hq5 := Int.emod_lt_of_pos (pkI picks ((X.length : Int) - 1)) (b := hi - lo + 1) (by omega)
              refine .z zsub (.z zadd (.z zg (.nil (.region (.z zm (.z zm (.z zm (.z zm (.z zrem ?_)))))))))
              refine .z zm (.z zadd (.z zm (.z zrem (.z zadd ?_))))
              refine .o (.buildSlice (cells := [_]) hs bls_sl_int_1 rfl rfl ?_); intro b114 w hs
              refine .o (.append (ys := Is [lo + ((pkI picks ((X.length : Int) - 1)).tmod (hi - lo + 1) + (hi - lo + 1)).tmod (hi - lo + 1)]) hs app_sl_int_int rfl rfl hO1 (.own .here rfl rfl) (Is_cell _) (fun l' h => by simp at h; have := hTS.n65; omega) ?_); intro v115 en115 w hO2 hs
              rw [← List.map_append] at hO2
              have hz := hP.snoc hLo hHi
              simp only [cond_true] at hz
              rw [choose_TT (show lo ≠ -1000000000 by omega) (show hi ≠ 1000000000 by omega), pickI_pk picks _ (show 1 ≤ hi - lo + 1 by omega), ← hq3] at hz
              refine .z zg (.nil ?_)
              refine nB (nB (nT ?_))
              exact ⟨_, v115, en115, by repeat (first | exact .nil rfl rfl | refine .cons rfl ?_), hz, by simp, hO2, hs.sub (by repeat (first | exact Sub.refl _ | constructor | apply Sub.weaken))⟩
            · refine .regSeq (.z zm (.z zg (.nil ?_)))
              refine (.cond rfl (fun hc116 => ?_) (fun hc116 => ?_))
              · refine .region (.z zm (.z zm ?_))
                refine .o (.buildSlice (cells := [_]) hs bls_sl_int_1 rfl rfl ?_); intro b120 w hs
                refine .o (.append (ys := Is [lo]) hs app_sl_int_int rfl rfl hO1 (.own .here rfl rfl) (Is_cell _) (fun l' h => by simp at h; have := hTS.n65; omega) ?_); intro v115 en115 w hO2 hs
                rw [← List.map_append] at hO2
                refine .z zg (.nil ?_)
                refine nB (nB (nT ?_))
                obtain rfl : low = true := by simpa using hb97
                obtain rfl : high = false := by simpa using hc95
                have hlb := hlob rfl
                have hz := hP.snoc hLo hHi
                simp only [cond_true, cond_false] at hz
                rw [choose_TF (show lo ≠ -1000000000 by omega)] at hz
                exact ⟨_, v115, en115, by repeat (first | exact .nil rfl rfl | refine .cons rfl ?_), hz, by simp, hO2, hs.sub (by repeat (first | exact Sub.refl _ | constructor | apply Sub.weaken))⟩
              · refine .regSeq (.z zm (.z zg (.nil ?_)))
                refine (.cond rfl (fun hc122 => ?_) (fun hc122 => ?_))
                · refine .region (.z zm (.z zm ?_))
                  refine .o (.buildSlice (cells := [_]) hs bls_sl_int_1 rfl rfl ?_); intro b126 w hs
                  refine .o (.append (ys := Is [hi]) hs app_sl_int_int rfl rfl hO1 (.own .here rfl rfl) (Is_cell _) (fun l' h => by simp at h; have := hTS.n65; omega) ?_); intro v115 en115 w hO2 hs
                  rw [← List.map_append] at hO2
                  refine .z zg (.nil ?_)
                  refine nB (nB (nT ?_))
                  exfalso; have h1 : low = true := by simpa using hb97
                  have h2 : low = false := by simpa using hc116
                  rw [h1] at h2; cases h2
                · refine .region (.z zm ?_)
                  refine .o (.buildSlice (cells := [_]) hs bls_sl_int_1 rfl rfl ?_); intro b93 w hs
                  refine .o (.append (ys := Is [0]) hs app_sl_int_int rfl rfl hO1 (.own .here rfl rfl) (Is_cell _) (fun l' h => by simp at h; have := hTS.n65; omega) ?_); intro v115 en115 w hO2 hs
                  rw [← List.map_append] at hO2
                  refine .z zg (.nil ?_)
                  refine nB (nB (nT ?_))
                  exfalso; have h1 : low = true := by simpa using hb97
                  have h2 : low = false := by simpa using hc116
                  rw [h1] at h2; cases h2
          · refine .gFs 1 1 true rfl rfl rfl ?_
            refine .z zpF (.z zg (.nil ?_))
            refine (.condF rfl rfl ?_)
            refine .regSeq (.z zm (.z zg (.nil ?_)))
            refine (.cond rfl (fun hc116 => ?_) (fun hc116 => ?_))
            · refine .region (.z zm (.z zm ?_))
              refine .o (.buildSlice (cells := [_]) hs bls_sl_int_1 rfl rfl ?_); intro b120 w hs
              refine .o (.append (ys := Is [lo]) hs app_sl_int_int rfl rfl hO1 (.own .here rfl rfl) (Is_cell _) (fun l' h => by simp at h; have := hTS.n65; omega) ?_); intro v115 en115 w hO2 hs
              rw [← List.map_append] at hO2
              refine .z zg (.nil ?_)
              refine nB (nB (nT ?_))
              exfalso; have h1 : low = false := by simpa using hb97
              have h2 : low = true := by simpa using hc116
              rw [h1] at h2; cases h2
            · refine .regSeq (.z zm (.z zg (.nil ?_)))
              refine (.cond rfl (fun hc122 => ?_) (fun hc122 => ?_))
              · refine .region (.z zm (.z zm ?_))
                refine .o (.buildSlice (cells := [_]) hs bls_sl_int_1 rfl rfl ?_); intro b126 w hs
                refine .o (.append (ys := Is [hi]) hs app_sl_int_int rfl rfl hO1 (.own .here rfl rfl) (Is_cell _) (fun l' h => by simp at h; have := hTS.n65; omega) ?_); intro v115 en115 w hO2 hs
                rw [← List.map_append] at hO2
                refine .z zg (.nil ?_)
                refine nB (nB (nT ?_))
                obtain rfl : low = false := by simpa using hb97
                obtain rfl : high = true := by simpa using hc122
                have hhb := hhib rfl
                have hz := hP.snoc hLo hHi
                simp only [cond_true, cond_false] at hz
                rw [choose_FT (show hi ≠ 1000000000 by omega)] at hz
                exact ⟨_, v115, en115, by repeat (first | exact .nil rfl rfl | refine .cons rfl ?_), hz, by simp, hO2, hs.sub (by repeat (first | exact Sub.refl _ | constructor | apply Sub.weaken))⟩
              · refine .region (.z zm ?_)
                refine .o (.buildSlice (cells := [_]) hs bls_sl_int_1 rfl rfl ?_); intro b93 w hs
                refine .o (.append (ys := Is [0]) hs app_sl_int_int rfl rfl hO1 (.own .here rfl rfl) (Is_cell _) (fun l' h => by simp at h; have := hTS.n65; omega) ?_); intro v115 en115 w hO2 hs
                rw [← List.map_append] at hO2
                refine .z zg (.nil ?_)
                refine nB (nB (nT ?_))
                obtain rfl : low = false := by simpa using hb97
                obtain rfl : high = false := by simpa using hc122
                have hz := hP.snoc hLo hHi
                simp only [cond_false] at hz
                rw [choose_FF] at hz
                exact ⟨_, v115, en115, by repeat (first | exact .nil rfl rfl | refine .cons rfl ?_), hz, by simp, hO2, hs.sub (by repeat (first | exact Sub.refl _ | constructor | apply Sub.weaken))⟩
      · rintro fs w ⟨Y, v8, en8, hfs, hPY, hYl, hO2, hs⟩
        refine WE.sub ?_ hfs
        refine .region (.z zm (.z zadd (.z zg (.nil ?_))))
        refine nT ?_
        exact ⟨(Y, v8), .consI rfl (by simp [hYl]) (by repeat (first | exact .nil rfl rfl | refine .cons rfl ?_)), ⟨hPY, by dsimp only; omega, _, hO2, hs⟩, by dsimp only; omega⟩
    · refine .exit ?_
      refine xT (xT (xB (nT ?_)))
      refine .regSeq (.z zm (.z zg (.z zg (.nil ?_))))
      refine .ret (Fin.ret2 Try.results53 rfl rfl ?_)
      obtain ⟨H2, hle2, hRX, hs⟩ := OwnS.publishI hO1 (by have := hTS.n65; omega) hs .here
      exact ⟨H2, _, X, 0, hle1.trans hle2, rfl, hRX, .ok hok hsd ⟨gt rs, hWT, hP, by omega⟩, hs.out⟩
end Go.Proofs.Ytiiokdeehlfeeaa

namespace Go.Proofs.Ytiiokdeehlfeeaa
open Go.MW
theorem slices_Index_int {H : Heap} {w : World} {σ : List Ent} {v : Value} {ls : List Int} {x : Int} (hs : St H w σ) (hr : RI H v ls) :
    Cl Try.prog 198 [v, I x] w fun u w' => ∃ i, u = I i ∧ (0 ≤ i ↔ x ∈ ls) ∧ St H w' σ := by
  obtain ⟨a, c, rfl⟩ := RI.shape hr
  have hl := (RI.len hr).2.2
  refine Cl.of Try.func198 rfl Try.ntmps198 (by simp) (args_cons (k := 0) rfl (args_cons (k := 1) rfl (args0))) ?_
  refine .regSeq (.z zg (.nil (.seq (.regSeq (.z zm (.z (zlen Try.runUnderlying22) (.z zm (.nil ?_))))))))
  refine .for (N := ls.length) (J := fun k fr w => fr = [(1, I x), (0, .slice a ls.length c)] ∧ St H w σ ∧ ∀ j < k, ∀ y, ls[j]? = some y → ¬ x = y) (by omega) ?_ ?_ ?_
  · exact .mk ⟨rfl, hs, fun j hj => by omega⟩
  · rintro k fr w hk ⟨rfl, hs, hno⟩
    obtain ⟨y, hy⟩ := nth hk
    refine .block (.regSeq (.z zm (.z zg (.nil (.regSeq (.z zm (.z zm (.z zm ?_))))))))
    refine .ixY hs hr rfl rfl Try.runUnderlying22 Try.sizeOf3 hy rfl ?_; intro b14 o14 hc14
    refine .q hs (q_loadR rfl Try.isAgg3 hc14) ?_
    refine .z zeql (.nil ?_)
    refine (.condD rfl (fun hc16 => ?_) (fun hc16 => ?_))
    · refine .regSeq (.z zm (.z zg (.nil ?_)))
      refine .ret (rB (rT (rB (rT (Fin.ret1 Try.results198 rfl ?_)))))
      exact ⟨_, rfl, ⟨fun _ => by rw [hc16]; exact List.mem_of_getElem? hy, fun _ => by omega⟩, hs⟩
    · refine .skip ?_
      refine nB (nT ?_)
      exact .mk ⟨rfl, hs, upto_succ hno hy hc16⟩
  · rintro fr w ⟨rfl, hs, hno⟩
    refine nT ?_
    refine .regSeq (.z zg (.nil ?_))
    refine .ret (Fin.ret1 Try.results198 rfl ?_)
    exact ⟨_, rfl, ⟨fun h => by omega, fun h => by
      obtain ⟨j, hj⟩ := List.getElem?_of_mem h
      exact (hno j (List.getElem?_eq_some_iff.1 hj).1 x hj rfl).elim⟩, hs⟩
theorem slices_Contains_int {H : Heap} {w : World} {σ : List Ent} {v : Value} {ls : List Int} {x : Int} (hs : St H w σ) (hr : RI H v ls) :
    Cl Try.prog 153 [v, I x] w fun u w' => u = .bool (decide (x ∈ ls)) ∧ St H w' σ := by
  refine Cl.of Try.func153 rfl Try.ntmps153 (by simp) (args_cons (k := 0) rfl (args_cons (k := 1) rfl (args0))) ?_
  refine .regSeq (.z zg (.nil (.regSeq (.z zm (.z zm ?_)))))
  refine .o (.call Try.call198 rfl (slices_Index_int hs hr) ?_); rintro _ w ⟨i, rfl, hi, hs⟩
  refine .z zgeq (.z zg (.nil ?_))
  refine .ret (Fin.ret1 Try.results153 rfl ?_)
  exact ⟨by simp only [hi], hs⟩
set_option maxHeartbeats 1000000 in
theorem bound_only_spec {H : Heap} {w : World} {σ : List Ent} {v : Value} {s : Syst} {g : Nat} {cap : List Value} (q : Nat → Lim → Bool) (hs : St H w σ) (hr : RSy H v s) (hlen : s.lims.length ≤ 4398046510976) (hc : ∀ args w, (callFunc g args).run Try.prog w = .ok (.enter g args) w)
    (hp : ∀ w σ (k : Nat) (l : Lim), s.lims[k]? = some l → St H w σ → Cl Try.prog g ([I k, .agg l.c.toArray] ++ cap) w fun u w' => u = .bool (q k l) ∧ St H w' σ) :
    Cl Try.prog 154 [v, .func (.func g) #[] cap.toArray] w fun u w' => ∃ H1, HLe H H1 ∧ RSy H1 u ⟨s.many, pickTo q s.lims s.lims.length⟩ ∧ St H1 w' σ := by
  obtain ⟨ul, rfl, hl⟩ := hr
  obtain ⟨al, cl, rfl⟩ := RL.shape hl
  refine Cl.of Try.func154 rfl Try.ntmps154 (by simp) (args_cons (k := 0) rfl (args_cons (k := 1) rfl (args0))) ?_
  refine .regSeq ?_
  refine .o (.box hs rfl rfl ?_); intro b2 w hs
  refine .o (.alloc hs Try.zeroValue32 rfl ?_); intro b4 w hs
  refine .nil (.regSeq (.z (zfa fa_api_System_0) (.y hs (zld Try.isAgg3) (.z (zbd [_, _] bld_api_System) ?_))))
  refine .o (.alloc hs Try.zeroValue32 rfl ?_); intro b5 w hs
  refine .o (.stores (vs := [_, _]) hs rfl rfl Try.sizeOf32 ?_); intro w hs
  refine .nil (.seq (.regSeq (.z (zfa fa_api_System_1) (.y hs (zld Try.isAgg30) (.z (zlen Try.runUnderlying30) (.z zm (.nil ?_)))))))
  refine .for (N := s.lims.length) (J := fun k fr w => fr = [(12, .slice al s.lims.length cl), (1, .func (.func g) #[] cap.toArray), (5, .pointer (some ⟨b5, 0, none⟩)), (4, .pointer (some ⟨b4, 0, none⟩))] ∧ ∃ vL en, OwnS 4 vL (Lims (pickTo q s.lims k)) en ∧ St H w (.blk b5 [I s.many, vL] :: .blk b4 [I 0, .slice none 0 0] :: en :: σ)) (by omega) ?_ ?_ ?_
  · exact .mk ⟨rfl, _, _, .nil 4 none, hs.nul.sub (by repeat (first | exact Sub.refl _ | constructor | apply Sub.weaken))⟩
  · rintro k fr w hk ⟨rfl, vL, en, hO, hs⟩
    obtain ⟨x, hx⟩ := nth (l := s.lims) hk
    obtain ⟨aL, lL, cL, rfl, hL⟩ := hO.shape
    have hpl := pickTo_length q s.lims k
    refine .block (.regSeq (.z zm ?_))
    refine .ixX hs hl rfl rfl Try.runUnderlying30 Try.sizeOf100 hx rfl ?_; intro b17 o17 hc17
    refine .q hs (q_loadsR (vs := x.c) rfl Try.isAgg100 Try.sizeOf100 hc17) ?_
    refine .o (.alloc hs Try.zeroValue100 rfl ?_); intro b7 w hs
    refine .z zg ?_
    refine .o (.stores (vs := x.c) hs rfl rfl Try.sizeOf100 ?_); intro w hs
    refine .nil (.regSeq (.z zm (.z zm (.y hs (zls [_, _, _, _] Try.isAgg100 Try.sizeOf100) ?_))))
    refine .o (.callG (first := []) (cap := cap) rfl rfl hc (hp _ _ k x hx hs) ?_); rintro _ w ⟨rfl, hs⟩
    refine .nil ?_
    refine (.cond rfl (fun hc22 => ?_) (fun hc22 => ?_))
    · refine .region (.z (zfa fa_api_System_1) (.y hs (zld Try.isAgg30) (.y hs (zls [_, _, _, _] Try.isAgg100 Try.sizeOf100) ?_)))
      refine .o (.buildSlice (cells := x.c) hs bls_sl_api_Limit_1 rfl rfl ?_); intro b26 w hs
      refine .o (.append (ys := x.c) hs app_sl_api_Limit_api_Limit rfl rfl hO (.own .here rfl rfl) (by simp [Lim.c, Value.oneCell']) (fun l h => by rw [Lims_length] at h; omega) ?_); intro v27 en27 w hO2 hs
      obtain ⟨a27, l27, c27, rfl, h27⟩ := hO2.shape
      refine .z (zfa fa_api_System_1) ?_
      refine .o (.store hs rfl rfl Try.sizeOf30 ?_); intro w hs
      refine .nil ?_
      refine nB (nT ?_)
      have e : pickTo q s.lims (k + 1) = pickTo q s.lims k ++ [x] := by rw [pickTo_succ hx, if_pos hc22]
      rw [← Lims_one, ← Lims_append, ← e] at hO2
      exact .mk ⟨rfl, _, _, hO2, hs.sub (by repeat (first | exact Sub.refl _ | constructor | apply Sub.weaken))⟩
    · refine .skip ?_
      refine nB (nT ?_)
      have e : pickTo q s.lims (k + 1) = pickTo q s.lims k := by rw [pickTo_succ hx, hc22]; simp
      exact .mk ⟨rfl, _, _, by rw [e]; exact hO, hs.sub (by repeat (first | exact Sub.refl _ | constructor | apply Sub.weaken))⟩
  · rintro fr w ⟨rfl, vL, en, hO, hs⟩
    obtain ⟨aL, lL, cL, rfl, hL⟩ := hO.shape
    have hpl := pickTo_length q s.lims s.lims.length
    refine nT ?_
    refine .regSeq (.y hs (zls [_, _] Try.isAgg32 Try.sizeOf32) ?_)
    refine .o (.stores (vs := [_, _]) hs rfl rfl Try.sizeOf32 ?_); intro w hs
    refine .nil ?_
    refine .ret ?_
    obtain ⟨H1, g1, r1, hs⟩ := OwnS.publish (m := 4) (cs := (pickTo q s.lims s.lims.length).map Lim.c) hO (fun c hc => by simp only [List.mem_map] at hc; obtain ⟨x, _, rfl⟩ := hc; rfl) (by omega) (by rw [List.length_map]; omega) hs (by repeat constructor)
    exact Fin.retD [] [] hs fun w hs => ⟨_, results1 Try.results154 (rcells (vs := [_, _]) hs rfl Try.isAgg32 Try.sizeOf32), H1, g1, ⟨_, rfl, r1⟩, hs.out⟩
theorem bound_Without_1 {H : Heap} {w : World} {σ : List Ent} {b : Nat} {i : Int} {l : Lim} {vb : Value} {bs : List Int} (hs : St H w σ) (hb : Row H b [vb]) (hr : RI H vb bs) :
    Cl Try.prog 159 [I i, .agg l.c.toArray, .pointer (some ⟨b, 0, none⟩)] w fun u w' => u = .bool (!decide (l.S ∈ bs)) ∧ St H w' σ := by
  have hb0 : cellAt H b 0 = some vb := by rw [hb.cell]; rfl
  refine Cl.of Try.func159 rfl Try.ntmps159 (by simp) (args_cons (k := 0) rfl (args_cons (k := 1) rfl (args_cons (k := 2) rfl (args0)))) ?_
  refine .regSeq ?_
  refine .o (.box hs rfl rfl ?_); intro b4 w hs
  refine .z zg (.nil (.regSeq (.y hs (zld Try.isAgg22) (.z (zfa fa_api_Limit_3) (.y hs (zld Try.isAgg3) ?_)))))
  refine .o (.call Try.call153 rfl (slices_Contains_int hs hr) ?_); rintro _ w ⟨rfl, hs⟩
  refine .z znot (.z zg (.nil ?_))
  refine .ret (Fin.ret1 Try.results159 rfl ?_)
  exact ⟨rfl, hs.out⟩
theorem bound_Without_spec {H : Heap} {w : World} {σ : List Ent} {v vb : Value} {s : Syst} {bs : List Int} (hs : St H w σ) (hr : RSy H v s) (hb : RI H vb bs) (hlen : s.lims.length ≤ 4398046510976) :
    Cl Try.prog 68 [v, vb] w fun u w' => ∃ H1, HLe H H1 ∧ RSy H1 u (s.wo bs) ∧ St H1 w' σ := by
  obtain ⟨ul, rfl, hl⟩ := hr
  obtain ⟨al, cl, rfl⟩ := RL.shape hl
  obtain ⟨ab, cb, rfl⟩ := RI.shape hb
  refine Cl.of Try.func68 rfl Try.ntmps68 (by simp) (args_cons (k := 0) rfl (args_cons (k := 1) rfl (args0))) ?_
  refine .regSeq ?_
  refine .o (.box hs rfl rfl ?_); intro b2 w hs
  refine .o (.box hs rfl rfl ?_); intro b3 w hs
  refine .o (.alloc hs Try.zeroValue32 rfl ?_); intro b4 w hs
  refine .nil (.regSeq (.y hs (zls [_, _] Try.isAgg32 Try.sizeOf32) ?_))
  refine .q hs (q_makeFunc (f := []) (c := [_]) rfl rfl) ?_
  obtain ⟨H1, hle1, r3, hs⟩ := hs.publish (b := b3) (by repeat constructor)
  refine .o (.call Try.call154 rfl (bound_only_spec (g := 159) (cap := [.pointer (some ⟨b3, 0, none⟩)]) (s := s) (fun _ l => !decide (l.S ∈ bs)) hs ⟨_, rfl, hl.mono hle1⟩ hlen Try.call159 (fun w σ k l _ hs => bound_Without_1 hs r3 (hb.mono hle1))) ?_); rintro _ w ⟨H2, hle2, ⟨u7, rfl, hL7⟩, hs⟩
  rw [pickTo_all] at hL7
  obtain ⟨a7, c7, rfl⟩ := RL.shape hL7
  refine .o (.stores (vs := [_, _]) hs rfl rfl Try.sizeOf32 ?_); intro w hs
  refine .nil ?_
  refine .ret ?_
  exact Fin.retD [] [] hs fun w hs => ⟨_, results1 Try.results68 (rcells (vs := [_, _]) hs rfl Try.isAgg32 Try.sizeOf32), H2, hle1.trans hle2, ⟨_, rfl, hL7⟩, hs.out⟩
end Go.Proofs.Ytiiokdeehlfeeaa

namespace Go.Proofs.Ytiiokdeehlfeeaa
open Go.MW
theorem slices_Sort_own {H : Heap} {w : World} {σ : List Ent} {b cap : Nat} {xs : List Int} {sp : List Value} (hs : St H w (.blk b (Is xs ++ sp) :: σ)) (hl : xs.length ≤ 17592186044416) :
    Cl Try.prog 199 [.slice (some ⟨b, 0, none⟩) xs.length cap] w fun u w' => u = .tuple #[] ∧ St H w' (.blk b (Is (xs.mergeSort fun x y => decide (x ≤ y)) ++ sp) :: σ) :=
  (srt_Sort b 0 cap xs w hs.holds (hs.lt .here) (by omega)).mono fun e w' ⟨he, m, os, hw⟩ => ⟨_, he, rfl, by
    rw [hw]
    exact (hs.putRow (List.length_mergeSort _)).grow os⟩
theorem slices_Sort_none {H : Heap} {w : World} {σ : List Ent} {a : Option Addr} {cap : Nat} (hs : St H w σ) :
    Cl Try.prog 199 [.slice a 0 cap] w fun u w' => u = .tuple #[] ∧ St H w' σ :=
  (srt_Sort_none a cap w).mono fun e w' ⟨he, hw⟩ => ⟨_, he, rfl, by rw [hw]; exact hs⟩
theorem slices_Compact_own {H : Heap} {w : World} {σ : List Ent} {b cap : Nat} {xs : List Int} {sp : List Value} (hs : St H w (.blk b (Is xs ++ sp) :: σ)) (hl : xs.length ≤ 17592186044416) (hcap : xs.length ≤ cap) :
    Cl Try.prog 200 [.slice (some ⟨b, 0, none⟩) xs.length cap] w fun u w' => u = .slice (some ⟨b, 0, none⟩) (Go.Lib.compact xs).length cap ∧ St H w' (.blk b (Is (Go.Lib.compact xs) ++ (Is (List.replicate (xs.length - (Go.Lib.compact xs).length) 0) ++ sp)) :: σ) :=
  (srt_Compact b 0 cap xs w hs.holds (by omega) hcap).mono fun e w' ⟨he, m, hw⟩ => ⟨_, he, rfl, by
    rw [hw]
    have h := Go.Lib.compact_length_le xs
    have := hs.putRow (m := m) (ys := Go.Lib.compact xs ++ List.replicate (xs.length - (Go.Lib.compact xs).length) 0) (by simp; omega)
    have e2 : Is (Go.Lib.compact xs ++ List.replicate (xs.length - (Go.Lib.compact xs).length) 0) = Is (Go.Lib.compact xs) ++ Is (List.replicate (xs.length - (Go.Lib.compact xs).length) 0) := List.map_append
    rw [e2, List.append_assoc] at this
    exact this⟩
theorem slices_Compact_none {H : Heap} {w : World} {σ : List Ent} {a : Option Addr} {cap : Nat} (hs : St H w σ) :
    Cl Try.prog 200 [.slice a 0 cap] w fun u w' => u = .slice a 0 cap ∧ St H w' σ :=
  (srt_Compact_none a cap w).mono fun e w' ⟨he, hw⟩ => ⟨_, he, rfl, by rw [hw]; exact hs⟩
theorem bound_put_spec {H : Heap} {w : World} {σ : List Ent} {v : Value} {xs : List Int} {en : Ent} (hs : St H w (en :: σ)) (hO : OwnS 1 v (Is xs) en) (hl : xs.length ≤ 17592186044416) :
    Cl Try.prog 158 [v] w fun u w' => ∃ L en', OwnS 1 u (Is L) en' ∧ L.length ≤ xs.length ∧ RiseOf (fun x => x ∈ xs) L ∧ St H w' (en' :: σ) := by
  rcases hO with ⟨a, rfl, h0, rfl⟩ | ⟨b, len, cap, sp, rfl, rfl, h3, h4, h5⟩
  · have hx : xs = [] := by simpa using h0
    subst hx
    refine Cl.of Try.func158 rfl Try.ntmps158 (by simp) (args_cons (k := 0) rfl (args0)) ?_
    refine .regSeq (.z zg (.nil (.regSeq (.z zm ?_))))
    refine .o (.call Try.call199 rfl (slices_Sort_none hs) ?_); rintro _ w ⟨rfl, hs⟩
    refine .nil (.regSeq (.z zm ?_))
    refine .o (.call Try.call200 rfl (slices_Compact_none hs) ?_); rintro _ w ⟨rfl, hs⟩
    refine .z zg (.nil ?_)
    refine .ret (Fin.ret1 Try.results158 rfl ?_)
    exact ⟨[], _, .nil 1 a, by simp, .nil (by simp), hs.out⟩
  · obtain rfl : len = xs.length := by simpa using h3.symm
    refine Cl.of Try.func158 rfl Try.ntmps158 (by simp) (args_cons (k := 0) rfl (args0)) ?_
    refine .regSeq (.z zg (.nil (.regSeq (.z zm ?_))))
    refine .o (.call Try.call199 rfl (slices_Sort_own hs hl) ?_); rintro _ w ⟨rfl, hs⟩
    refine .nil (.regSeq (.z zm ?_))
    have hml : (xs.mergeSort fun x y => decide (x ≤ y)).length = xs.length := List.length_mergeSort _
    rw [← hml]
    refine .o (.call Try.call200 rfl (slices_Compact_own hs (by omega) (by omega)) ?_); rintro _ w ⟨rfl, hs⟩
    refine .z zg (.nil ?_)
    refine .ret (Fin.ret1 Try.results158 rfl ?_)
    have hcl := Go.Lib.compact_length_le (xs.mergeSort fun x y => decide (x ≤ y))
    have h4' : xs.length + sp.length = cap := by simpa using h4
    exact ⟨_, _, .inr ⟨b, _, cap, Is (List.replicate ((xs.mergeSort fun x y => decide (x ≤ y)).length - (Go.Lib.compact (xs.mergeSort fun x y => decide (x ≤ y))).length) 0) ++ sp, rfl, rfl, by simp, by simp; omega, by omega⟩, by omega, sorted_rise, hs⟩
theorem bound_Sources_spec {H : Heap} {w : World} {σ : List Ent} {v : Value} {s : Syst} (hs : St H w σ) (hr : RSy H v s) (hlen : s.lims.length ≤ 4398046510976) :
    Cl Try.prog 66 [v] w fun u w' => ∃ L en, OwnS 1 u (Is L) en ∧ L.length ≤ s.lims.length ∧ RiseOf (SrcS s.lims) L ∧ St H w' (en :: σ) := by
  obtain ⟨ul, rfl, hl⟩ := hr
  obtain ⟨al, cl, rfl⟩ := RL.shape hl
  refine Cl.of Try.func66 rfl Try.ntmps66 (by simp) (args_cons (k := 0) rfl (args0)) ?_
  refine .regSeq ?_
  refine .o (.box hs rfl rfl ?_); intro b1 w hs
  refine .z zg (.nil (.regSeq (.z zg (.nil (.seq (.regSeq (.z (zfa fa_api_System_1) (.y hs (zld Try.isAgg30) (.z (zlen Try.runUnderlying30) ?_)))))))))
  refine .z zm (.nil ?_)
  refine .for (N := s.lims.length) (J := fun k fr w => ∃ v3 en, OwnS 1 v3 (Is ((s.lims.take k).map Lim.S)) en ∧ fr = [(3, v3), (7, .slice al s.lims.length cl)] ∧ St H w (en :: σ)) (by omega) ?_ ?_ ?_
  · exact .mk ⟨_, _, .nil 1 none, rfl, hs.nul.sub (by repeat (first | exact Sub.refl _ | constructor | apply Sub.weaken))⟩
  · rintro k fr w hk ⟨v3, en, hO, rfl, hs⟩
    obtain ⟨x, hx⟩ := nth (l := s.lims) hk
    obtain ⟨a3, l3, c3, rfl, h3⟩ := hO.shape
    refine .block (.regSeq ?_)
    refine .ixX hs hl rfl rfl Try.runUnderlying30 Try.sizeOf100 hx rfl ?_; intro b11 o11 hc11
    refine .q hs (q_loadsR (vs := x.c) rfl Try.isAgg100 Try.sizeOf100 hc11) ?_
    refine .o (.alloc hs Try.zeroValue100 rfl ?_); intro b5 w hs
    refine .o (.stores (vs := x.c) hs rfl rfl Try.sizeOf100 ?_); intro w hs
    refine .nil (.region (.z zm (.z (zfa fa_api_Limit_3) (.y hs (zld Try.isAgg3) ?_))))
    refine .o (.buildSlice (cells := [_]) hs bls_sl_int_1 rfl rfl ?_); intro b16 w hs
    refine .o (.append (ys := Is [x.S]) hs app_sl_int_int rfl rfl hO (.own .here rfl rfl) (Is_cell _) (fun l' h => by simp at h; omega) ?_); intro v17 en17 w hO2 hs
    rw [← List.map_append] at hO2
    refine .z zg (.nil ?_)
    refine nB (nT ?_)
    exact .mk ⟨_, _, by rw [take_snoc hx, List.map_append]; exact hO2, rfl, hs.sub (by repeat (first | exact Sub.refl _ | constructor | apply Sub.weaken))⟩
  · rintro fr w ⟨v3, en, hO, rfl, hs⟩
    rw [List.take_length] at hO
    refine nT ?_
    refine .regSeq (.z zm ?_)
    refine .o (.call Try.call158 rfl (bound_put_spec hs hO (by rw [List.length_map]; omega)) ?_); rintro v20 w ⟨L, en', hO', hL, hR, hs⟩
    rw [List.length_map] at hL
    refine .z zg (.nil ?_)
    refine .ret (Fin.ret1 Try.results66 rfl ?_)
    exact ⟨L, en', hO', hL, hR.congr fun x => by simp [SrcS], hs⟩
end Go.Proofs.Ytiiokdeehlfeeaa

namespace Go.Proofs.Ytiiokdeehlfeeaa
open Go.MW
theorem slices_IndexFunc_own {H : Heap} {w : World} {σ : List Ent} {v : Value} {en : Ent} {xs : List Int} {g : Nat} {cap : List Value} (q : Int → Bool) (hs : St H w (en :: σ)) (hO : OwnS 1 v (Is xs) en) (hl : xs.length ≤ 17592186044416) (hc : ∀ args w, (callFunc g args).run Try.prog w = .ok (.enter g args) w)
    (hp : ∀ H' w σ (n : Int), n ∈ xs → HLe H H' → St H' w σ → Cl Try.prog g ([I n] ++ cap) w fun u w' => ∃ H1, HLe H' H1 ∧ u = .bool (q n) ∧ St H1 w' σ) :
    Cl Try.prog 197 [v, .func (.func g) #[] cap.toArray] w fun u w' => ∃ H1 i, HLe H H1 ∧ u = I i ∧ ((i = -1 ∧ ∀ x ∈ xs, q x = false) ∨ (∃ (k : Nat) (x : Int), i = k ∧ xs[k]? = some x ∧ q x = true ∧ ∀ j < k, ∀ y, xs[j]? = some y → q y = false)) ∧ St H1 w' (en :: σ) := by
  obtain ⟨a, c, rfl⟩ := hO.shapeI
  refine Cl.of Try.func197 rfl Try.ntmps197 (by simp) (args_cons (k := 0) rfl (args_cons (k := 1) rfl (args0))) ?_
  refine .regSeq (.z zg (.nil (.seq (.regSeq (.z zm (.z (zlen Try.runUnderlying22) (.z zm (.nil ?_))))))))
  refine .for (N := xs.length) (J := fun k fr w => fr = [(1, .func (.func g) #[] cap.toArray), (0, .slice a xs.length c)] ∧ ∃ H1, HLe H H1 ∧ (∀ j < k, ∀ y, xs[j]? = some y → q y = false) ∧ St H1 w (en :: σ)) (by omega) ?_ ?_ ?_
  · exact .mk ⟨rfl, H, HLe.refl H, fun j hj => by omega, hs⟩
  · rintro k fr w hk ⟨rfl, H1, hle1, hno, hs⟩
    have hx := gi_get hk
    obtain ⟨b, c', sp, hv, rfl, _⟩ := hO.blk (by omega)
    cases hv
    refine .block (.regSeq (.z zm (.z zg (.nil (.regSeq (.z zm (.z zm (.z zm (.z (zix Try.runUnderlying22 Try.sizeOf3) ?_)))))))))
    refine .q hs (q_load rfl Try.isAgg3 (hv := Is_gi_sp hk sp)) ?_
    refine .o (.callG (first := []) (cap := cap) rfl rfl hc (hp _ _ _ (gi xs k) (List.mem_of_getElem? hx) hle1 hs) ?_); rintro _ w ⟨H2, hle2, rfl, hs⟩
    refine .nil ?_
    refine (.cond rfl (fun hc16 => ?_) (fun hc16 => ?_))
    · refine .regSeq (.z zm (.z zg (.nil ?_)))
      refine .ret (rB (rT (rB (rT (Fin.ret1 Try.results197 rfl ?_)))))
      exact ⟨H2, _, hle1.trans hle2, rfl, .inr ⟨k, _, rfl, hx, hc16, hno⟩, hs⟩
    · refine .skip ?_
      refine nB (nT ?_)
      exact .mk ⟨rfl, H2, hle1.trans hle2, upto_succ hno hx hc16, hs⟩
  · rintro fr w ⟨rfl, H1, hle1, hno, hs⟩
    refine nT ?_
    refine .regSeq (.z zg (.nil ?_))
    refine .ret (Fin.ret1 Try.results197 rfl ?_)
    exact ⟨H1, _, hle1, rfl, .inl ⟨rfl, fun x hx => by
      obtain ⟨j, hj⟩ := List.getElem?_of_mem hx
      exact hno j (List.getElem?_eq_some_iff.1 hj).1 x hj⟩, hs⟩
set_option maxHeartbeats 1000000 in
theorem slices_DeleteFunc_spec {H : Heap} {w : World} {σ : List Ent} {v : Value} {en : Ent} {xs : List Int} {g : Nat} {cap : List Value} (q : Int → Bool) (hs : St H w (en :: σ)) (hO : OwnS 1 v (Is xs) en) (hl : xs.length ≤ 17592186044416) (hc : ∀ args w, (callFunc g args).run Try.prog w = .ok (.enter g args) w)
    (hp : ∀ H' w σ (n : Int), n ∈ xs → HLe H H' → St H' w σ → Cl Try.prog g ([I n] ++ cap) w fun u w' => ∃ H1, HLe H' H1 ∧ u = .bool (q n) ∧ St H1 w' σ) :
    Cl Try.prog 151 [v, .func (.func g) #[] cap.toArray] w fun u w' => ∃ H1 en', HLe H H1 ∧ OwnS 1 u (Is (xs.filter fun x => !q x)) en' ∧ St H1 w' (en' :: σ) := by
  obtain ⟨a, c, rfl⟩ := hO.shapeI
  refine Cl.of Try.func151 rfl Try.ntmps151 (by simp) (args_cons (k := 0) rfl (args_cons (k := 1) rfl (args0))) ?_
  refine .regSeq (.z zg (.nil (.regSeq (.z zm (.z zm ?_)))))
  refine .o (.call Try.call197 rfl (slices_IndexFunc_own q hs hO hl hc hp) ?_); rintro _ w ⟨H1, i0, hle1, rfl, hcase, hs⟩
  refine .z zg (.nil (.seq (.regSeq (.z zm (.z zeql (.nil ?_))))))
  refine (.condD rfl (fun hc12 => ?_) (fun hc12 => ?_))
  · refine .regSeq (.z zm (.z zg (.nil ?_)))
    refine .ret (rT (Fin.ret1 Try.results151 rfl ?_))
    have hno : ∀ x ∈ xs, q x = false := by
      rcases hcase with ⟨_, h⟩ | ⟨k, x, h, _⟩
      · exact h
      · omega
    have e : xs.filter (fun x => !q x) = xs := List.filter_eq_self.2 fun x hx => by simp [hno x hx]
    exact ⟨H1, en, hle1, by rw [e]; exact hO, hs⟩
  · refine .skip ?_
    refine nT ?_
    refine .seq (.regSeq (.z zm ?_))
    obtain ⟨k0, x0, rfl, hx0, hq0, hno⟩ : ∃ (k : Nat) (x : Int), i0 = k ∧ xs[k]? = some x ∧ q x = true ∧ ∀ j < k, ∀ y, xs[j]? = some y → q y = false := hcase.resolve_left fun h => hc12 h.1
    have hk0 := (List.getElem?_eq_some_iff.1 hx0).1
    obtain ⟨b, c', sp, hv, rfl, hc'⟩ := hO.blk (by omega)
    cases hv
    refine .z zadd (.z zg (.nil (.block ?_)))
    refine .loop (fun p : Nat × Nat => ⟨42, [], [(5, I (p.1 : Int)), (6, I (p.2 : Int)), (1, .func (.func g) #[] cap.toArray), (0, .slice (some ⟨b, 0, none⟩) xs.length c)]⟩)
      (fun p w => k0 < p.2 ∧ ∃ Y H1, HLe H H1 ∧ DelI q xs Y p.1 p.2 ∧ St H1 w (.blk b (Is Y ++ sp) :: σ))
      (fun p => xs.length - p.2) (k0, k0 + 1) (.cons rfl (.consI rfl (by dsimp only; omega) (by repeat (first | exact .nil rfl rfl | refine .cons rfl ?_))))
      ⟨by dsimp only; omega, xs, H1, hle1, .start hx0 hq0 hno, hs⟩ ?_
    clear hs hle1 hcase
    rintro ⟨i, j⟩ w ⟨hkj, Y, H1, hle1, hD, hs⟩
    dsimp only at hkj hD ⊢
    have hYl := hD.len
    have hij := hD.le
    have hjl := hD.jl
    have hilt := hD.lt hx0 hq0 hkj
    refine .seq (.regSeq (.z zm (.z zm (.z (zlen Try.runUnderlying22) (.z zlss (.nil ?_))))))
    refine (.condD rfl (fun hc19 => ?_) (fun hc19 => ?_))
    · refine .skip ?_
      refine nT ?_
      refine .seq (.block (.regSeq (.z zm (.z zm ?_))))
      have hj : j < Y.length := by omega
      have hx : xs[j]? = some (gi Y j) := by rw [hD.rest j (Nat.le_refl _)]; exact gi_get (by omega)
      refine .z (zix Try.runUnderlying22 Try.sizeOf3) ?_
      refine .q hs (q_load rfl Try.isAgg3 (hv := Is_gi_sp hj sp)) ?_
      refine .z zg (.nil (.regSeq (.z zm (.z zm ?_))))
      refine .o (.callG (first := []) (cap := cap) rfl rfl hc (hp _ _ _ (gi Y j) (List.mem_of_getElem? hx) hle1 hs) ?_); rintro _ w ⟨H2, hle2, rfl, hs⟩
      refine .z znot (.nil ?_)
      refine (.cond rfl (fun hc29 => ?_) (fun hc29 => ?_))
      · refine .regSeq (.z zm (.z zm (.z zm (.z (zix Try.runUnderlying22 Try.sizeOf3) ?_))))
        refine .o (.store hs rfl rfl Try.sizeOf3 ?_ .here (blt_Is_sp (show i < Y.length by omega) sp) (Is_set_sp (show i < Y.length by omega) sp _)); intro w hs
        refine .nil (.region (.z zm (.z zadd (.z zg (.nil ?_)))))
        refine nB (nT ?_)
        refine .region (.z zm (.z zadd (.z zg (.nil ?_))))
        refine nT ?_
        exact ⟨(i + 1, j + 1), .consI rfl (by dsimp only; omega) (.consI rfl (by dsimp only; omega) (by repeat (first | exact .nil rfl rfl | refine .cons rfl ?_))), ⟨by dsimp only; omega, _, H2, hle1.trans hle2, hD.keep hx (by simpa using hc29), hs⟩, by dsimp only; omega⟩
      · refine .skip ?_
        refine nB (nT ?_)
        refine .region (.z zm (.z zadd (.z zg (.nil ?_))))
        refine nT ?_
        exact ⟨(i, j + 1), .cons rfl (.consI rfl (by dsimp only; omega) (by repeat (first | exact .nil rfl rfl | refine .cons rfl ?_))), ⟨by dsimp only; omega, _, H2, hle1.trans hle2, hD.skip hx (by simpa using hc29), hs⟩, by dsimp only; omega⟩
    · refine .exit ?_
      refine xT (xT (xB (nT ?_)))
      refine .regSeq (.z zm (.z zm ?_))
      obtain rfl : xs.length = j := by omega
      refine .q hs (q_sliceLI (k := i) rfl rfl Try.runUnderlying22 Try.sizeOf3 (by omega) (by omega)) ?_
      rw [show 0 + i * 1 = i by omega]
      refine .o (.clearI (c := Is Y ++ sp) hs rfl Try.runUnderlying22 Try.zeroValue3 (by simp; omega) ?_); intro w hs
      rw [hD.done sp] at hs
      have hil := hD.il
      rw [List.take_length] at hil
      refine .nil (.regSeq (.z zm (.z zm ?_)))
      refine .q hs (q_sliceHI (k := i) rfl rfl Try.runUnderlying22 Try.sizeOf3 (by omega)) ?_
      refine .z zg (.nil ?_)
      refine .ret (Fin.ret1 Try.results151 rfl ?_)
      exact ⟨H1, _, hle1, .inr ⟨b, i, c, List.replicate (xs.length - i) (I 0) ++ sp, rfl, rfl, by simp [hil], by simp [← hil]; omega, by omega⟩, hs⟩
theorem bound_span_spec {H : Heap} {w : World} {σ : List Ent} {v vw : Value} {s : Syst} {ws : List Int} (hs : St H w σ) (hr : RSy H v s) (hrw : RI H vw ws) :
    Cl Try.prog 178 [v, vw] w fun u w' => ∃ H1 lo hi e, HLe H H1 ∧ u = .agg #[I lo, I hi, I e] ∧ RangeR s ws lo hi e ∧ St H1 w' σ := by
  obtain ⟨ul, rfl, hl⟩ := hr
  obtain ⟨al, cl, rfl⟩ := RL.shape hl
  refine Cl.of Try.func178 rfl Try.ntmps178 (by simp) (args_cons (k := 0) rfl (args_cons (k := 1) rfl (args0))) ?_
  refine .regSeq ?_
  refine .o (.box hs rfl rfl ?_); intro b2 w hs
  refine .o (.alloc hs Try.zeroValue209 rfl ?_); intro b4 w hs
  refine .nil (.regSeq (.y hs (zls [_, _] Try.isAgg32 Try.sizeOf32) (.z zm ?_)))
  refine .o (.call Try.call60 rfl (bound_Range_spec (s := s) hs ⟨_, rfl, hl⟩ hrw) ?_); rintro _ w ⟨H1, lo, hi, e, hle1, rfl, hR, hs⟩
  refine .z zm (.z zex (.z zex (.z zex (.z zg (.z zg (.z zg (.nil (.regSeq (.z zm ?_)))))))))
  refine .z zm (.z zm (.z (zbd [_, _, _] bld_bound_told) ?_))
  refine .o (.stores (vs := [_, _, _]) hs rfl rfl Try.sizeOf209 ?_); intro w hs
  refine .nil ?_
  refine .ret ?_
  exact Fin.retD [] [] hs fun w hs => ⟨_, results1 Try.results178 (rcells (vs := [_, _, _]) hs rfl Try.isAgg209 Try.sizeOf209), H1, lo, hi, e, hle1, rfl, hR, hs.out⟩
set_option maxRecDepth 100000 in
theorem told_stood : Try.prog.stoodInHeld 209 = false := by kernel_rfl
set_option maxRecDepth 100000 in
theorem told_guard : Try.prog.eqGuardType Try.prog.depth 209 = false := by kernel_rfl
theorem RangeR.told {s : Syst} {ws : List Int} {a b e lo hi : Int} (h : RangeR s ws a b e) : (a = lo ∧ b = hi ∧ e = 0) ↔ RangeR s ws lo hi 0 := by
  constructor
  · rintro ⟨rfl, rfl, rfl⟩; exact h
  · intro g
    exact h.uniq g
set_option maxRecDepth 4000 in
theorem bound_Moves_1 {H : Heap} {w : World} {σ : List Ent} {n lo hi : Int} {b2 b3 b6 : Nat} {s : Syst} {ws : List Int} {ul vw : Value} (hs : St H w σ) (r2 : Row H b2 [I s.many, ul]) (hl : RL H ul s.lims) (r3 : Row H b3 [vw]) (hw : RI H vw ws) (r6 : Row H b6 [I lo, I hi, I 0]) (hlen : s.lims.length ≤ 4398046510976) :
    Cl Try.prog 179 [I n, .pointer (some ⟨b2, 0, none⟩), .pointer (some ⟨b3, 0, none⟩), .pointer (some ⟨b6, 0, none⟩)] w fun u w' => ∃ H1 bb, HLe H H1 ∧ u = .bool bb ∧ (bb = true ↔ RangeR (s.wo [n]) ws lo hi 0) ∧ St H1 w' σ := by
  obtain ⟨al, cl, rfl⟩ := RL.shape hl
  obtain ⟨aw, cw, rfl⟩ := RI.shape hw
  have c2 := r2.cells 0 [I s.many, .slice al s.lims.length cl]
  have c3 := r3.at 0
  have c6 := r6.cells 0 [I lo, I hi, I 0]
  refine Cl.of Try.func179 rfl Try.ntmps179 (by simp) (args_cons (k := 0) rfl (args_cons (k := 1) rfl (args_cons (k := 2) rfl (args_cons (k := 3) rfl (args0))))) ?_
  refine .regSeq (.z zg (.nil ?_))
  refine .seq (.draw mix rfl hs ?_); intro w hs
  refine .ys 0 rfl hs [_, _] Try.isAgg32 Try.sizeOf32 ?_; refine .z 1 rfl zm ?_
  refine .r (i := 4) hs rfl (by kernel_rfl) .none (q_loadR rfl Try.isAgg22 c3) ?_
  refine .r (i := 6) hs rfl (by kernel_rfl) .none (q_loadsR (vs := [I lo, I hi, I 0]) rfl Try.isAgg209 Try.sizeOf209 c6) ?_
  refine .e1 (i := 2) (by kernel_rfl) rfl rfl .none hs ?_
  refine .buildSlice (cells := [_]) hs bls_sl_int_1 rfl rfl ?_; intro b8 w hs
  refine .go ?_
  refine .e1 (i := 3) (by kernel_rfl) rfl rfl .none hs ?_
  obtain ⟨H1, hle1, r8, hs⟩ := OwnS.publishI (xs := [n]) (v := .slice (some ⟨b8, 0, none⟩) 1 1) (.full (len := 1) rfl) (by simp) hs (by repeat constructor)
  refine .call Try.call68 rfl (bound_Without_spec (s := s) hs ⟨_, rfl, hl.mono hle1⟩ r8 hlen) ?_; rintro _ w ⟨H2, hle2, hS9, hs⟩
  have hle02 := hle1.trans hle2
  refine .go ?_
  refine .e1 (i := 5) (by kernel_rfl) rfl rfl .none hs ?_
  refine .call Try.call178 rfl (bound_span_spec hs hS9 (hw.mono hle02)) ?_; rintro _ w ⟨H3, a, b, e, hle3, rfl, hR, hs⟩
  have hle03 := hle02.trans hle3
  refine .go ?_
  refine .p (i := 7) rfl (by kernel_rfl) .none (q_eqS3 rfl rfl Try.runUnderlying209 told_stood told_guard (fun f hf => by
    simp only [List.mem_cons, List.not_mem_nil, or_false] at hf
    rcases hf with rfl | rfl | rfl <;> first | exact ⟨by decide, Try.runUnderlying3, Try.isAgg3⟩ | exact ⟨by decide, Try.runUnderlying41, Try.isAgg41⟩)) ?_
  refine .z 8 rfl zg ?_; refine .done (by kernel_rfl) hs ?_
  refine .ret (Fin.ret1 Try.results179 rfl ?_)
  exact ⟨H3, _, hle03, rfl, by rw [decide_eq_true_eq]; exact RangeR.told hR, hs.out⟩
open Classical in
theorem bound_Moves_spec {H : Heap} {w : World} {σ : List Ent} {v vw : Value} {s : Syst} {ws : List Int} (hs : St H w σ) (hr : RSy H v s) (hrw : RI H vw ws) :
    Cl Try.prog 93 [v, vw] w fun u w' => ∃ H1 vx L e, HLe H H1 ∧ u = .tuple #[vx, I e] ∧ RI H1 vx L ∧ MovesR s ws L e ∧ St H1 w' σ := by
  obtain ⟨ul, rfl, hl⟩ := hr
  obtain ⟨al, cl, rfl⟩ := RL.shape hl
  obtain ⟨aw, cw, rfl⟩ := RI.shape hrw
  refine Cl.of Try.func93 rfl Try.ntmps93 (by simp) (args_cons (k := 0) rfl (args_cons (k := 1) rfl (args0))) ?_
  refine .regSeq ?_
  refine .o (.box hs rfl rfl ?_); intro b2 w hs
  refine .o (.box hs rfl rfl ?_); intro b3 w hs
  refine .z zg (.z zg (.nil (.regSeq (.y hs (zls [_, _] Try.isAgg32 Try.sizeOf32) (.y hs (zld Try.isAgg22) ?_)))))
  refine .o (.call Try.call178 rfl (bound_span_spec (s := s) hs ⟨_, rfl, hl⟩ hrw) ?_); rintro _ w ⟨H1, lo, hi, e, hle1, rfl, hR, hs⟩
  refine .o (.alloc hs Try.zeroValue209 rfl ?_); intro b6 w hs
  refine .o (.stores (vs := [_, _, _]) hs rfl rfl Try.sizeOf209 ?_); intro w hs
  refine .nil (.seq (.regSeq (.z (zfa fa_bound_told_2) (.y hs (zld Try.isAgg41) (.z zneq (.nil ?_))))))
  refine (.condN rfl (fun hc12 => ?_) (fun hc12 => ?_))
  · refine .seq (.draw mix rfl hs ?_); intro w hs
    refine .z 0 rfl (zfa fa_bound_told_2) ?_; refine .y 1 rfl hs Try.isAgg41 ?_; refine .z 2 rfl zg ?_; refine .z 3 rfl zg ?_; refine .done (by kernel_rfl) hs ?_
    refine .ret (rT (Fin.ret2 Try.results93 rfl rfl ?_))
    exact ⟨H1, _, [], _, hle1, rfl, RS.nil H1 1 none 0, .bad hR hc12, hs.out⟩
  · refine .skip ?_
    refine nT ?_
    refine .regSeq (.y hs (zls [_, _] Try.isAgg32 Try.sizeOf32) ?_)
    obtain rfl : e = 0 := hc12
    have hok := (askErr_ok hR.ask).1
    have hll := hok.len
    refine .o (.call Try.call66 rfl (bound_Sources_spec (s := s) hs ⟨_, rfl, hl.mono hle1⟩ (by omega)) ?_); rintro v16 w ⟨L, en, hO, hLl, hRise, hs⟩
    refine .q hs (q_makeFunc (f := []) (c := [_, _, _]) rfl rfl) ?_
    obtain ⟨H2, hle2, r2, hs⟩ := hs.publish (b := b2) (by repeat constructor)
    obtain ⟨H3, hle3, r3, hs⟩ := hs.publish (b := b3) (by repeat constructor)
    obtain ⟨H4, hle4, r6, hs⟩ := hs.publish (b := b6) (by repeat constructor)
    have hle04 := hle1.trans (hle2.trans (hle3.trans hle4))
    refine .o (.call Try.call151 rfl (slices_DeleteFunc_spec (g := 179) (cap := [.pointer (some ⟨b2, 0, none⟩), .pointer (some ⟨b3, 0, none⟩), .pointer (some ⟨b6, 0, none⟩)]) (fun n => decide (RangeR (s.wo [n]) ws lo hi 0)) hs hO (by omega) Try.call179
      (fun H' w σ n _ hle hs => (bound_Moves_1 (s := s) (ws := ws) (lo := lo) (hi := hi) hs ((r2.mono (hle3.trans hle4)).mono hle) (hl.mono (hle04.trans hle)) ((r3.mono hle4).mono hle) (hrw.mono (hle04.trans hle)) (r6.mono hle) (by omega)).mono fun u w' ⟨H1, bb, g1, g2, g3, g4⟩ => ⟨H1, g1, by rw [g2]; congr 1; rw [Bool.eq_iff_iff, decide_eq_true_eq]; exact g3, g4⟩)) ?_); rintro v18 w ⟨H5, en5, hle5, hO5, hs⟩
    refine .z zg (.z zg (.nil ?_))
    refine .ret (Fin.ret2 Try.results93 rfl rfl ?_)
    have hfl := List.length_filter_le (fun n => !decide (RangeR (s.wo [n]) ws lo hi 0)) L
    obtain ⟨H6, hle6, hR6, hs⟩ := OwnS.publishI hO5 (by omega) hs .here
    exact ⟨H6, _, _, 0, hle04.trans (hle5.trans hle6), rfl, hR6, .ok hR ((hRise.filter _).congr fun x => by simp), hs.out⟩
end Go.Proofs.Ytiiokdeehlfeeaa
