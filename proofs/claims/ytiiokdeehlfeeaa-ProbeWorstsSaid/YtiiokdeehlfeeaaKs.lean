/-
  Texts of this claim, joined: Wv Wx Wy Wz.
-/
import Derived.Test.YtiiokdeehlfeeaaKb
import Derived.Test.YtiiokdeehlfeeaaKr
/-
  Walk: the reference's search.
-/
namespace Go.Proofs.Ytiiokdeehlfeeaa
open Go.MW
set_option maxHeartbeats 8000000 in
theorem ref02_reach_spec {H : Heap} {w : World} {σ : List Ent} {vm : Value} {Ms Fs : List (List Int)} {n bF bN capN : Nat} {bs : List Nat} {spN : List Value} {need ts : List Int} {es : List Arc} {D : Nat → Int} (hs : St H w σ) (hM : RT H vm Ms) (hqM : Sq n Ms)
    (hF0 : Mem σ (.blk bF (bs.map (ptr n)))) (hbl : bs.length = n) (hqF : Sq n Fs) (hF : ∀ i, i < n → Mem σ (.blk (gb bs i) (Is (gr Fs i)))) (hN : Mem σ (.blk bN (Is need ++ spN))) (hNl : need.length = n)
    (hT : Tab n (gt Ms) es) (hC : Corr n es ts (gt Fs)) (hg : VG n (resid es ts) D) :
    Cl Try.prog 209 [vm, .slice (some ⟨bF, 0, none⟩) n n, .slice (some ⟨bN, 0, none⟩) n capN] w fun u w' => ∃ H1 vd vb s, HLe H H1 ∧ u = .tuple #[vd, vb] ∧ RI H1 vd s.cost ∧ RS H1 2 vb (s.by_.map (stepC es)) ∧ VInv n (resid es ts) (fun v => gi need v < 0) D (fun _ => True) false s ∧ St H1 w' σ := by
  obtain ⟨am, cm, rfl⟩ := hM.shape
  obtain rfl : n = Ms.length := hqM.1.symm
  have hfl := hqF.1
  have hn0 := hg.n0
  have hfree : free = 1000000000 := rfl
  have hn65 := hg.n1
  have hD0 := hg.d0
  have hD1 := hg.d1
  have harc : ∀ x ∈ es, -1400000 ≤ x.c ∧ x.c ≤ 1400000 := fun x hx => by have := hg.ok x ((resid_iff hT hC).2 (.inl hx)); omega
  refine Cl.of Try.func209 rfl Try.ntmps209 (by simp) (args_cons (k := 0) rfl (args_cons (k := 1) rfl (args_cons (k := 2) rfl (args0)))) ?_
  refine .regSeq ?_
  refine .q hs (q_assign rfl) ?_
  refine .q hs (q_assign rfl) ?_
  refine .nil ?_
  refine .regSeq ?_
  refine .q hs (q_move rfl) ?_
  first | refine .q hs (q_len rfl Try.runUnderlying87) ?_ | refine .q hs (q_lenR (by assumption) rfl Try.runUnderlying87) ?_ | refine .q hs (q_lenI (by assumption) rfl Try.runUnderlying87) ?_
  refine .o (.makeI Ms.length hs rfl rfl Try.runUnderlying22 Try.typeInfo3 rfl Try.sizeOf3 Try.zeroValue3 (by omega) ?_); intro b16 w hs
  refine .q hs (q_assign rfl) ?_
  refine .nil ?_
  refine .regSeq ?_
  refine .q hs (q_move rfl) ?_
  first | refine .q hs (q_len rfl Try.runUnderlying87) ?_ | refine .q hs (q_lenR (by assumption) rfl Try.runUnderlying87) ?_ | refine .q hs (q_lenI (by assumption) rfl Try.runUnderlying87) ?_
  refine .o (.makeS Ms.length hs rfl rfl Try.runUnderlying239 Try.typeInfo244 rfl Try.sizeOf244 Try.zeroValue244 (by omega) ?_); intro b19 w hs
  refine .q hs (q_assign rfl) ?_
  refine .nil ?_
  refine .seq ?_
  refine .regSeq ?_
  refine .q hs (q_move rfl) ?_
  first | refine .q hs (q_len rfl Try.runUnderlying22) ?_ | refine .q hs (q_lenR (by assumption) rfl Try.runUnderlying22) ?_ | refine .q hs (q_lenI (by assumption) rfl Try.runUnderlying22) ?_
  refine .q hs (q_move rfl) ?_
  refine .nil ?_
  refine .for (N := Ms.length) (J := fun k fr w => fr = [(8, .slice (some ⟨b16, 0, none⟩) Ms.length Ms.length), (9, .slice (some ⟨b19, 0, none⟩) Ms.length Ms.length), (0, .slice am Ms.length cm), (1, .slice (some ⟨bF, 0, none⟩) Ms.length Ms.length), (2, .slice (some ⟨bN, 0, none⟩) Ms.length capN)] ∧ ∃ C, (C.length = Ms.length ∧ ∀ v < k, gi C v = if gi need v < 0 then 0 else free) ∧ St H w (.blk b19 (List.replicate k [I (-1), Value.bool false] ++ List.replicate (Ms.length - k) [I 0, Value.bool false]).flatten :: .blk b16 (Is C) :: σ)) (by omega) ?_ ?_ ?_
  · exact .mk ⟨rfl, _, ⟨by simp, fun v hv => by omega⟩, hs⟩
  · rintro k fr w hk ⟨rfl, C, ⟨hC1, hC2⟩, hs⟩
    have hstp := rep_set2 Ms.length hk [I (-1), Value.bool false] rfl [I 0, Value.bool false] rfl
    refine .block ?_
    refine .regSeq ?_
    refine .q hs (q_move rfl) ?_
    refine .q hs (q_assign rfl) ?_
    refine .nil ?_
    refine .regSeq ?_
    refine .q hs (q_move rfl) ?_
    refine .q hs (q_move rfl) ?_
    first | (refine .ixY hs (by assumption) rfl rfl Try.runUnderlying22 Try.sizeOf3 (by assumption) (by first | rfl | omega) ?_; intro b27 o27 hc27) | refine .q hs (q_ixO rfl rfl Try.runUnderlying22 Try.sizeOf3 (by first | rfl | omega) (by first | assumption | omega)) ?_  -- indexAddr <[]int> t25 t26
    refine .o (.store hs rfl rfl Try.sizeOf3 ?_); intro w hs
    refine .nil ?_
    refine .regSeq ?_
    refine .q hs (q_move rfl) ?_
    refine .q hs (q_move rfl) ?_
    refine .q hs (q_build (cells := [_, _]) bld_moorsomref02_step rfl) ?_
    first | (refine .ixX hs (by assumption) rfl rfl Try.runUnderlying239 Try.sizeOf244 (by assumption) (by first | rfl | omega) ?_; intro b31 o31 hc31) | refine .q hs (q_ixOm rfl rfl Try.runUnderlying239 Try.sizeOf244 (by first | rfl | omega) (by first | assumption | omega)) ?_  -- indexAddr <[]moorsomref02.step> t28 t29
    refine .o (.stores (vs := [I (-1), Value.bool false]) hs rfl rfl Try.sizeOf244 ?_ (by repeat constructor) (by simp; omega) hstp); intro w hs
    refine .nil ?_
    refine .regSeq ?_
    refine .q hs (q_move rfl) ?_
    refine .q hs (q_move rfl) ?_
    first | (refine .ixY hs (by assumption) rfl rfl Try.runUnderlying22 Try.sizeOf3 (by assumption) (by first | rfl | omega) ?_; intro b34 o34 hc34) | refine .q hs (q_ixO rfl rfl Try.runUnderlying22 Try.sizeOf3 (by first | rfl | omega) (by first | assumption | omega)) ?_  -- indexAddr <[]int> t32 t33
    refine .q hs (q_load rfl Try.isAgg3 (hm := .there (.there hN)) (hv := Is_get (gi_get (l := need) (i := k) (by omega)) spN)) ?_
    refine .q hs (q_lss rfl rfl) ?_
    refine .nil ?_
    refine (.condD rfl (fun hc36 => ?_) (fun hc36 => ?_))
    · refine .region ?_
      refine .q hs (q_move rfl) ?_
      refine .q hs (q_move rfl) ?_
      first | (refine .ixY hs (by assumption) rfl rfl Try.runUnderlying22 Try.sizeOf3 (by assumption) (by first | rfl | omega) ?_; intro b39 o39 hc39) | refine .q hs (q_ixO rfl rfl Try.runUnderlying22 Try.sizeOf3 (by first | rfl | omega) (by first | assumption | omega)) ?_  -- indexAddr <[]int> t37 t38
      refine .o (.store hs rfl rfl Try.sizeOf3 ?_ (by repeat constructor) (blt_Is (by rw [List.length_set]; omega)) (Is_set _ _ _)); intro w hs
      refine .nil ?_
      refine nB (nT ?_)
      exact .mk ⟨rfl, _, ⟨by simp [hC1], fun v hv => by
        rw [gi_set (by rw [List.length_set]; omega)]
        by_cases e : v = k
        · subst e; rw [if_pos rfl, if_pos hc36]
        · rw [if_neg e, gi_set (by omega), if_neg e]; exact hC2 v (by omega)⟩, hs⟩
    · refine .skip ?_
      refine nB (nT ?_)
      exact .mk ⟨rfl, _, ⟨by simp [hC1], fun v hv => by
        rw [gi_set (by omega)]
        by_cases e : v = k
        · subst e; rw [if_pos rfl, if_neg hc36]
        · rw [if_neg e]; exact hC2 v (by omega)⟩, hs⟩
  · rintro fr w ⟨rfl, C, ⟨hC1, hC2⟩, hs⟩
    rw [Nat.sub_self, List.replicate_zero, List.append_nil, StepsC_rep es] at hs
    have hI : VInit Ms.length need Ms.length ⟨C, List.replicate Ms.length ⟨0, 0, 0, -1⟩⟩ := ⟨hC1, by simp, hC2, fun v hv => ga_replicate _ _ hv⟩
    have hV0 := hI.inv (Dn := fun _ => True) hg
    refine nT ?_
    refine .seq ?_
    refine .regSeq ?_
    refine .q hs (q_assign rfl) ?_
    refine .nil ?_
    refine .block ?_
    refine .loop (fun p : Bool × BS => ⟨160, [], [(11, .bool p.1), (8, .slice (some ⟨b16, 0, none⟩) Ms.length Ms.length), (9, .slice (some ⟨b19, 0, none⟩) Ms.length Ms.length), (0, .slice am Ms.length cm), (1, .slice (some ⟨bF, 0, none⟩) Ms.length Ms.length), (2, .slice (some ⟨bN, 0, none⟩) Ms.length capN)]⟩) (fun p w => VInv Ms.length (resid es ts) (fun v => gi need v < 0) D (fun _ => True) p.1 p.2 ∧ St H w (.blk b19 (StepsC es p.2.by_) :: .blk b16 (Is p.2.cost) :: σ)) (fun p => 2 * WMv Ms.length D p.2 + (if p.1 then 1 else 0)) (true, ⟨C, List.replicate Ms.length ⟨0, 0, 0, -1⟩⟩) (by repeat (first | exact .nil rfl rfl | refine .cons rfl ?_)) ⟨hV0, hs⟩ ?_
    rintro ⟨ag, s⟩ w ⟨hV, hs⟩
    dsimp only at hV hs ⊢
    refine .seq ?_
    refine .regSeq ?_
    refine .q hs (q_move rfl) ?_
    refine .nil ?_
    refine (.cond rfl (fun hc41 => ?_) (fun hc41 => ?_))
    · refine .skip ?_
      refine nT ?_
      refine .block ?_
      refine .regSeq ?_
      refine .q hs (q_assign rfl) ?_
      refine .nil ?_
      refine .regSeq ?_
      refine .q hs (q_move rfl) ?_
      first | refine .q hs (q_len rfl Try.runUnderlying87) ?_ | refine .q hs (q_lenR (by assumption) rfl Try.runUnderlying87) ?_ | refine .q hs (q_lenI (by assumption) rfl Try.runUnderlying87) ?_
      refine .q hs (q_move rfl) ?_
      refine .nil ?_
      refine .for (N := Ms.length) (J := fun a fr w => ∃ ag s', fr = [(11, .bool ag), (8, .slice (some ⟨b16, 0, none⟩) Ms.length Ms.length), (9, .slice (some ⟨b19, 0, none⟩) Ms.length Ms.length), (0, .slice am Ms.length cm), (1, .slice (some ⟨bF, 0, none⟩) Ms.length Ms.length), (2, .slice (some ⟨bN, 0, none⟩) Ms.length capN)] ∧ VInv Ms.length (resid es ts) (fun v => gi need v < 0) D (Upto a 0) ag s' ∧ (WMv Ms.length D s' ≤ WMv Ms.length D s ∧ (ag = true → WMv Ms.length D s' < WMv Ms.length D s)) ∧ St H w (.blk b19 (StepsC es s'.by_) :: .blk b16 (Is s'.cost) :: σ)) (by omega) ?_ ?_ ?_
      · exact .mk ⟨false, s, rfl, hV.next.zero, ⟨Nat.le_refl _, fun h => by cases h⟩, hs⟩
      · rintro a fr w ha ⟨ag', s', rfl, hV', hW, hs⟩
        have hlc := hV'.lc
        have htop := hV'.top a ha
        refine .block ?_
        refine .regSeq ?_
        refine .q hs (q_move rfl) ?_
        refine .q hs (q_assign rfl) ?_
        refine .nil ?_
        refine .seq ?_
        refine .regSeq ?_
        refine .q hs (q_move rfl) ?_
        refine .q hs (q_move rfl) ?_
        first | (refine .ixY hs (by assumption) rfl rfl Try.runUnderlying22 Try.sizeOf3 (by assumption) (by first | rfl | omega) ?_; intro b49 o49 hc49) | refine .q hs (q_ixO rfl rfl Try.runUnderlying22 Try.sizeOf3 (by first | rfl | omega) (by first | assumption | omega)) ?_  -- indexAddr <[]int> t47 t48
        first | refine .q hs (q_load rfl Try.isAgg3 (hm := by repeat (first | exact .here | assumption | exact Mem.row (by omega) (by omega) | refine .there ?_ | refine Mem.app2 ?_)) (hv := by first | rfl | exact ptr_get (by omega) | exact Is_gt (by assumption) (by omega) (by omega) | exact Is_gi (by first | assumption | omega))) ?_ | refine .q hs (q_loadR rfl Try.isAgg3 (by assumption)) ?_
        refine .q hs (q_eql rfl rfl) ?_
        refine .nil ?_
        refine (.condD rfl (fun hc51 => ?_) (fun hc51 => ?_))
        · refine .exit ?_
          refine xT (xB (nT ?_))
          exact .mk ⟨ag', s', rfl, hV'.far hc51, hW, hs⟩
        · refine .skip ?_
          refine nT ?_
          refine .regSeq ?_
          refine .q hs (q_move rfl) ?_
          first | refine .q hs (q_len rfl Try.runUnderlying87) ?_ | refine .q hs (q_lenR (by assumption) rfl Try.runUnderlying87) ?_ | refine .q hs (q_lenI (by assumption) rfl Try.runUnderlying87) ?_
          refine .q hs (q_move rfl) ?_
          refine .nil ?_
          refine .for (N := Ms.length) (J := fun b fr w => ∃ ag s', fr = [(11, .bool ag), (12, I (a : Int)), (44, I (a : Int)), (43, I (Ms.length : Int)), (8, .slice (some ⟨b16, 0, none⟩) Ms.length Ms.length), (9, .slice (some ⟨b19, 0, none⟩) Ms.length Ms.length), (0, .slice am Ms.length cm), (1, .slice (some ⟨bF, 0, none⟩) Ms.length Ms.length), (2, .slice (some ⟨bN, 0, none⟩) Ms.length capN)] ∧ VInv Ms.length (resid es ts) (fun v => gi need v < 0) D (Upto a b) ag s' ∧ (WMv Ms.length D s' ≤ WMv Ms.length D s ∧ (ag = true → WMv Ms.length D s' < WMv Ms.length D s)) ∧ gi s'.cost a < free ∧ St H w (.blk b19 (StepsC es s'.by_) :: .blk b16 (Is s'.cost) :: σ)) (by omega) ?_ ?_ ?_
          · exact .mk ⟨ag', s', rfl, hV', hW, by simp only [free]; omega, hs⟩
          · clear hV' hlc htop hW
            rintro b fr w hb ⟨ag', s', rfl, hV', hW, hfa, hs⟩
            have hlc := hV'.lc
            have hlow := hV'.low hg ha hfa
            have hlo := hV'.lo a ha
            have hDa := hD1 a ha
            have htop := hV'.top b hb
            have hrowA : (gr Ms a).length = Ms.length := hqM.2 a ha
            have hrowB : (gr Ms b).length = Ms.length := hqM.2 b hb
            have hFb := hF b hb
            refine .block ?_
            refine .regSeq ?_
            refine .q hs (q_move rfl) ?_
            refine .q hs (q_assign rfl) ?_
            refine .nil ?_
            refine .cut (fun fs w => ∃ ag s', FSub fs ⟨160, [], [(11, .bool ag), (13, I (b : Int)), (54, I (b : Int)), (53, I (Ms.length : Int)), (12, I (a : Int)), (44, I (a : Int)), (43, I (Ms.length : Int)), (8, .slice (some ⟨b16, 0, none⟩) Ms.length Ms.length), (9, .slice (some ⟨b19, 0, none⟩) Ms.length Ms.length), (0, .slice am Ms.length cm), (1, .slice (some ⟨bF, 0, none⟩) Ms.length Ms.length), (2, .slice (some ⟨bN, 0, none⟩) Ms.length capN)]⟩ ∧ VInv Ms.length (resid es ts) (fun v => gi need v < 0) D (UptoF es a b) ag s' ∧ (WMv Ms.length D s' ≤ WMv Ms.length D s ∧ (ag = true → WMv Ms.length D s' < WMv Ms.length D s)) ∧ gi s'.cost a < free ∧ St H w (.blk b19 (StepsC es s'.by_) :: .blk b16 (Is s'.cost) :: σ)) ?_ ?_
            · refine .cut (fun fs w => ∃ p, FSub fs ⟨160, [], [(88, .bool p), (11, .bool ag'), (13, I (b : Int)), (54, I (b : Int)), (53, I (Ms.length : Int)), (12, I (a : Int)), (44, I (a : Int)), (43, I (Ms.length : Int)), (8, .slice (some ⟨b16, 0, none⟩) Ms.length Ms.length), (9, .slice (some ⟨b19, 0, none⟩) Ms.length Ms.length), (0, .slice am Ms.length cm), (1, .slice (some ⟨bF, 0, none⟩) Ms.length Ms.length), (2, .slice (some ⟨bN, 0, none⟩) Ms.length capN)]⟩ ∧ (p = true → a ≠ b ∧ gt Ms a b ≠ free ∧ gi s'.cost a + gt Ms a b < gi s'.cost b) ∧ (p = false → a = b ∨ gt Ms a b = free ∨ ¬ gi s'.cost a + gt Ms a b < gi s'.cost b) ∧ St H w (.blk b19 (StepsC es s'.by_) :: .blk b16 (Is s'.cost) :: σ)) ?_ ?_
              · refine .draw mix rfl hs ?_; intro w hs
                refine .p (i := 0) rfl (by kernel_rfl) .none (q_move rfl) ?_
                refine .p (i := 1) rfl (by kernel_rfl) .none (q_move rfl) ?_
                refine .p (i := 2) rfl (by kernel_rfl) .none (q_neq rfl rfl) ?_
                refine .p (i := 3) rfl (by kernel_rfl) .none (q_move rfl) ?_
                refine .bifN (t' := 60) rfl (fun hb60 => ?_) (fun hb60 => ?_)
                · refine .p (i := 4) rfl (by kernel_rfl) (.some rfl rfl) (q_move rfl) ?_
                  refine .p (i := 5) rfl (by kernel_rfl) (.some rfl rfl) (q_move rfl) ?_
                  refine .ixT (i := 6) hs rfl (by kernel_rfl) (.some rfl rfl) hM rfl rfl Try.runUnderlying87 Try.sizeOf22 ha rfl ?_; intro b63 o63 a63 c63 hc63 hR63
                  refine .r (i := 7) hs rfl (by kernel_rfl) (.some rfl rfl) (q_loadR rfl Try.isAgg22 hc63) ?_
                  refine .p (i := 8) rfl (by kernel_rfl) (.some rfl rfl) (q_move rfl) ?_
                  refine .ixX (enc := fun x => [I x]) (i := 9) hs rfl (by kernel_rfl) (.some rfl rfl) hR63 rfl rfl Try.runUnderlying22 Try.sizeOf3 (gi_get (l := _) (i := b) (by omega)) rfl ?_; intro b66 o66 hc66; replace hc66 := CellsAt.one hc66
                  refine .r (i := 10) hs rfl (by kernel_rfl) (.some rfl rfl) (q_loadR rfl Try.isAgg3 hc66) ?_
                  refine .p (i := 11) rfl (by kernel_rfl) (.some rfl rfl) (q_neq rfl rfl) ?_
                  refine .p (i := 12) rfl (by kernel_rfl) .none (q_pickT rfl rfl) ?_
                  refine .p (i := 13) rfl (by kernel_rfl) .none (q_move rfl) ?_
                  refine .bifN (t' := 70) rfl (fun hb70 => ?_) (fun hb70 => ?_)
                  · refine .p (i := 14) rfl (by kernel_rfl) (.some rfl rfl) (q_move rfl) ?_
                    refine .p (i := 15) rfl (by kernel_rfl) (.some rfl rfl) (q_move rfl) ?_
                    have hfin : gt Ms a b ≠ free := hb70
                    have hMb : -1400000 ≤ gi (gr Ms a) b ∧ gi (gr Ms a) b ≤ 1400000 := by
                      obtain ⟨x, hx, e1, e2⟩ := hT.all a b ha hb (fun e => hb60 (by rw [e])) hfin
                      have h1 := harc x hx
                      have h2 := (hT.ok x hx).2.2.2.1
                      rw [e1, e2] at h2
                      change gi (gr Ms a) b = x.c at h2
                      omega
                    first | (refine .ixX (enc := fun x => [I x]) (i := 16) hs rfl (by kernel_rfl) (.some rfl rfl) (by assumption) rfl rfl Try.runUnderlying22 Try.sizeOf3 (by assumption) (by first | rfl | omega) ?_; intro b73 o73 hc73; replace hc73 := CellsAt.one hc73) | refine .p (i := 16) rfl (by kernel_rfl) (.some rfl rfl) (q_ixO rfl rfl Try.runUnderlying22 Try.sizeOf3 (by first | rfl | omega) (by first | assumption | omega)) ?_  -- indexAddr <[]int> t71 t72
                    first | refine .load (i := 17) hs rfl (by kernel_rfl) (.some rfl rfl) rfl Try.isAgg3 ?_ (by repeat (first | exact .here | assumption | exact Mem.row (by omega) (by omega) | refine .there ?_ | refine Mem.app2 ?_)) (by first | rfl | exact ptr_get (by omega) | exact Is_gt (by assumption) (by omega) (by omega) | exact Is_gi (by first | assumption | omega)) | refine .r (i := 17) hs rfl (by kernel_rfl) (.some rfl rfl) (q_loadR rfl Try.isAgg3 (by assumption)) ?_
                    refine .p (i := 18) rfl (by kernel_rfl) (.some rfl rfl) (q_move rfl) ?_
                    refine .p (i := 19) rfl (by kernel_rfl) (.some rfl rfl) (q_move rfl) ?_
                    refine .ixT (i := 20) hs rfl (by kernel_rfl) (.some rfl rfl) hM rfl rfl Try.runUnderlying87 Try.sizeOf22 ha rfl ?_; intro b77 o77 a77 c77 hc77 hR77
                    refine .r (i := 21) hs rfl (by kernel_rfl) (.some rfl rfl) (q_loadR rfl Try.isAgg22 hc77) ?_
                    refine .p (i := 22) rfl (by kernel_rfl) (.some rfl rfl) (q_move rfl) ?_
                    refine .ixX (enc := fun x => [I x]) (i := 23) hs rfl (by kernel_rfl) (.some rfl rfl) hR77 rfl rfl Try.runUnderlying22 Try.sizeOf3 (gi_get (l := _) (i := b) (by omega)) rfl ?_; intro b80 o80 hc80; replace hc80 := CellsAt.one hc80
                    refine .r (i := 24) hs rfl (by kernel_rfl) (.some rfl rfl) (q_loadR rfl Try.isAgg3 hc80) ?_
                    first | refine .p (i := 25) rfl (by kernel_rfl) (.some rfl rfl) (q_addF rfl rfl (by omega)) ?_ | refine .p (i := 25) rfl (by kernel_rfl) (.some rfl rfl) (q_addU rfl rfl ⟨by omega, by omega⟩) ?_ | refine .p (i := 25) rfl (by kernel_rfl) (.some rfl rfl) (q_add rfl rfl) ?_
                    refine .p (i := 26) rfl (by kernel_rfl) (.some rfl rfl) (q_move rfl) ?_
                    refine .p (i := 27) rfl (by kernel_rfl) (.some rfl rfl) (q_move rfl) ?_
                    first | (refine .ixX (enc := fun x => [I x]) (i := 28) hs rfl (by kernel_rfl) (.some rfl rfl) (by assumption) rfl rfl Try.runUnderlying22 Try.sizeOf3 (by assumption) (by first | rfl | omega) ?_; intro b85 o85 hc85; replace hc85 := CellsAt.one hc85) | refine .p (i := 28) rfl (by kernel_rfl) (.some rfl rfl) (q_ixO rfl rfl Try.runUnderlying22 Try.sizeOf3 (by first | rfl | omega) (by first | assumption | omega)) ?_  -- indexAddr <[]int> t83 t84
                    first | refine .load (i := 29) hs rfl (by kernel_rfl) (.some rfl rfl) rfl Try.isAgg3 ?_ (by repeat (first | exact .here | assumption | exact Mem.row (by omega) (by omega) | refine .there ?_ | refine Mem.app2 ?_)) (by first | rfl | exact ptr_get (by omega) | exact Is_gt (by assumption) (by omega) (by omega) | exact Is_gi (by first | assumption | omega)) | refine .r (i := 29) hs rfl (by kernel_rfl) (.some rfl rfl) (q_loadR rfl Try.isAgg3 (by assumption)) ?_
                    refine .p (i := 30) rfl (by kernel_rfl) (.some rfl rfl) (q_lss rfl rfl) ?_
                    refine .p (i := 31) rfl (by kernel_rfl) .none (q_pickT rfl rfl) ?_
                    refine .done (by kernel_rfl) hs ?_ (hp := by repeat (first | exact .nil | refine .cons (by first | exact HLe.bot _ | exact HLe.refl _ | assumption) (by first | exact .nil | (refine Sub.one ?_; repeat (first | exact .here | assumption | exact Mem.row (by omega) (by omega) | refine .there ?_ | refine Mem.app2 ?_))) ?_))
                    exact nT ⟨_, by repeat (first | exact .nil rfl rfl | refine .cons rfl ?_), by
                      intro hp
                      first
                        | (cases hp; done)
                        | exact ⟨fun e => hb60 (by rw [e]), hb70, of_decide_eq_true hp⟩, by
                      intro hp
                      first
                        | (cases hp; done)
                        | exact .inl (by omega)
                        | exact .inr (.inl hb70)
                        | exact .inr (.inr (of_decide_eq_false hp)), hs⟩
                  · refine .qF (i := 14) rfl (by kernel_rfl) rfl rfl ?_
                    refine .qF (i := 15) rfl (by kernel_rfl) rfl rfl ?_
                    refine .qF (i := 16) rfl (by kernel_rfl) rfl rfl ?_
                    refine .qF (i := 17) rfl (by kernel_rfl) rfl rfl ?_
                    refine .qF (i := 18) rfl (by kernel_rfl) rfl rfl ?_
                    refine .qF (i := 19) rfl (by kernel_rfl) rfl rfl ?_
                    refine .qF (i := 20) rfl (by kernel_rfl) rfl rfl ?_
                    refine .qF (i := 21) rfl (by kernel_rfl) rfl rfl ?_
                    refine .qF (i := 22) rfl (by kernel_rfl) rfl rfl ?_
                    refine .qF (i := 23) rfl (by kernel_rfl) rfl rfl ?_
                    refine .qF (i := 24) rfl (by kernel_rfl) rfl rfl ?_
                    refine .qF (i := 25) rfl (by kernel_rfl) rfl rfl ?_
                    refine .qF (i := 26) rfl (by kernel_rfl) rfl rfl ?_
                    refine .qF (i := 27) rfl (by kernel_rfl) rfl rfl ?_
                    refine .qF (i := 28) rfl (by kernel_rfl) rfl rfl ?_
                    refine .qF (i := 29) rfl (by kernel_rfl) rfl rfl ?_
                    refine .qF (i := 30) rfl (by kernel_rfl) rfl rfl ?_
                    refine .p (i := 31) rfl (by kernel_rfl) .none (q_pickF rfl rfl) ?_
                    refine .done (by kernel_rfl) hs ?_ (hp := by repeat (first | exact .nil | refine .cons (by first | exact HLe.bot _ | exact HLe.refl _ | assumption) (by first | exact .nil | (refine Sub.one ?_; repeat (first | exact .here | assumption | exact Mem.row (by omega) (by omega) | refine .there ?_ | refine Mem.app2 ?_))) ?_))
                    exact nT ⟨_, by repeat (first | exact .nil rfl rfl | refine .cons rfl ?_), by
                      intro hp
                      first
                        | (cases hp; done)
                        | exact ⟨fun e => hb60 (by rw [e]), hb70, of_decide_eq_true hp⟩, by
                      intro hp
                      first
                        | (cases hp; done)
                        | exact .inl (by omega)
                        | exact .inr (.inl hb70)
                        | exact .inr (.inr (of_decide_eq_false hp)), hs⟩
                · refine .qF (i := 4) rfl (by kernel_rfl) rfl rfl ?_
                  refine .qF (i := 5) rfl (by kernel_rfl) rfl rfl ?_
                  refine .qF (i := 6) rfl (by kernel_rfl) rfl rfl ?_
                  refine .qF (i := 7) rfl (by kernel_rfl) rfl rfl ?_
                  refine .qF (i := 8) rfl (by kernel_rfl) rfl rfl ?_
                  refine .qF (i := 9) rfl (by kernel_rfl) rfl rfl ?_
                  refine .qF (i := 10) rfl (by kernel_rfl) rfl rfl ?_
                  refine .qF (i := 11) rfl (by kernel_rfl) rfl rfl ?_
                  refine .p (i := 12) rfl (by kernel_rfl) .none (q_pickF rfl rfl) ?_
                  refine .p (i := 13) rfl (by kernel_rfl) .none (q_move rfl) ?_
                  refine .qF (i := 14) rfl (by kernel_rfl) rfl rfl ?_
                  refine .qF (i := 15) rfl (by kernel_rfl) rfl rfl ?_
                  refine .qF (i := 16) rfl (by kernel_rfl) rfl rfl ?_
                  refine .qF (i := 17) rfl (by kernel_rfl) rfl rfl ?_
                  refine .qF (i := 18) rfl (by kernel_rfl) rfl rfl ?_
                  refine .qF (i := 19) rfl (by kernel_rfl) rfl rfl ?_
                  refine .qF (i := 20) rfl (by kernel_rfl) rfl rfl ?_
                  refine .qF (i := 21) rfl (by kernel_rfl) rfl rfl ?_
                  refine .qF (i := 22) rfl (by kernel_rfl) rfl rfl ?_
                  refine .qF (i := 23) rfl (by kernel_rfl) rfl rfl ?_
                  refine .qF (i := 24) rfl (by kernel_rfl) rfl rfl ?_
                  refine .qF (i := 25) rfl (by kernel_rfl) rfl rfl ?_
                  refine .qF (i := 26) rfl (by kernel_rfl) rfl rfl ?_
                  refine .qF (i := 27) rfl (by kernel_rfl) rfl rfl ?_
                  refine .qF (i := 28) rfl (by kernel_rfl) rfl rfl ?_
                  refine .qF (i := 29) rfl (by kernel_rfl) rfl rfl ?_
                  refine .qF (i := 30) rfl (by kernel_rfl) rfl rfl ?_
                  refine .p (i := 31) rfl (by kernel_rfl) .none (q_pickF rfl rfl) ?_
                  refine .done (by kernel_rfl) hs ?_ (hp := by repeat (first | exact .nil | refine .cons (by first | exact HLe.bot _ | exact HLe.refl _ | assumption) (by first | exact .nil | (refine Sub.one ?_; repeat (first | exact .here | assumption | exact Mem.row (by omega) (by omega) | refine .there ?_ | refine Mem.app2 ?_))) ?_))
                  exact nT ⟨_, by repeat (first | exact .nil rfl rfl | refine .cons rfl ?_), by
                    intro hp
                    first
                      | (cases hp; done)
                      | exact ⟨fun e => hb60 (by rw [e]), hb70, of_decide_eq_true hp⟩, by
                    intro hp
                    first
                      | (cases hp; done)
                      | exact .inl (by omega)
                      | exact .inr (.inl hb70)
                      | exact .inr (.inr (of_decide_eq_false hp)), hs⟩
              · rintro fs w ⟨p, hfs, hp1, hp2, hs⟩
                refine WE.sub ?_ hfs
                refine (.cond rfl (fun hc88 => ?_) (fun hc88 => ?_))
                · refine .seq (.draw mix rfl hs ?_); intro w hs
                  obtain ⟨hab, hfin, hlt⟩ := hp1 hc88
                  obtain ⟨x, hx, e1, e2⟩ := hT.all a b ha hb hab hfin
                  have e3 : gi (gr Ms a) b = x.c := by
                    have h2 := (hT.ok x hx).2.2.2.1
                    rw [e1, e2] at h2; exact h2
                  have hxc := harc x hx
                  have hxl : ¬ x.l < 0 := by have := (hT.at hx).2; omega
                  have hstp : stepC es x = [I (a : Int), .bool false] := by
                    unfold stepC
                    rw [if_neg hxl, e1]
                    simp [(hT.fwd_iff hx).1]
                  have hset : setL (StepsC es s'.by_) (b * 2) [I (a : Int), Value.bool false] = StepsC es (s'.by_.set b x) := by rw [← hstp]; exact setL_two (by have := hV'.lb; omega) x
                  have hsr : s'.rlx x = ⟨s'.cost.set b (gi s'.cost a + gi (gr Ms a) b), s'.by_.set b x⟩ := by unfold BS.rlx; rw [e1, e2, e3]
                  have hcan : s'.can x := by unfold BS.can; rw [e1, e2, ← e3]; exact hlt
                  have hxm : x ∈ resid es ts := (resid_iff hT hC).2 (.inl hx)
                  have hlb := hV'.lb
                  refine .p (i := 0) rfl (by kernel_rfl) .none (q_move rfl) ?_
                  refine .p (i := 1) rfl (by kernel_rfl) .none (q_move rfl) ?_
                  refine .p (i := 2) rfl (by kernel_rfl) .none (q_move rfl) ?_
                  refine .p (i := 3) rfl (by kernel_rfl) .none (q_move rfl) ?_
                  first | (refine .ixX (enc := fun x => [I x]) (i := 4) hs rfl (by kernel_rfl) .none (by assumption) rfl rfl Try.runUnderlying22 Try.sizeOf3 (by assumption) (by first | rfl | omega) ?_; intro b93 o93 hc93; replace hc93 := CellsAt.one hc93) | refine .p (i := 4) rfl (by kernel_rfl) .none (q_ixO rfl rfl Try.runUnderlying22 Try.sizeOf3 (by first | rfl | omega) (by first | assumption | omega)) ?_  -- indexAddr <[]int> t91 t92
                  first | refine .load (i := 5) hs rfl (by kernel_rfl) .none rfl Try.isAgg3 ?_ (by repeat (first | exact .here | assumption | exact Mem.row (by omega) (by omega) | refine .there ?_ | refine Mem.app2 ?_)) (by first | rfl | exact ptr_get (by omega) | exact Is_gt (by assumption) (by omega) (by omega) | exact Is_gi (by first | assumption | omega)) | refine .r (i := 5) hs rfl (by kernel_rfl) .none (q_loadR rfl Try.isAgg3 (by assumption)) ?_
                  refine .p (i := 6) rfl (by kernel_rfl) .none (q_move rfl) ?_
                  refine .p (i := 7) rfl (by kernel_rfl) .none (q_move rfl) ?_
                  refine .ixT (i := 8) hs rfl (by kernel_rfl) .none hM rfl rfl Try.runUnderlying87 Try.sizeOf22 ha rfl ?_; intro b97 o97 a97 c97 hc97 hR97
                  refine .r (i := 9) hs rfl (by kernel_rfl) .none (q_loadR rfl Try.isAgg22 hc97) ?_
                  refine .p (i := 10) rfl (by kernel_rfl) .none (q_move rfl) ?_
                  refine .ixX (enc := fun x => [I x]) (i := 11) hs rfl (by kernel_rfl) .none hR97 rfl rfl Try.runUnderlying22 Try.sizeOf3 (gi_get (l := _) (i := b) (by omega)) rfl ?_; intro b100 o100 hc100; replace hc100 := CellsAt.one hc100
                  refine .r (i := 12) hs rfl (by kernel_rfl) .none (q_loadR rfl Try.isAgg3 hc100) ?_
                  first | refine .p (i := 13) rfl (by kernel_rfl) .none (q_addF rfl rfl (by omega)) ?_ | refine .p (i := 13) rfl (by kernel_rfl) .none (q_addU rfl rfl ⟨by omega, by omega⟩) ?_ | refine .p (i := 13) rfl (by kernel_rfl) .none (q_add rfl rfl) ?_
                  first | (refine .ixX (enc := fun x => [I x]) (i := 14) hs rfl (by kernel_rfl) .none (by assumption) rfl rfl Try.runUnderlying22 Try.sizeOf3 (by assumption) (by first | rfl | omega) ?_; intro b103 o103 hc103; replace hc103 := CellsAt.one hc103) | refine .p (i := 14) rfl (by kernel_rfl) .none (q_ixO rfl rfl Try.runUnderlying22 Try.sizeOf3 (by first | rfl | omega) (by first | assumption | omega)) ?_  -- indexAddr <[]int> t89 t90
                  refine .e1 (i := 15) (by kernel_rfl) rfl rfl .none hs ?_ (hp := by repeat (first | exact .nil | refine .cons (by first | exact HLe.bot _ | exact HLe.refl _ | assumption) (by first | exact .nil | (refine Sub.one ?_; repeat (first | exact .here | assumption | exact Mem.row (by omega) (by omega) | refine .there ?_ | refine Mem.app2 ?_))) ?_))
                  refine .store hs rfl rfl Try.sizeOf3 ?_; intro w hs
                  refine .go ?_
                  refine .done (by kernel_rfl) hs ?_ (hp := by repeat (first | exact .nil | refine .cons (by first | exact HLe.bot _ | exact HLe.refl _ | assumption) (by first | exact .nil | (refine Sub.one ?_; repeat (first | exact .here | assumption | exact Mem.row (by omega) (by omega) | refine .there ?_ | refine Mem.app2 ?_))) ?_))
                  refine .regSeq ?_
                  refine .q hs (q_move rfl) ?_
                  refine .q hs (q_move rfl) ?_
                  refine .q hs (q_move rfl) ?_
                  refine .q hs (q_build (cells := [_, _]) bld_moorsomref02_step rfl) ?_
                  first | (refine .ixX hs (by assumption) rfl rfl Try.runUnderlying239 Try.sizeOf244 (by assumption) (by first | rfl | omega) ?_; intro b108 o108 hc108) | refine .q hs (q_ixOm rfl rfl Try.runUnderlying239 Try.sizeOf244 (by first | rfl | omega) (by first | assumption | omega)) ?_  -- indexAddr <[]moorsomref02.step> t104 t105
                  refine .o (.stores (vs := [I (a : Int), Value.bool false]) hs rfl rfl Try.sizeOf244 ?_ (by repeat constructor) (by rw [StepsC_length]; simp <;> omega) hset); intro w hs
                  refine .nil ?_
                  refine .region ?_
                  refine .q hs (q_assign rfl) ?_
                  refine .nil ?_
                  refine nT ?_
                  have hR := hV'.relax (Dn' := UptoF es a b) hg hxm (by rw [e1]; exact hfa) hcan
                  have hL := hV'.less hg hxm (by rw [e1]; exact hfa) hcan
                  rw [hsr] at hR hL
                  exact ⟨true, _, by repeat (first | exact .nil rfl rfl | refine .cons rfl ?_), hR, ⟨by omega, fun _ => by omega⟩, by dsimp only; rw [gi_set (by omega), if_neg hab]; exact hfa, hs⟩
                · refine .skip ?_
                  refine nT ?_
                  exact ⟨ag', s', by repeat (first | exact .nil rfl rfl | refine .cons rfl ?_), hV'.noF (fun x hx e1 e2 hc => by
                    obtain ⟨b1, b2, b3, b4, b5⟩ := hT.ok x hx
                    rw [e1, e2] at b4
                    rcases hp2 hc88 with h | h | h
                    · exact b3 (by rw [e1, e2, h])
                    · exact b5 (by rw [← b4, h])
                    · exact h (by rw [b4]; exact hc.2)), hW, hfa, hs⟩
            · clear hV' hW hlc hlow hlo htop hfa
              rintro fs w ⟨ag', s', hfs, hV', hW, hfa, hs⟩
              refine WE.sub ?_ hfs
              have hlc := hV'.lc
              have hlow := hV'.low hg ha hfa
              have hlo := hV'.lo a ha
              have htop := hV'.top b hb
              refine .cut (fun fs w => ∃ p, FSub fs ⟨160, [], [(135, .bool p), (11, .bool ag'), (13, I (b : Int)), (54, I (b : Int)), (53, I (Ms.length : Int)), (12, I (a : Int)), (44, I (a : Int)), (43, I (Ms.length : Int)), (8, .slice (some ⟨b16, 0, none⟩) Ms.length Ms.length), (9, .slice (some ⟨b19, 0, none⟩) Ms.length Ms.length), (0, .slice am Ms.length cm), (1, .slice (some ⟨bF, 0, none⟩) Ms.length Ms.length), (2, .slice (some ⟨bN, 0, none⟩) Ms.length capN)]⟩ ∧ (p = true → 0 < gt Fs b a ∧ gi s'.cost a - gt Ms b a < gi s'.cost b) ∧ (p = false → ¬ 0 < gt Fs b a ∨ ¬ gi s'.cost a - gt Ms b a < gi s'.cost b) ∧ St H w (.blk b19 (StepsC es s'.by_) :: .blk b16 (Is s'.cost) :: σ)) ?_ ?_
              · refine .draw mix rfl hs ?_; intro w hs
                refine .p (i := 0) rfl (by kernel_rfl) .none (q_move rfl) ?_
                refine .p (i := 1) rfl (by kernel_rfl) .none (q_move rfl) ?_
                refine .p (i := 2) rfl (by kernel_rfl) .none (q_ixO (k := b) rfl rfl Try.runUnderlying87 Try.sizeOf22 rfl hb) ?_
                refine .load (i := 3) hs rfl (by kernel_rfl) .none rfl Try.isAgg22 ?_ (.there (.there hF0)) (ptr_get (by omega))
                refine .p (i := 4) rfl (by kernel_rfl) .none (q_move rfl) ?_
                refine .p (i := 5) rfl (by kernel_rfl) .none (q_ixO (k := a) rfl rfl Try.runUnderlying22 Try.sizeOf3 rfl ha) ?_
                refine .load (i := 6) hs rfl (by kernel_rfl) .none rfl Try.isAgg3 ?_ (.there (.there (hF b hb))) (Is_gt hqF hb ha)
                refine .p (i := 7) rfl (by kernel_rfl) .none (q_gtr rfl rfl) ?_
                refine .p (i := 8) rfl (by kernel_rfl) .none (q_move rfl) ?_
                refine .bifD (t' := 117) rfl (fun hb117 => ?_) (fun hb117 => ?_)
                · refine .p (i := 9) rfl (by kernel_rfl) (.some rfl rfl) (q_move rfl) ?_
                  refine .p (i := 10) rfl (by kernel_rfl) (.some rfl rfl) (q_move rfl) ?_
                  have hMb : -1400000 ≤ gi (gr Ms b) a ∧ gi (gr Ms b) a ≤ 1400000 := by
                    obtain ⟨x, hx, e1, e2⟩ := hC.pos hb ha hb117
                    have h1 := harc x hx
                    have h2 := (hT.ok x hx).2.2.2.1
                    rw [e1, e2] at h2
                    change gi (gr Ms b) a = x.c at h2
                    omega
                  first | (refine .ixX (enc := fun x => [I x]) (i := 11) hs rfl (by kernel_rfl) (.some rfl rfl) (by assumption) rfl rfl Try.runUnderlying22 Try.sizeOf3 (by assumption) (by first | rfl | omega) ?_; intro b120 o120 hc120; replace hc120 := CellsAt.one hc120) | refine .p (i := 11) rfl (by kernel_rfl) (.some rfl rfl) (q_ixO rfl rfl Try.runUnderlying22 Try.sizeOf3 (by first | rfl | omega) (by first | assumption | omega)) ?_  -- indexAddr <[]int> t118 t119
                  first | refine .load (i := 12) hs rfl (by kernel_rfl) (.some rfl rfl) rfl Try.isAgg3 ?_ (by repeat (first | exact .here | assumption | exact Mem.row (by omega) (by omega) | refine .there ?_ | refine Mem.app2 ?_)) (by first | rfl | exact ptr_get (by omega) | exact Is_gt (by assumption) (by omega) (by omega) | exact Is_gi (by first | assumption | omega)) | refine .r (i := 12) hs rfl (by kernel_rfl) (.some rfl rfl) (q_loadR rfl Try.isAgg3 (by assumption)) ?_
                  refine .p (i := 13) rfl (by kernel_rfl) (.some rfl rfl) (q_move rfl) ?_
                  refine .p (i := 14) rfl (by kernel_rfl) (.some rfl rfl) (q_move rfl) ?_
                  refine .ixT (i := 15) hs rfl (by kernel_rfl) (.some rfl rfl) hM rfl rfl Try.runUnderlying87 Try.sizeOf22 hb rfl ?_; intro b124 o124 a124 c124 hc124 hR124
                  refine .r (i := 16) hs rfl (by kernel_rfl) (.some rfl rfl) (q_loadR rfl Try.isAgg22 hc124) ?_
                  refine .p (i := 17) rfl (by kernel_rfl) (.some rfl rfl) (q_move rfl) ?_
                  refine .ixX (enc := fun x => [I x]) (i := 18) hs rfl (by kernel_rfl) (.some rfl rfl) hR124 rfl rfl Try.runUnderlying22 Try.sizeOf3 (gi_get (l := _) (i := a) (by omega)) rfl ?_; intro b127 o127 hc127; replace hc127 := CellsAt.one hc127
                  refine .r (i := 19) hs rfl (by kernel_rfl) (.some rfl rfl) (q_loadR rfl Try.isAgg3 hc127) ?_
                  first | refine .p (i := 20) rfl (by kernel_rfl) (.some rfl rfl) (q_subF rfl rfl (by omega)) ?_ | refine .p (i := 20) rfl (by kernel_rfl) (.some rfl rfl) (q_sub rfl rfl) ?_
                  refine .p (i := 21) rfl (by kernel_rfl) (.some rfl rfl) (q_move rfl) ?_
                  refine .p (i := 22) rfl (by kernel_rfl) (.some rfl rfl) (q_move rfl) ?_
                  first | (refine .ixX (enc := fun x => [I x]) (i := 23) hs rfl (by kernel_rfl) (.some rfl rfl) (by assumption) rfl rfl Try.runUnderlying22 Try.sizeOf3 (by assumption) (by first | rfl | omega) ?_; intro b132 o132 hc132; replace hc132 := CellsAt.one hc132) | refine .p (i := 23) rfl (by kernel_rfl) (.some rfl rfl) (q_ixO rfl rfl Try.runUnderlying22 Try.sizeOf3 (by first | rfl | omega) (by first | assumption | omega)) ?_  -- indexAddr <[]int> t130 t131
                  first | refine .load (i := 24) hs rfl (by kernel_rfl) (.some rfl rfl) rfl Try.isAgg3 ?_ (by repeat (first | exact .here | assumption | exact Mem.row (by omega) (by omega) | refine .there ?_ | refine Mem.app2 ?_)) (by first | rfl | exact ptr_get (by omega) | exact Is_gt (by assumption) (by omega) (by omega) | exact Is_gi (by first | assumption | omega)) | refine .r (i := 24) hs rfl (by kernel_rfl) (.some rfl rfl) (q_loadR rfl Try.isAgg3 (by assumption)) ?_
                  refine .p (i := 25) rfl (by kernel_rfl) (.some rfl rfl) (q_lss rfl rfl) ?_
                  refine .p (i := 26) rfl (by kernel_rfl) .none (q_pickT rfl rfl) ?_
                  refine .done (by kernel_rfl) hs ?_ (hp := by repeat (first | exact .nil | refine .cons (by first | exact HLe.bot _ | exact HLe.refl _ | assumption) (by first | exact .nil | (refine Sub.one ?_; repeat (first | exact .here | assumption | exact Mem.row (by omega) (by omega) | refine .there ?_ | refine Mem.app2 ?_))) ?_))
                  exact nT ⟨_, by repeat (first | exact .nil rfl rfl | refine .cons rfl ?_), by
                    intro hp
                    first
                      | (cases hp; done)
                      | exact ⟨hb117, of_decide_eq_true hp⟩, by
                    intro hp
                    first
                      | (cases hp; done)
                      | exact .inl hb117
                      | exact .inr (of_decide_eq_false hp), hs⟩
                · refine .qF (i := 9) rfl (by kernel_rfl) rfl rfl ?_
                  refine .qF (i := 10) rfl (by kernel_rfl) rfl rfl ?_
                  refine .qF (i := 11) rfl (by kernel_rfl) rfl rfl ?_
                  refine .qF (i := 12) rfl (by kernel_rfl) rfl rfl ?_
                  refine .qF (i := 13) rfl (by kernel_rfl) rfl rfl ?_
                  refine .qF (i := 14) rfl (by kernel_rfl) rfl rfl ?_
                  refine .qF (i := 15) rfl (by kernel_rfl) rfl rfl ?_
                  refine .qF (i := 16) rfl (by kernel_rfl) rfl rfl ?_
                  refine .qF (i := 17) rfl (by kernel_rfl) rfl rfl ?_
                  refine .qF (i := 18) rfl (by kernel_rfl) rfl rfl ?_
                  refine .qF (i := 19) rfl (by kernel_rfl) rfl rfl ?_
                  refine .qF (i := 20) rfl (by kernel_rfl) rfl rfl ?_
                  refine .qF (i := 21) rfl (by kernel_rfl) rfl rfl ?_
                  refine .qF (i := 22) rfl (by kernel_rfl) rfl rfl ?_
                  refine .qF (i := 23) rfl (by kernel_rfl) rfl rfl ?_
                  refine .qF (i := 24) rfl (by kernel_rfl) rfl rfl ?_
                  refine .qF (i := 25) rfl (by kernel_rfl) rfl rfl ?_
                  refine .p (i := 26) rfl (by kernel_rfl) .none (q_pickF rfl rfl) ?_
                  refine .done (by kernel_rfl) hs ?_ (hp := by repeat (first | exact .nil | refine .cons (by first | exact HLe.bot _ | exact HLe.refl _ | assumption) (by first | exact .nil | (refine Sub.one ?_; repeat (first | exact .here | assumption | exact Mem.row (by omega) (by omega) | refine .there ?_ | refine Mem.app2 ?_))) ?_))
                  exact nT ⟨_, by repeat (first | exact .nil rfl rfl | refine .cons rfl ?_), by
                    intro hp
                    first
                      | (cases hp; done)
                      | exact ⟨hb117, of_decide_eq_true hp⟩, by
                    intro hp
                    first
                      | (cases hp; done)
                      | exact .inl hb117
                      | exact .inr (of_decide_eq_false hp), hs⟩
              · rintro fs w ⟨p, hfs, hp1, hp2, hs⟩
                refine WE.sub ?_ hfs
                refine (.cond rfl (fun hc135 => ?_) (fun hc135 => ?_))
                · refine .seq (.draw mix rfl hs ?_); intro w hs
                  obtain ⟨hpos, hlt⟩ := hp1 hc135
                  obtain ⟨x, hx, e1, e2⟩ := hC.pos hb ha hpos
                  have e3 : gi (gr Ms b) a = x.c := by
                    have h2 := (hT.ok x hx).2.2.2.1
                    rw [e1, e2] at h2; exact h2
                  have hxc := harc x hx
                  have hab : a ≠ b := fun e => (hT.ok x hx).2.2.1 (by rw [e1, e2, e])
                  have hxl : ¬ x.back.l < 0 := by have := (hT.at hx).2; show ¬ x.l < 0; omega
                  have e4 : x.back.f = a := e2
                  have e5 : x.back.t = b := e1
                  have hstp : stepC es x.back = [I (a : Int), .bool true] := by
                    unfold stepC
                    rw [if_neg hxl, e4]
                    simp [(hT.fwd_iff hx).2]
                  have hset : setL (StepsC es s'.by_) (b * 2) [I (a : Int), Value.bool true] = StepsC es (s'.by_.set b x.back) := by rw [← hstp]; exact setL_two (by have := hV'.lb; omega) x.back
                  have hsr : s'.rlx x.back = ⟨s'.cost.set b (gi s'.cost a - gi (gr Ms b) a), s'.by_.set b x.back⟩ := by
                    unfold BS.rlx
                    rw [e4, e5, e3]; rfl
                  have hcan : s'.can x.back := by
                    unfold BS.can
                    rw [e4, e5]
                    show gi s'.cost a + -x.c < _
                    rw [← e3]
                    exact hlt
                  have hxm : x.back ∈ resid es ts := (resid_iff hT hC).2 (.inr ⟨x, hx, by rw [e1, e2]; exact hpos, rfl⟩)
                  have hlb := hV'.lb
                  refine .p (i := 0) rfl (by kernel_rfl) .none (q_move rfl) ?_
                  refine .p (i := 1) rfl (by kernel_rfl) .none (q_move rfl) ?_
                  refine .p (i := 2) rfl (by kernel_rfl) .none (q_move rfl) ?_
                  refine .p (i := 3) rfl (by kernel_rfl) .none (q_move rfl) ?_
                  first | (refine .ixX (enc := fun x => [I x]) (i := 4) hs rfl (by kernel_rfl) .none (by assumption) rfl rfl Try.runUnderlying22 Try.sizeOf3 (by assumption) (by first | rfl | omega) ?_; intro b140 o140 hc140; replace hc140 := CellsAt.one hc140) | refine .p (i := 4) rfl (by kernel_rfl) .none (q_ixO rfl rfl Try.runUnderlying22 Try.sizeOf3 (by first | rfl | omega) (by first | assumption | omega)) ?_  -- indexAddr <[]int> t138 t139
                  first | refine .load (i := 5) hs rfl (by kernel_rfl) .none rfl Try.isAgg3 ?_ (by repeat (first | exact .here | assumption | exact Mem.row (by omega) (by omega) | refine .there ?_ | refine Mem.app2 ?_)) (by first | rfl | exact ptr_get (by omega) | exact Is_gt (by assumption) (by omega) (by omega) | exact Is_gi (by first | assumption | omega)) | refine .r (i := 5) hs rfl (by kernel_rfl) .none (q_loadR rfl Try.isAgg3 (by assumption)) ?_
                  refine .p (i := 6) rfl (by kernel_rfl) .none (q_move rfl) ?_
                  refine .p (i := 7) rfl (by kernel_rfl) .none (q_move rfl) ?_
                  refine .ixT (i := 8) hs rfl (by kernel_rfl) .none hM rfl rfl Try.runUnderlying87 Try.sizeOf22 hb rfl ?_; intro b144 o144 a144 c144 hc144 hR144
                  refine .r (i := 9) hs rfl (by kernel_rfl) .none (q_loadR rfl Try.isAgg22 hc144) ?_
                  refine .p (i := 10) rfl (by kernel_rfl) .none (q_move rfl) ?_
                  refine .ixX (enc := fun x => [I x]) (i := 11) hs rfl (by kernel_rfl) .none hR144 rfl rfl Try.runUnderlying22 Try.sizeOf3 (gi_get (l := _) (i := a) (by omega)) rfl ?_; intro b147 o147 hc147; replace hc147 := CellsAt.one hc147
                  refine .r (i := 12) hs rfl (by kernel_rfl) .none (q_loadR rfl Try.isAgg3 hc147) ?_
                  first | refine .p (i := 13) rfl (by kernel_rfl) .none (q_subF rfl rfl (by omega)) ?_ | refine .p (i := 13) rfl (by kernel_rfl) .none (q_sub rfl rfl) ?_
                  first | (refine .ixX (enc := fun x => [I x]) (i := 14) hs rfl (by kernel_rfl) .none (by assumption) rfl rfl Try.runUnderlying22 Try.sizeOf3 (by assumption) (by first | rfl | omega) ?_; intro b150 o150 hc150; replace hc150 := CellsAt.one hc150) | refine .p (i := 14) rfl (by kernel_rfl) .none (q_ixO rfl rfl Try.runUnderlying22 Try.sizeOf3 (by first | rfl | omega) (by first | assumption | omega)) ?_  -- indexAddr <[]int> t136 t137
                  refine .e1 (i := 15) (by kernel_rfl) rfl rfl .none hs ?_ (hp := by repeat (first | exact .nil | refine .cons (by first | exact HLe.bot _ | exact HLe.refl _ | assumption) (by first | exact .nil | (refine Sub.one ?_; repeat (first | exact .here | assumption | exact Mem.row (by omega) (by omega) | refine .there ?_ | refine Mem.app2 ?_))) ?_))
                  refine .store hs rfl rfl Try.sizeOf3 ?_; intro w hs
                  refine .go ?_
                  refine .done (by kernel_rfl) hs ?_ (hp := by repeat (first | exact .nil | refine .cons (by first | exact HLe.bot _ | exact HLe.refl _ | assumption) (by first | exact .nil | (refine Sub.one ?_; repeat (first | exact .here | assumption | exact Mem.row (by omega) (by omega) | refine .there ?_ | refine Mem.app2 ?_))) ?_))
                  refine .regSeq ?_
                  refine .q hs (q_move rfl) ?_
                  refine .q hs (q_move rfl) ?_
                  refine .q hs (q_move rfl) ?_
                  refine .q hs (q_build (cells := [_, _]) bld_moorsomref02_step rfl) ?_
                  first | (refine .ixX hs (by assumption) rfl rfl Try.runUnderlying239 Try.sizeOf244 (by assumption) (by first | rfl | omega) ?_; intro b155 o155 hc155) | refine .q hs (q_ixOm rfl rfl Try.runUnderlying239 Try.sizeOf244 (by first | rfl | omega) (by first | assumption | omega)) ?_  -- indexAddr <[]moorsomref02.step> t151 t152
                  refine .o (.stores (vs := [I (a : Int), Value.bool true]) hs rfl rfl Try.sizeOf244 ?_ (by repeat constructor) (by rw [StepsC_length]; simp <;> omega) hset); intro w hs
                  refine .nil ?_
                  refine .region ?_
                  refine .q hs (q_assign rfl) ?_
                  refine .nil ?_
                  refine nB (nT ?_)
                  have hR := hV'.relax (Dn' := Upto a (b + 1)) hg hxm (by rw [e4]; exact hfa) hcan
                  have hL := hV'.less hg hxm (by rw [e4]; exact hfa) hcan
                  rw [hsr] at hR hL
                  exact .mk ⟨true, _, rfl, hR, ⟨by omega, fun _ => by omega⟩, by dsimp only; rw [gi_set (by omega), if_neg hab]; exact hfa, hs⟩
                · refine .skip ?_
                  refine nB (nT ?_)
                  exact .mk ⟨ag', s', rfl, hV'.noB hT hC (fun x hx e1 e2 hpos hc => by
                    have h2 := (hT.ok x hx).2.2.2.1
                    rw [e1, e2] at h2
                    rcases hp2 hc135 with h | h
                    · exact h hpos
                    · exact h (by rw [h2]; exact hc.2)), hW, hfa, hs⟩
          · rintro fr w ⟨ag', s', rfl, hV', hW, -, hs⟩
            refine nB (nT ?_)
            exact .mk ⟨ag', s', rfl, hV'.row hg, hW, hs⟩
      · rintro fr w ⟨ag', s', rfl, hV', hW, hs⟩
        refine nB (nT ?_)
        exact ⟨(ag', s'), by repeat (first | exact .nil rfl rfl | refine .cons rfl ?_), ⟨hV'.all hg, hs⟩, by
          subst hc41
          dsimp only
          cases ag' with
          | true => have := hW.2 rfl; simp only [if_true]; omega
          | false => have := hW.1; simp; omega⟩
    · refine .exit ?_
      refine xT (xT (xB (nT ?_)))
      refine .regSeq ?_
      refine .q hs (q_move rfl) ?_
      refine .q hs (q_move rfl) ?_
      refine .q hs (q_assign rfl) ?_
      refine .q hs (q_assign rfl) ?_
      refine .nil ?_
      refine .ret (Fin.ret2 Try.results209 rfl rfl ?_)
      subst hc41
      obtain ⟨H2, g1, g2, hs⟩ := OwnS.publish (m := 2) (v := .slice (some ⟨b19, 0, none⟩) Ms.length Ms.length) (cs := s.by_.map (stepC es)) (en := .blk b19 (StepsC es s.by_)) (.full (by show (StepsC es s.by_).length = _; rw [StepsC_length, hV.lb])) (fun c hc => by simp only [List.mem_map] at hc; obtain ⟨x, _, rfl⟩ := hc; exact stepC_length es x) (by omega) (by rw [List.length_map, hV.lb]; omega) hs .here
      obtain ⟨H3, g3, g4, hs⟩ := OwnS.publishI (v := .slice (some ⟨b16, 0, none⟩) Ms.length Ms.length) (xs := s.cost) (.full (by simp [hV.lc])) (by rw [hV.lc]; omega) hs .here
      exact ⟨H3, _, _, s, g1.trans g3, rfl, g4, RS.mono g2 g3, hV, hs⟩
end Go.Proofs.Ytiiokdeehlfeeaa

/-
  Walk: the reference's least cost of flows.
-/
namespace Go.Proofs.Ytiiokdeehlfeeaa
open Go.MW
set_option maxHeartbeats 8000000 in
theorem ref02_Least_spec {H : Heap} {w : World} {σ : List Ent} {vm vw : Value} {Ms : List (List Int)} {ws : List Int} {n : Nat} {es : List Arc} (hs : St H w σ) (hM : RT H vm Ms) (hqM : Sq (n + 1) Ms) (hw : RI H vw ws) (hl : ws.length = n + 1) (hn : n + 1 ≤ 65) (hz : sizesTo ws (n + 1) ≤ FF)
    (hT : Tab (n + 1) (gt Ms) es) (hfe : ∃ p, Feas es p) (hcb : ∀ x ∈ es, -1400000 ≤ x.c ∧ x.c ≤ 1400000) (hbd : ∀ m, OptS es (wtOf ws (n + 1)) (n + 1) m → -BB ≤ m ∧ m ≤ BB) :
    Cl Try.prog 194 [vm, vw] w fun u w' => ∃ H1 v b, HLe H H1 ∧ u = .tuple #[I v, .bool b] ∧ ((b = true ∧ OptS es (wtOf ws (n + 1)) (n + 1) v) ∨ (b = false ∧ OpenS es (wtOf ws (n + 1)) (n + 1))) ∧ St H1 w' σ := by
  obtain ⟨am, cm, rfl⟩ := hM.shape
  have hml : Ms.length = n + 1 := hqM.1
  rw [hml] at hM ⊢
  have hnum := hT.numb
  have hC0 : ArcsC es (n + 1) := fun x hx => by
    have h1 := hT.ok x hx
    have h2 := (hT.at hx).2
    have h3 := hcb x hx
    exact ⟨h1.1, h1.2.1, h3.1, h3.2, by omega, h1.2.2.1⟩
  have hin : ∀ x ∈ es, x.f < n + 1 ∧ x.t < n + 1 := fun x hx => by have := hC0 x hx; omega
  have hw0 := wt_sum ws (n := n + 1) (by omega)
  have hFF : FF = 3600000000000 := rfl
  have hBB : BB = 4608000000000000000 := rfl
  have hfree : free = 1000000000 := rfl
  refine Cl.of Try.func194 rfl Try.ntmps194 (by simp) (args_cons (k := 0) rfl (args_cons (k := 1) rfl (args0))) ?_
  refine .regSeq ?_
  refine .q hs (q_assign rfl) ?_
  refine .q hs (q_assign rfl) ?_
  refine .nil ?_
  refine .regSeq ?_
  refine .q hs (q_move rfl) ?_
  refine .o (.call Try.call208 rfl (ref02_balance_spec hs hw hl (by omega) hz) ?_); rintro _ w ⟨b21, cap, sp, lf0, rfl, hlf1, hlf2, hs⟩
  refine .q hs (q_assign rfl) ?_
  refine .nil ?_
  refine .regSeq ?_
  refine .q hs (q_move rfl) ?_
  first | refine .q hs (q_len rfl Try.runUnderlying87) ?_ | refine .q hs (q_lenR (by assumption) rfl Try.runUnderlying87) ?_ | refine .q hs (q_lenI (by assumption) rfl Try.runUnderlying87) ?_
  refine .o (.makeP (n + 1) hs rfl rfl Try.runUnderlying87 Try.typeInfo22 rfl Try.sizeOf22 Try.zeroValue22 (by omega) ?_); intro b24 w hs
  refine .q hs (q_assign rfl) ?_
  refine .nil ?_
  refine .seq ?_
  refine .regSeq ?_
  refine .q hs (q_move rfl) ?_
  first | refine .q hs (q_len rfl Try.runUnderlying87) ?_ | refine .q hs (q_lenR (by assumption) rfl Try.runUnderlying87) ?_ | refine .q hs (q_lenI (by assumption) rfl Try.runUnderlying87) ?_
  refine .q hs (q_move rfl) ?_
  refine .nil ?_
  refine .for (N := n + 1) (J := fun k fr w => fr = [(7, .slice (some ⟨b24, 0, none⟩) (n + 1) (n + 1)), (0, .slice am (n + 1) cm), (6, .slice (some ⟨b21, 0, none⟩) (n + 1) cap)] ∧ ∃ bs : List Nat, bs.length = k ∧ St H w (.blk b24 (bs.map (ptr (n + 1)) ++ List.replicate (n + 1 - k) (.slice none 0 0)) :: (rowsE bs (tabR (fun _ _ => 0) (n + 1) k) ++ (.blk b21 (Is lf0 ++ sp) :: σ)))) (by omega) ?_ ?_ ?_
  · exact .mk ⟨rfl, [], rfl, hs⟩
  · rintro k fr w hk ⟨rfl, bs, hbl, hs⟩
    refine .block ?_
    refine .regSeq ?_
    refine .q hs (q_move rfl) ?_
    refine .q hs (q_assign rfl) ?_
    refine .nil ?_
    refine .region ?_
    refine .q hs (q_move rfl) ?_
    refine .q hs (q_move rfl) ?_
    refine .q hs (q_move rfl) ?_
    first | refine .q hs (q_len rfl Try.runUnderlying87) ?_ | refine .q hs (q_lenR (by assumption) rfl Try.runUnderlying87) ?_ | refine .q hs (q_lenI (by assumption) rfl Try.runUnderlying87) ?_
    refine .o (.makeI (n + 1) hs rfl rfl Try.runUnderlying22 Try.typeInfo3 rfl Try.sizeOf3 Try.zeroValue3 (by omega) ?_); intro b34 w hs
    first | (refine .ixX hs (by assumption) rfl rfl Try.runUnderlying87 Try.sizeOf22 (by assumption) (by first | rfl | omega) ?_; intro b35 o35 hc35) | refine .q hs (q_ixO rfl rfl Try.runUnderlying87 Try.sizeOf22 (by first | rfl | omega) (by first | assumption | omega)) ?_  -- indexAddr <[][]int> t30 t31
    refine .o (.store hs rfl rfl Try.sizeOf22 ?_ (by repeat constructor) (by simp [hbl]; omega) (ptr_set hbl hk)); intro w hs
    refine .nil ?_
    refine nB (nT ?_)
    rw [range_const (fun _ => 0) (n + 1) 0 (fun _ _ => rfl)] at hs
    replace hs := hs.rowIn (by rw [hbl, tabR_length])
    rw [← tabR_succ (fun _ _ => 0)] at hs
    exact .mk ⟨rfl, bs ++ [b34], by simp [hbl], hs⟩
  · rintro fr w ⟨rfl, bs, hbl, hs⟩
    rw [Nat.sub_self, List.replicate_zero, List.append_nil] at hs
    have hq0 := tabR_sq (fun _ _ => 0) (n + 1)
    have hc0 : Corr (n + 1) es (List.replicate es.length 0) (gt (tabR (fun _ _ => 0) (n + 1) (n + 1))) := by
      have h := Corr.zero (n + 1) hT
      exact ⟨h.len, fun x hx => by rw [h.arc x hx, tabR_gt _ (hin x hx).1 (hin x hx).2], fun a b ha hb _ => tabR_gt _ ha hb⟩
    have hF0 := FInv.start (es := es) hz hlf1 hlf2 hfe
    refine nT ?_
    refine .block ?_
    refine .loop (fun _ : List (List Int) × List Int × List Int => ⟨183, [], [(7, .slice (some ⟨b24, 0, none⟩) (n + 1) (n + 1)), (0, .slice am (n + 1) cm), (6, .slice (some ⟨b21, 0, none⟩) (n + 1) cap)]⟩) (fun p w => (Sq (n + 1) p.1 ∧ Corr (n + 1) es p.2.1 (gt p.1) ∧ FInv (n + 1) es (wtOf ws (n + 1)) p.2.1 p.2.2) ∧ ∃ H1, HLe H H1 ∧ St H1 w (.blk b24 (bs.map (ptr (n + 1))) :: (rowsE bs p.1 ++ (.blk b21 (Is p.2.2 ++ sp) :: σ)))) (fun p => (rem (n + 1) p.2.2).toNat) (tabR (fun _ _ => 0) (n + 1) (n + 1), List.replicate es.length 0, lf0) (by repeat (first | exact .nil rfl rfl | refine .cons rfl ?_)) ⟨⟨hq0, hc0, hF0⟩, H, HLe.refl H, hs⟩ ?_
    clear hq0 hc0 hF0 hlf1 hlf2 hs
    rintro ⟨Fs, ts, lf⟩ w ⟨⟨hqF, hC, hI⟩, H1, hle1, hs⟩
    dsimp only at hqF hC hI hs ⊢
    obtain ⟨D, hg⟩ := resid_VG (by omega) hn hC0 hI.lt.symm hI.fe
    have hfl := hqF.1
    have hll := hI.ll
    refine .block ?_
    refine .regSeq ?_
    refine .q hs (q_move rfl) ?_
    refine .q hs (q_move rfl) ?_
    refine .q hs (q_move rfl) ?_
    refine .o (.call Try.call209 rfl (ref02_reach_spec (need := lf) (spN := sp) hs (hM.mono hle1) hqM .here hbl hqF (fun i hi => .there (Mem.row (by omega) (by omega))) (.there (Mem.app2 .here)) hll hT hC hg) ?_); rintro _ w ⟨H2, vd, vb, s, hle2, rfl, hRd, hRb, hV, hs⟩
    obtain ⟨ad, cd, rfl⟩ := RI.shape hRd
    obtain ⟨ab, cb, eb⟩ := hRb.shape
    rw [List.length_map] at eb
    subst eb
    have hlc := hV.lc
    have hlb := hV.lb
    have hle02 := hle1.trans hle2
    refine .q hs (q_move rfl) ?_
    refine .q hs (q_extract rfl rfl) ?_
    refine .q hs (q_extract rfl rfl) ?_
    refine .q hs (q_assign rfl) ?_
    refine .q hs (q_assign rfl) ?_
    refine .nil ?_
    refine .regSeq ?_
    refine .q hs (q_assign rfl) ?_
    refine .nil ?_
    refine .regSeq ?_
    refine .q hs (q_assign rfl) ?_
    refine .nil ?_
    refine .seq ?_
    refine .regSeq ?_
    refine .q hs (q_move rfl) ?_
    first | refine .q hs (q_len rfl Try.runUnderlying22) ?_ | refine .q hs (q_lenR (by assumption) rfl Try.runUnderlying22) ?_ | refine .q hs (q_lenI (by assumption) rfl Try.runUnderlying22) ?_
    refine .q hs (q_move rfl) ?_
    refine .nil ?_
    refine .for (N := n + 1) (J := fun k fr w => ∃ to left, fr = [(11, I to), (12, .bool left), (44, .slice (some ⟨b21, 0, none⟩) (n + 1) cap), (7, .slice (some ⟨b24, 0, none⟩) (n + 1) (n + 1)), (0, .slice am (n + 1) cm), (6, .slice (some ⟨b21, 0, none⟩) (n + 1) cap), (9, .slice ad s.cost.length cd), (10, .slice ab s.by_.length cb)] ∧ Scan lf s.cost k to left ∧ St H2 w (.blk b24 (bs.map (ptr (n + 1))) :: (rowsE bs Fs ++ (.blk b21 (Is lf ++ sp) :: σ)))) (by omega) ?_ ?_ ?_
    · exact .mk ⟨-1, false, rfl, .start lf s.cost, hs⟩
    · rintro k fr w hk ⟨to, left, rfl, hSc, hs⟩
      have hto := hSc.lo
      have hto2 := hSc.som
      have hcap : k < n + 1 := hk
      refine .block ?_
      refine .regSeq ?_
      refine .q hs (q_move rfl) ?_
      refine .q hs (q_ixO (k := k) rfl rfl Try.runUnderlying22 Try.sizeOf3 rfl hk) ?_
      refine .q hs (q_load rfl Try.isAgg3 (hm := .there (Mem.app2 .here)) (hv := Is_get (gi_get (l := lf) (i := k) (by omega)) sp)) ?_
      refine .q hs (q_assign rfl) ?_
      refine .q hs (q_assign rfl) ?_
      refine .nil ?_
      refine .regSeq ?_
      refine .q hs (q_move rfl) ?_
      refine .q hs (q_move rfl) ?_
      refine .bif (t' := 52) rfl (fun hb52 => ?_) (fun hb52 => ?_)
      · refine .gFs 2 1 false rfl rfl rfl ?_
        refine .q hs (q_pickT rfl rfl) ?_
        refine .q hs (q_assign rfl) ?_
        refine .nil ?_
        refine WE.sub (t := ⟨183, [], [(12, .bool (left || decide (0 < gi lf k))), (13, I (k : Int)), (14, I (gi lf k)), (11, I to), (46, I (k : Int)), (45, I ((n + 1 : Nat) : Int)), (44, .slice (some ⟨b21, 0, none⟩) (n + 1) cap), (7, .slice (some ⟨b24, 0, none⟩) (n + 1) (n + 1)), (0, .slice am (n + 1) cm), (6, .slice (some ⟨b21, 0, none⟩) (n + 1) cap), (9, .slice ad s.cost.length cd), (10, .slice ab s.by_.length cb)]⟩) ?_ (by first | exact .consV rfl (by simp_all) (by repeat (first | exact .nil rfl rfl | refine .cons rfl ?_)) | repeat (first | exact .nil rfl rfl | refine .cons rfl ?_))
        refine .cut (fun fs w => ∃ p, FSub fs ⟨183, [], [(79, .bool p), (12, .bool (left || decide (0 < gi lf k))), (13, I (k : Int)), (11, I to), (46, I (k : Int)), (45, I ((n + 1 : Nat) : Int)), (44, .slice (some ⟨b21, 0, none⟩) (n + 1) cap), (7, .slice (some ⟨b24, 0, none⟩) (n + 1) (n + 1)), (0, .slice am (n + 1) cm), (6, .slice (some ⟨b21, 0, none⟩) (n + 1) cap), (9, .slice ad s.cost.length cd), (10, .slice ab s.by_.length cb)]⟩ ∧ (p = true → 0 < gi lf k ∧ gi s.cost k ≠ free) ∧ (p = false → ¬ 0 < gi lf k ∨ gi s.cost k = free ∨ 0 ≤ to) ∧ St H2 w (.blk b24 (bs.map (ptr (n + 1))) :: (rowsE bs Fs ++ (.blk b21 (Is lf ++ sp) :: σ)))) ?_ ?_
        · refine .draw mix rfl hs ?_; intro w hs
          refine .p (i := 0) rfl (by kernel_rfl) .none (q_move rfl) ?_
          refine .p (i := 1) rfl (by kernel_rfl) .none (q_gtr rfl rfl) ?_
          refine .p (i := 2) rfl (by kernel_rfl) .none (q_move rfl) ?_
          refine .bifD (t' := 58) rfl (fun hb58 => ?_) (fun hb58 => ?_)
          · refine .p (i := 3) rfl (by kernel_rfl) (.some rfl rfl) (q_move rfl) ?_
            refine .p (i := 4) rfl (by kernel_rfl) (.some rfl rfl) (q_move rfl) ?_
            refine .ixX (enc := fun x => [I x]) (i := 5) hs rfl (by kernel_rfl) (.some rfl rfl) hRd rfl rfl Try.runUnderlying22 Try.sizeOf3 (gi_get (l := s.cost) (i := k) (by omega)) rfl ?_; intro b61 o61 hc61; replace hc61 := CellsAt.one hc61
            refine .r (i := 6) hs rfl (by kernel_rfl) (.some rfl rfl) (q_loadR rfl Try.isAgg3 hc61) ?_
            refine .p (i := 7) rfl (by kernel_rfl) (.some rfl rfl) (q_neq rfl rfl) ?_
            refine .p (i := 8) rfl (by kernel_rfl) .none (q_pickT rfl rfl) ?_
            refine .p (i := 9) rfl (by kernel_rfl) .none (q_move rfl) ?_
            refine .bifN (t' := 65) rfl (fun hb65 => ?_) (fun hb65 => ?_)
            · refine .p (i := 10) rfl (by kernel_rfl) (.some rfl rfl) (q_move rfl) ?_
              refine .p (i := 11) rfl (by kernel_rfl) (.some rfl rfl) (q_lss rfl rfl) ?_
              refine .p (i := 12) rfl (by kernel_rfl) (.some rfl rfl) (q_move rfl) ?_
              refine .bifD (t' := 68) rfl (fun hb68 => ?_) (fun hb68 => ?_)
              · refine .qF (i := 13) rfl (by kernel_rfl) rfl rfl ?_
                refine .qF (i := 14) rfl (by kernel_rfl) rfl rfl ?_
                refine .qF (i := 15) rfl (by kernel_rfl) rfl rfl ?_
                refine .qF (i := 16) rfl (by kernel_rfl) rfl rfl ?_
                refine .qF (i := 17) rfl (by kernel_rfl) rfl rfl ?_
                refine .qF (i := 18) rfl (by kernel_rfl) rfl rfl ?_
                refine .qF (i := 19) rfl (by kernel_rfl) rfl rfl ?_
                refine .qF (i := 20) rfl (by kernel_rfl) rfl rfl ?_
                refine .qF (i := 21) rfl (by kernel_rfl) rfl rfl ?_
                refine .p (i := 22) rfl (by kernel_rfl) (.some rfl rfl) (q_pickT rfl rfl) ?_
                refine .p (i := 23) rfl (by kernel_rfl) .none (q_pickT rfl rfl) ?_
                refine .done (by kernel_rfl) hs ?_ (hp := by repeat (first | exact .nil | refine .cons (by first | exact HLe.bot _ | exact HLe.refl _ | assumption) (by first | exact .nil | (refine Sub.one ?_; repeat (first | exact .here | assumption | exact Mem.row (by omega) (by omega) | refine .there ?_ | refine Mem.app2 ?_))) ?_))
                exact nT ⟨_, by repeat (first | exact .nil rfl rfl | refine .cons rfl ?_), by
                  intro hp
                  first
                    | (cases hp; done)
                    | exact ⟨by assumption, by assumption⟩, by
                  intro hp
                  first
                    | (cases hp; done)
                    | exact .inl (by assumption)
                    | exact .inr (.inl (by first | assumption | omega))
                    | exact .inr (.inr (by omega)), hs⟩
              · refine .p (i := 13) rfl (by kernel_rfl) (.some rfl rfl) (q_move rfl) ?_
                refine .p (i := 14) rfl (by kernel_rfl) (.some rfl rfl) (q_move rfl) ?_
                refine .ixX (enc := fun x => [I x]) (i := 15) hs rfl (by kernel_rfl) (.some rfl rfl) hRd rfl rfl Try.runUnderlying22 Try.sizeOf3 (gi_get (l := s.cost) (i := k) (by omega)) rfl ?_; intro b71 o71 hc71; replace hc71 := CellsAt.one hc71
                refine .r (i := 16) hs rfl (by kernel_rfl) (.some rfl rfl) (q_loadR rfl Try.isAgg3 hc71) ?_
                refine .p (i := 17) rfl (by kernel_rfl) (.some rfl rfl) (q_move rfl) ?_
                refine .p (i := 18) rfl (by kernel_rfl) (.some rfl rfl) (q_move rfl) ?_
                refine .ixX (enc := fun x => [I x]) (i := 19) hs rfl (by kernel_rfl) (.some rfl rfl) hRd rfl rfl Try.runUnderlying22 Try.sizeOf3 (gi_get (l := s.cost) (i := to.toNat) (by omega)) (by omega) ?_; intro b75 o75 hc75; replace hc75 := CellsAt.one hc75
                refine .r (i := 20) hs rfl (by kernel_rfl) (.some rfl rfl) (q_loadR rfl Try.isAgg3 hc75) ?_
                refine .p (i := 21) rfl (by kernel_rfl) (.some rfl rfl) (q_lss rfl rfl) ?_
                refine .p (i := 22) rfl (by kernel_rfl) (.some rfl rfl) (q_pickF rfl rfl) ?_
                refine .p (i := 23) rfl (by kernel_rfl) .none (q_pickT rfl rfl) ?_
                refine .done (by kernel_rfl) hs ?_ (hp := by repeat (first | exact .nil | refine .cons (by first | exact HLe.bot _ | exact HLe.refl _ | assumption) (by first | exact .nil | (refine Sub.one ?_; repeat (first | exact .here | assumption | exact Mem.row (by omega) (by omega) | refine .there ?_ | refine Mem.app2 ?_))) ?_))
                exact nT ⟨_, by repeat (first | exact .nil rfl rfl | refine .cons rfl ?_), by
                  intro hp
                  first
                    | (cases hp; done)
                    | exact ⟨by assumption, by assumption⟩, by
                  intro hp
                  first
                    | (cases hp; done)
                    | exact .inl (by assumption)
                    | exact .inr (.inl (by first | assumption | omega))
                    | exact .inr (.inr (by omega)), hs⟩
            · refine .qF (i := 10) rfl (by kernel_rfl) rfl rfl ?_
              refine .qF (i := 11) rfl (by kernel_rfl) rfl rfl ?_
              refine .qF (i := 12) rfl (by kernel_rfl) rfl rfl ?_
              refine .qF (i := 13) rfl (by kernel_rfl) rfl rfl ?_
              refine .qF (i := 14) rfl (by kernel_rfl) rfl rfl ?_
              refine .qF (i := 15) rfl (by kernel_rfl) rfl rfl ?_
              refine .qF (i := 16) rfl (by kernel_rfl) rfl rfl ?_
              refine .qF (i := 17) rfl (by kernel_rfl) rfl rfl ?_
              refine .qF (i := 18) rfl (by kernel_rfl) rfl rfl ?_
              refine .qF (i := 19) rfl (by kernel_rfl) rfl rfl ?_
              refine .qF (i := 20) rfl (by kernel_rfl) rfl rfl ?_
              refine .qF (i := 21) rfl (by kernel_rfl) rfl rfl ?_
              refine .qF (i := 22) rfl (by kernel_rfl) rfl rfl ?_
              refine .p (i := 23) rfl (by kernel_rfl) .none (q_pickF rfl rfl) ?_
              refine .done (by kernel_rfl) hs ?_ (hp := by repeat (first | exact .nil | refine .cons (by first | exact HLe.bot _ | exact HLe.refl _ | assumption) (by first | exact .nil | (refine Sub.one ?_; repeat (first | exact .here | assumption | exact Mem.row (by omega) (by omega) | refine .there ?_ | refine Mem.app2 ?_))) ?_))
              exact nT ⟨_, by repeat (first | exact .nil rfl rfl | refine .cons rfl ?_), by
                intro hp
                first
                  | (cases hp; done)
                  | exact ⟨by assumption, by assumption⟩, by
                intro hp
                first
                  | (cases hp; done)
                  | exact .inl (by assumption)
                  | exact .inr (.inl (by first | assumption | omega))
                  | exact .inr (.inr (by omega)), hs⟩
          · refine .qF (i := 3) rfl (by kernel_rfl) rfl rfl ?_
            refine .qF (i := 4) rfl (by kernel_rfl) rfl rfl ?_
            refine .qF (i := 5) rfl (by kernel_rfl) rfl rfl ?_
            refine .qF (i := 6) rfl (by kernel_rfl) rfl rfl ?_
            refine .qF (i := 7) rfl (by kernel_rfl) rfl rfl ?_
            refine .p (i := 8) rfl (by kernel_rfl) .none (q_pickF rfl rfl) ?_
            refine .p (i := 9) rfl (by kernel_rfl) .none (q_move rfl) ?_
            refine .qF (i := 10) rfl (by kernel_rfl) rfl rfl ?_
            refine .qF (i := 11) rfl (by kernel_rfl) rfl rfl ?_
            refine .qF (i := 12) rfl (by kernel_rfl) rfl rfl ?_
            refine .qF (i := 13) rfl (by kernel_rfl) rfl rfl ?_
            refine .qF (i := 14) rfl (by kernel_rfl) rfl rfl ?_
            refine .qF (i := 15) rfl (by kernel_rfl) rfl rfl ?_
            refine .qF (i := 16) rfl (by kernel_rfl) rfl rfl ?_
            refine .qF (i := 17) rfl (by kernel_rfl) rfl rfl ?_
            refine .qF (i := 18) rfl (by kernel_rfl) rfl rfl ?_
            refine .qF (i := 19) rfl (by kernel_rfl) rfl rfl ?_
            refine .qF (i := 20) rfl (by kernel_rfl) rfl rfl ?_
            refine .qF (i := 21) rfl (by kernel_rfl) rfl rfl ?_
            refine .qF (i := 22) rfl (by kernel_rfl) rfl rfl ?_
            refine .p (i := 23) rfl (by kernel_rfl) .none (q_pickF rfl rfl) ?_
            refine .done (by kernel_rfl) hs ?_ (hp := by repeat (first | exact .nil | refine .cons (by first | exact HLe.bot _ | exact HLe.refl _ | assumption) (by first | exact .nil | (refine Sub.one ?_; repeat (first | exact .here | assumption | exact Mem.row (by omega) (by omega) | refine .there ?_ | refine Mem.app2 ?_))) ?_))
            exact nT ⟨_, by repeat (first | exact .nil rfl rfl | refine .cons rfl ?_), by
              intro hp
              first
                | (cases hp; done)
                | exact ⟨by assumption, by assumption⟩, by
              intro hp
              first
                | (cases hp; done)
                | exact .inl (by assumption)
                | exact .inr (.inl (by first | assumption | omega))
                | exact .inr (.inr (by omega)), hs⟩
        · rintro fs w ⟨p, hfs, hp1, hp2, hs⟩
          refine WE.sub ?_ hfs
          refine (.cond rfl (fun hc79 => ?_) (fun hc79 => ?_))
          · refine .region ?_
            refine .q hs (q_move rfl) ?_
            refine .q hs (q_assign rfl) ?_
            refine .nil ?_
            refine nB (nT ?_)
            obtain ⟨g1, g2⟩ := hp1 hc79
            exact .mk ⟨(k : Int), _, rfl, hSc.take g1 g2, hs⟩
          · refine .skip ?_
            refine nB (nT ?_)
            exact .mk ⟨to, _, rfl, hSc.skip (hp2 hc79), hs⟩
      · refine .gT rfl rfl ?_
        refine .q hs (q_move rfl) ?_
        refine .gT rfl rfl ?_
        refine .q hs (q_gtr rfl rfl) ?_
        refine .q hs (q_pickF rfl rfl) ?_
        refine .q hs (q_assign rfl) ?_
        refine .nil ?_
        refine WE.sub (t := ⟨183, [], [(12, .bool (left || decide (0 < gi lf k))), (13, I (k : Int)), (14, I (gi lf k)), (11, I to), (46, I (k : Int)), (45, I ((n + 1 : Nat) : Int)), (44, .slice (some ⟨b21, 0, none⟩) (n + 1) cap), (7, .slice (some ⟨b24, 0, none⟩) (n + 1) (n + 1)), (0, .slice am (n + 1) cm), (6, .slice (some ⟨b21, 0, none⟩) (n + 1) cap), (9, .slice ad s.cost.length cd), (10, .slice ab s.by_.length cb)]⟩) ?_ (by first | exact .consV rfl (by simp_all) (by repeat (first | exact .nil rfl rfl | refine .cons rfl ?_)) | repeat (first | exact .nil rfl rfl | refine .cons rfl ?_))
        refine .cut (fun fs w => ∃ p, FSub fs ⟨183, [], [(79, .bool p), (12, .bool (left || decide (0 < gi lf k))), (13, I (k : Int)), (11, I to), (46, I (k : Int)), (45, I ((n + 1 : Nat) : Int)), (44, .slice (some ⟨b21, 0, none⟩) (n + 1) cap), (7, .slice (some ⟨b24, 0, none⟩) (n + 1) (n + 1)), (0, .slice am (n + 1) cm), (6, .slice (some ⟨b21, 0, none⟩) (n + 1) cap), (9, .slice ad s.cost.length cd), (10, .slice ab s.by_.length cb)]⟩ ∧ (p = true → 0 < gi lf k ∧ gi s.cost k ≠ free) ∧ (p = false → ¬ 0 < gi lf k ∨ gi s.cost k = free ∨ 0 ≤ to) ∧ St H2 w (.blk b24 (bs.map (ptr (n + 1))) :: (rowsE bs Fs ++ (.blk b21 (Is lf ++ sp) :: σ)))) ?_ ?_
        · refine .draw mix rfl hs ?_; intro w hs
          refine .p (i := 0) rfl (by kernel_rfl) .none (q_move rfl) ?_
          refine .p (i := 1) rfl (by kernel_rfl) .none (q_gtr rfl rfl) ?_
          refine .p (i := 2) rfl (by kernel_rfl) .none (q_move rfl) ?_
          refine .bifD (t' := 58) rfl (fun hb58 => ?_) (fun hb58 => ?_)
          · refine .p (i := 3) rfl (by kernel_rfl) (.some rfl rfl) (q_move rfl) ?_
            refine .p (i := 4) rfl (by kernel_rfl) (.some rfl rfl) (q_move rfl) ?_
            refine .ixX (enc := fun x => [I x]) (i := 5) hs rfl (by kernel_rfl) (.some rfl rfl) hRd rfl rfl Try.runUnderlying22 Try.sizeOf3 (gi_get (l := s.cost) (i := k) (by omega)) rfl ?_; intro b61 o61 hc61; replace hc61 := CellsAt.one hc61
            refine .r (i := 6) hs rfl (by kernel_rfl) (.some rfl rfl) (q_loadR rfl Try.isAgg3 hc61) ?_
            refine .p (i := 7) rfl (by kernel_rfl) (.some rfl rfl) (q_neq rfl rfl) ?_
            refine .p (i := 8) rfl (by kernel_rfl) .none (q_pickT rfl rfl) ?_
            refine .p (i := 9) rfl (by kernel_rfl) .none (q_move rfl) ?_
            refine .bifN (t' := 65) rfl (fun hb65 => ?_) (fun hb65 => ?_)
            · refine .p (i := 10) rfl (by kernel_rfl) (.some rfl rfl) (q_move rfl) ?_
              refine .p (i := 11) rfl (by kernel_rfl) (.some rfl rfl) (q_lss rfl rfl) ?_
              refine .p (i := 12) rfl (by kernel_rfl) (.some rfl rfl) (q_move rfl) ?_
              refine .bifD (t' := 68) rfl (fun hb68 => ?_) (fun hb68 => ?_)
              · refine .qF (i := 13) rfl (by kernel_rfl) rfl rfl ?_
                refine .qF (i := 14) rfl (by kernel_rfl) rfl rfl ?_
                refine .qF (i := 15) rfl (by kernel_rfl) rfl rfl ?_
                refine .qF (i := 16) rfl (by kernel_rfl) rfl rfl ?_
                refine .qF (i := 17) rfl (by kernel_rfl) rfl rfl ?_
                refine .qF (i := 18) rfl (by kernel_rfl) rfl rfl ?_
                refine .qF (i := 19) rfl (by kernel_rfl) rfl rfl ?_
                refine .qF (i := 20) rfl (by kernel_rfl) rfl rfl ?_
                refine .qF (i := 21) rfl (by kernel_rfl) rfl rfl ?_
                refine .p (i := 22) rfl (by kernel_rfl) (.some rfl rfl) (q_pickT rfl rfl) ?_
                refine .p (i := 23) rfl (by kernel_rfl) .none (q_pickT rfl rfl) ?_
                refine .done (by kernel_rfl) hs ?_ (hp := by repeat (first | exact .nil | refine .cons (by first | exact HLe.bot _ | exact HLe.refl _ | assumption) (by first | exact .nil | (refine Sub.one ?_; repeat (first | exact .here | assumption | exact Mem.row (by omega) (by omega) | refine .there ?_ | refine Mem.app2 ?_))) ?_))
                exact nT ⟨_, by repeat (first | exact .nil rfl rfl | refine .cons rfl ?_), by
                  intro hp
                  first
                    | (cases hp; done)
                    | exact ⟨by assumption, by assumption⟩, by
                  intro hp
                  first
                    | (cases hp; done)
                    | exact .inl (by assumption)
                    | exact .inr (.inl (by first | assumption | omega))
                    | exact .inr (.inr (by omega)), hs⟩
              · refine .p (i := 13) rfl (by kernel_rfl) (.some rfl rfl) (q_move rfl) ?_
                refine .p (i := 14) rfl (by kernel_rfl) (.some rfl rfl) (q_move rfl) ?_
                refine .ixX (enc := fun x => [I x]) (i := 15) hs rfl (by kernel_rfl) (.some rfl rfl) hRd rfl rfl Try.runUnderlying22 Try.sizeOf3 (gi_get (l := s.cost) (i := k) (by omega)) rfl ?_; intro b71 o71 hc71; replace hc71 := CellsAt.one hc71
                refine .r (i := 16) hs rfl (by kernel_rfl) (.some rfl rfl) (q_loadR rfl Try.isAgg3 hc71) ?_
                refine .p (i := 17) rfl (by kernel_rfl) (.some rfl rfl) (q_move rfl) ?_
                refine .p (i := 18) rfl (by kernel_rfl) (.some rfl rfl) (q_move rfl) ?_
                refine .ixX (enc := fun x => [I x]) (i := 19) hs rfl (by kernel_rfl) (.some rfl rfl) hRd rfl rfl Try.runUnderlying22 Try.sizeOf3 (gi_get (l := s.cost) (i := to.toNat) (by omega)) (by omega) ?_; intro b75 o75 hc75; replace hc75 := CellsAt.one hc75
                refine .r (i := 20) hs rfl (by kernel_rfl) (.some rfl rfl) (q_loadR rfl Try.isAgg3 hc75) ?_
                refine .p (i := 21) rfl (by kernel_rfl) (.some rfl rfl) (q_lss rfl rfl) ?_
                refine .p (i := 22) rfl (by kernel_rfl) (.some rfl rfl) (q_pickF rfl rfl) ?_
                refine .p (i := 23) rfl (by kernel_rfl) .none (q_pickT rfl rfl) ?_
                refine .done (by kernel_rfl) hs ?_ (hp := by repeat (first | exact .nil | refine .cons (by first | exact HLe.bot _ | exact HLe.refl _ | assumption) (by first | exact .nil | (refine Sub.one ?_; repeat (first | exact .here | assumption | exact Mem.row (by omega) (by omega) | refine .there ?_ | refine Mem.app2 ?_))) ?_))
                exact nT ⟨_, by repeat (first | exact .nil rfl rfl | refine .cons rfl ?_), by
                  intro hp
                  first
                    | (cases hp; done)
                    | exact ⟨by assumption, by assumption⟩, by
                  intro hp
                  first
                    | (cases hp; done)
                    | exact .inl (by assumption)
                    | exact .inr (.inl (by first | assumption | omega))
                    | exact .inr (.inr (by omega)), hs⟩
            · refine .qF (i := 10) rfl (by kernel_rfl) rfl rfl ?_
              refine .qF (i := 11) rfl (by kernel_rfl) rfl rfl ?_
              refine .qF (i := 12) rfl (by kernel_rfl) rfl rfl ?_
              refine .qF (i := 13) rfl (by kernel_rfl) rfl rfl ?_
              refine .qF (i := 14) rfl (by kernel_rfl) rfl rfl ?_
              refine .qF (i := 15) rfl (by kernel_rfl) rfl rfl ?_
              refine .qF (i := 16) rfl (by kernel_rfl) rfl rfl ?_
              refine .qF (i := 17) rfl (by kernel_rfl) rfl rfl ?_
              refine .qF (i := 18) rfl (by kernel_rfl) rfl rfl ?_
              refine .qF (i := 19) rfl (by kernel_rfl) rfl rfl ?_
              refine .qF (i := 20) rfl (by kernel_rfl) rfl rfl ?_
              refine .qF (i := 21) rfl (by kernel_rfl) rfl rfl ?_
              refine .qF (i := 22) rfl (by kernel_rfl) rfl rfl ?_
              refine .p (i := 23) rfl (by kernel_rfl) .none (q_pickF rfl rfl) ?_
              refine .done (by kernel_rfl) hs ?_ (hp := by repeat (first | exact .nil | refine .cons (by first | exact HLe.bot _ | exact HLe.refl _ | assumption) (by first | exact .nil | (refine Sub.one ?_; repeat (first | exact .here | assumption | exact Mem.row (by omega) (by omega) | refine .there ?_ | refine Mem.app2 ?_))) ?_))
              exact nT ⟨_, by repeat (first | exact .nil rfl rfl | refine .cons rfl ?_), by
                intro hp
                first
                  | (cases hp; done)
                  | exact ⟨by assumption, by assumption⟩, by
                intro hp
                first
                  | (cases hp; done)
                  | exact .inl (by assumption)
                  | exact .inr (.inl (by first | assumption | omega))
                  | exact .inr (.inr (by omega)), hs⟩
          · refine .qF (i := 3) rfl (by kernel_rfl) rfl rfl ?_
            refine .qF (i := 4) rfl (by kernel_rfl) rfl rfl ?_
            refine .qF (i := 5) rfl (by kernel_rfl) rfl rfl ?_
            refine .qF (i := 6) rfl (by kernel_rfl) rfl rfl ?_
            refine .qF (i := 7) rfl (by kernel_rfl) rfl rfl ?_
            refine .p (i := 8) rfl (by kernel_rfl) .none (q_pickF rfl rfl) ?_
            refine .p (i := 9) rfl (by kernel_rfl) .none (q_move rfl) ?_
            refine .qF (i := 10) rfl (by kernel_rfl) rfl rfl ?_
            refine .qF (i := 11) rfl (by kernel_rfl) rfl rfl ?_
            refine .qF (i := 12) rfl (by kernel_rfl) rfl rfl ?_
            refine .qF (i := 13) rfl (by kernel_rfl) rfl rfl ?_
            refine .qF (i := 14) rfl (by kernel_rfl) rfl rfl ?_
            refine .qF (i := 15) rfl (by kernel_rfl) rfl rfl ?_
            refine .qF (i := 16) rfl (by kernel_rfl) rfl rfl ?_
            refine .qF (i := 17) rfl (by kernel_rfl) rfl rfl ?_
            refine .qF (i := 18) rfl (by kernel_rfl) rfl rfl ?_
            refine .qF (i := 19) rfl (by kernel_rfl) rfl rfl ?_
            refine .qF (i := 20) rfl (by kernel_rfl) rfl rfl ?_
            refine .qF (i := 21) rfl (by kernel_rfl) rfl rfl ?_
            refine .qF (i := 22) rfl (by kernel_rfl) rfl rfl ?_
            refine .p (i := 23) rfl (by kernel_rfl) .none (q_pickF rfl rfl) ?_
            refine .done (by kernel_rfl) hs ?_ (hp := by repeat (first | exact .nil | refine .cons (by first | exact HLe.bot _ | exact HLe.refl _ | assumption) (by first | exact .nil | (refine Sub.one ?_; repeat (first | exact .here | assumption | exact Mem.row (by omega) (by omega) | refine .there ?_ | refine Mem.app2 ?_))) ?_))
            exact nT ⟨_, by repeat (first | exact .nil rfl rfl | refine .cons rfl ?_), by
              intro hp
              first
                | (cases hp; done)
                | exact ⟨by assumption, by assumption⟩, by
              intro hp
              first
                | (cases hp; done)
                | exact .inl (by assumption)
                | exact .inr (.inl (by first | assumption | omega))
                | exact .inr (.inr (by omega)), hs⟩
        · rintro fs w ⟨p, hfs, hp1, hp2, hs⟩
          refine WE.sub ?_ hfs
          refine (.cond rfl (fun hc79 => ?_) (fun hc79 => ?_))
          · refine .region ?_
            refine .q hs (q_move rfl) ?_
            refine .q hs (q_assign rfl) ?_
            refine .nil ?_
            refine nB (nT ?_)
            obtain ⟨g1, g2⟩ := hp1 hc79
            exact .mk ⟨(k : Int), _, rfl, hSc.take g1 g2, hs⟩
          · refine .skip ?_
            refine nB (nT ?_)
            exact .mk ⟨to, _, rfl, hSc.skip (hp2 hc79), hs⟩
    · rintro fr w ⟨to, left, rfl, hSc, hs⟩
      refine nT ?_
      refine .seq ?_
      refine .regSeq ?_
      refine .q hs (q_move rfl) ?_
      refine .q hs (q_lss rfl rfl) ?_
      refine .nil ?_
      refine (.condD rfl (fun hc83 => ?_) (fun hc83 => ?_))
      · refine .regSeq ?_
        refine .q hs (q_move rfl) ?_
        refine .q hs (q_move rfl) ?_
        refine .o (.call Try.call210 rfl (ref02_cost_spec hs (hM.mono hle02) hqM (by omega) .here hbl hqF (fun i hi => .there (Mem.row (by omega) (by omega)))) ?_); rintro _ w ⟨rfl, hs⟩
        refine .q hs (q_move rfl) ?_
        refine .q hs (q_not rfl) ?_
        refine .q hs (q_assign rfl) ?_
        refine .q hs (q_assign rfl) ?_
        refine .nil ?_
        refine .ret (rT (rB (rT (rB (Fin.ret2 Try.results194 rfl rfl ?_)))))
        rw [← dot_cell hT hC hI.nn]
        cases left with
        | false =>
          have hno : ∀ v < n + 1, gi lf v ≤ 0 := fun v hv => Int.not_lt.1 fun h => by have := hSc.left_.2 ⟨v, hv, h⟩; cases this
          have hok := hI.ok hin hw0 hno
          obtain ⟨q, hqf⟩ := hok.fe
          have hO := (full_opt hin hok.lt (fun i hi => (hok.nn i hi).1) hok.full hqf).1
          have hb := hbd _ hO
          rw [i64wrap (by omega)]
          exact ⟨H2, _, true, hle02, rfl, .inl ⟨rfl, hO⟩, hs.tail.app2.tail⟩
        | true =>
          obtain ⟨v, hv, hp⟩ := hSc.left_.1 rfl
          have hf := hSc.non (by omega) v hv hp
          have hO := hI.open hin (R := fun v => gi s.cost v < free) (fun v hv hl => by have := hV.src v hv hl; omega) (hV.closed hg) hv (by rw [hf]; omega) hp
          exact ⟨H2, _, false, hle02, rfl, .inr ⟨rfl, hO⟩, hs.tail.app2.tail⟩
      · refine .skip ?_
        refine nT ?_
        refine .regSeq ?_
        obtain ⟨t, rfl⟩ := Int.eq_ofNat_of_zero_le (show 0 ≤ to by omega)
        obtain ⟨ht, htp, htf⟩ := hSc.som (by omega)
        rw [Int.toNat_natCast] at ht htp htf
        have htl : gi s.cost t < free := by have := hV.top t ht; omega
        obtain ⟨kk, cc, u, hB, hu, hk1, hk0, hcl, hway⟩ := hV.back hg ht htl htp
        have hW := hway _ rfl
        have hsg := hI.sg
        refine .q hs (q_move rfl) ?_
        refine .q hs (q_move rfl) ?_
        refine .q hs (q_ixO (k := t) rfl rfl Try.runUnderlying22 Try.sizeOf3 rfl ht) ?_
        refine .q hs (q_load rfl Try.isAgg3 (hm := .there (Mem.app2 .here)) (hv := Is_get (gi_get (l := lf) (i := t) (by omega)) sp)) ?_
        refine .q hs (q_assign rfl) ?_
        refine .nil ?_
        refine .regSeq ?_
        refine .q hs (q_move rfl) ?_
        refine .q hs (q_assign rfl) ?_
        refine .nil ?_
        refine .seq ?_
        refine .block ?_
        refine .loop (fun p : Nat × Nat => ⟨183, [], [(16, I (p.2 : Int)), (15, I (least es ts (gi lf t) (trail s.by_ t p.1))), (11, I (t : Int)), (7, .slice (some ⟨b24, 0, none⟩) (n + 1) (n + 1)), (0, .slice am (n + 1) cm), (6, .slice (some ⟨b21, 0, none⟩) (n + 1) cap), (9, .slice ad s.cost.length cd), (10, .slice ab s.by_.length cb)]⟩) (fun p w => AtW s.by_ t kk u p.1 p.2 ∧ (p.2 < n + 1 ∧ gi s.cost p.2 < free) ∧ St H2 w (.blk b24 (bs.map (ptr (n + 1))) :: (rowsE bs Fs ++ (.blk b21 (Is lf ++ sp) :: σ)))) (fun p => kk - p.1) (0, t) (by repeat (first | exact .nil rfl rfl | refine .cons rfl ?_)) ⟨.start hB, ⟨ht, htl⟩, hs⟩ ?_
        rintro ⟨i, v⟩ w ⟨hA, ⟨hv, hvf⟩, hs⟩
        dsimp only at hA hv hvf ⊢
        have hby := hV.by1 v hv hvf
        refine .cut (fun fs w => FSub fs ⟨183, [], [(16, I (v : Int)), (15, I (least es ts (gi lf t) (trail s.by_ t i))), (11, I (t : Int)), (7, .slice (some ⟨b24, 0, none⟩) (n + 1) (n + 1)), (0, .slice am (n + 1) cm), (6, .slice (some ⟨b21, 0, none⟩) (n + 1) cap), (9, .slice ad s.cost.length cd), (10, .slice ab s.by_.length cb)]⟩ ∧ 0 ≤ (ga s.by_ v).l ∧ St H2 w (.blk b24 (bs.map (ptr (n + 1))) :: (rowsE bs Fs ++ (.blk b21 (Is lf ++ sp) :: σ)))) ?_ ?_
        · refine .regSeq ?_
          refine .q hs (q_move rfl) ?_
          refine .q hs (q_move rfl) ?_
          refine .q hs (q_ixO (k := v) rfl rfl Try.runUnderlying22 Try.sizeOf3 rfl hv) ?_
          refine .q hs (q_load rfl Try.isAgg3 (hm := .there (Mem.app2 .here)) (hv := Is_get (gi_get (l := lf) (i := v) (by omega)) sp)) ?_
          refine .q hs (q_geq rfl rfl) ?_
          refine .q hs (q_move rfl) ?_
          refine .bifD (t' := 99) rfl (fun hb99 => ?_) (fun hb99 => ?_)
          · refine .gFs 6 5 false rfl rfl rfl ?_
            refine .q hs (q_pickT rfl rfl) ?_
            refine .nil ?_
            refine (.condT rfl rfl ?_)
            refine .skip ?_
            refine nT ?_
            exact ⟨by repeat (first | exact .nil rfl rfl | refine .cons rfl ?_), by
              rcases hby with ⟨_, h, _⟩ | h
              · omega
              · exact h.1, hs⟩
          · refine .gT rfl rfl ?_
            refine .q hs (q_move rfl) ?_
            refine .gT rfl rfl ?_
            refine .q hs (q_move rfl) ?_
            refine .gT rfl rfl ?_
            refine .ixX (enc := stepC es) hs hRb rfl rfl Try.runUnderlying239 Try.sizeOf244 (ga_get (l := s.by_) (i := v) (by omega)) rfl ?_; intro b102 o102 hc102
            rw [stepC_eq] at hc102
            refine .gT rfl rfl ?_
            first | refine .q hs (q_fa0 rfl fa_moorsomref02_step_0) ?_ | refine .q hs (q_fa rfl fa_moorsomref02_step_0) ?_
            refine .gT rfl rfl ?_
            refine .q hs (q_loadR rfl Try.isAgg3 (hc102.get 0 rfl)) ?_
            refine .gT rfl rfl ?_
            refine .q hs (q_geq rfl rfl) ?_
            refine .q hs (q_pickF rfl rfl) ?_
            refine .nil ?_
            refine (.condD rfl (fun hc106 => ?_) (fun hc106 => ?_))
            · refine .skip ?_
              refine nT ?_
              exact ⟨by repeat (first | exact .nil rfl rfl | refine .cons rfl ?_), stepF_ge hc106, hs⟩
            · refine .exit ?_
              refine xT (xT (xB (nT ?_)))
              refine .regSeq ?_
              obtain ⟨ei, ev⟩ := hA.stop (stepF_neg hc106)
              subst ei; subst ev
              obtain ⟨m0, m1, m2, m3⟩ := much_pos hI.lt.symm hnum hW
              have hsv := hsg v hv
              have hst := hsg t ht
              have hmu : min (least es ts (gi lf t) (trail s.by_ t i)) (-gi lf v) = much es ts lf (trail s.by_ t i).reverse v t := by
                unfold much
                rw [least_rev, ← least_min, Int.min_comm]
              have hsend := hI.send hnum hW (by rw [List.length_reverse, trail_length]; omega)
              have hmem : ∀ x ∈ trail s.by_ t i, x ∈ resid es ts := fun x hx => hW.mem x (List.mem_reverse.2 hx)
              rw [pushes_rev (fun x hx => (of_resid hI.lt.symm hnum (hmem x hx)).2.1)] at hsend
              generalize hm : much es ts lf (trail s.by_ t i).reverse v t = m at *
              have hvt : v ≠ t := fun e => by have := hW.lu; rw [e] at this; omega
              refine .q hs (q_move rfl) ?_
              refine .q hs (q_move rfl) ?_
              refine .q hs (q_move rfl) ?_
              refine .q hs (q_ixO (k := v) rfl rfl Try.runUnderlying22 Try.sizeOf3 rfl hv) ?_
              refine .q hs (q_load rfl Try.isAgg3 (hm := .there (Mem.app2 .here)) (hv := Is_get (gi_get (l := lf) (i := v) (by omega)) sp)) ?_
              first | refine .q hs (q_negF rfl (by omega)) ?_ | refine .q hs (q_neg rfl) ?_
              first | refine .q hs (q_minI rfl rfl) ?_ | refine .q hs (q_min rfl rfl) ?_
              rw [hmu]
              refine .q hs (q_assign rfl) ?_
              refine .nil ?_
              refine .seq ?_
              refine .regSeq ?_
              refine .q hs (q_move rfl) ?_
              refine .q hs (q_assign rfl) ?_
              refine .nil ?_
              refine .block ?_
              refine .loop (fun p : Nat × Nat × List (List Int) => ⟨183, [], [(18, I (p.2.1 : Int)), (16, I (v : Int)), (15, I m), (11, I (t : Int)), (7, .slice (some ⟨b24, 0, none⟩) (n + 1) (n + 1)), (0, .slice am (n + 1) cm), (6, .slice (some ⟨b21, 0, none⟩) (n + 1) cap), (9, .slice ad s.cost.length cd), (10, .slice ab s.by_.length cb)]⟩) (fun p w => AtW s.by_ t i v p.1 p.2.1 ∧ (p.2.1 < n + 1 ∧ gi s.cost p.2.1 < free) ∧ (Sq (n + 1) p.2.2 ∧ Corr (n + 1) es (pushes es m ts (trail s.by_ t p.1)) (gt p.2.2)) ∧ St H2 w (.blk b24 (bs.map (ptr (n + 1))) :: (rowsE bs p.2.2 ++ (.blk b21 (Is lf ++ sp) :: σ)))) (fun p => i - p.1) (0, t, Fs) (by repeat (first | exact .nil rfl rfl | refine .cons rfl ?_)) ⟨.start hB, ⟨ht, htl⟩, ⟨hqF, hC⟩, hs⟩ ?_
              clear hA hby
              rintro ⟨j, y, Fs'⟩ w ⟨hA, ⟨hy, hyf⟩, ⟨hqF', hC'⟩, hs⟩
              dsimp only at hA hy hyf hqF' hC' hs ⊢
              have hfl' := hqF'.1
              refine .seq ?_
              refine .regSeq ?_
              refine .q hs (q_move rfl) ?_
              refine .q hs (q_move rfl) ?_
              refine .q hs (q_neq rfl rfl) ?_
              refine .nil ?_
              refine (.condN rfl (fun hc135 => ?_) (fun hc135 => ?_))
              · refine .skip ?_
                refine nT ?_
                refine .seq ?_
                refine .block ?_
                refine .regSeq ?_
                have hl0 := hA.ne (by omega)
                obtain ⟨hik, hA', htr⟩ := hA.next hl0 hu
                obtain ⟨hxm, hxt, hxf⟩ : ga s.by_ y ∈ resid es ts ∧ (ga s.by_ y).t = y ∧ gi s.cost (ga s.by_ y).f < free := by
                  rcases hV.by1 y hy hyf with ⟨h, _⟩ | ⟨_, h1, h2, h3, _⟩
                  · omega
                  · exact ⟨h1, h2, h3⟩
                have hxn := (hg.ok _ hxm).1
                have hsF := stepF_pos hl0
                have hxb : (ga s.by_ y).l.toNat < ts.length := (of_resid hI.lt.symm hnum hxm).2.1
                have hpb := pushes_bd (es := es) (ts := ts) (p := trail s.by_ t j) (m := m) (by omega) (by omega) (by rw [trail_length]; omega) (fun x hx => by
                  have h1 := trail_mem (A := fun v => v < n + 1 ∧ gi s.cost v < free) (B := fun x => x ∈ resid es ts) (fun v hv hl => by
                    rcases hV.by1 v hv.1 hv.2 with ⟨h, _⟩ | ⟨_, h1, h2, h3, _⟩
                    · omega
                    · exact ⟨h1, (hg.ok _ h1).1, h3⟩) hA.bk.choose_spec ⟨ht, htl⟩ x hx
                  exact (of_resid hI.lt.symm hnum h1).2.1) (ga s.by_ y).l.toNat
                have hnn := hI.nn (ga s.by_ y).l.toNat (by rw [← hI.lt]; exact hxb)
                have htb := hI.tb (ga s.by_ y).l.toNat (by rw [← hI.lt]; exact hxb)
                have hrm : 0 ≤ rem (n + 1) lf := sumTo_nonneg fun v _ => by omega
                generalize hgx : ga s.by_ y = x at *
                refine .q hs (q_move rfl) ?_
                refine .q hs (q_move rfl) ?_
                refine .ixX (enc := stepC es) hs hRb rfl rfl Try.runUnderlying239 Try.sizeOf244 (ga_get (l := s.by_) (i := y) (by omega)) rfl ?_; intro b143 o143 hc143
                rw [hgx, stepC_eq] at hc143
                refine .q hs (q_loadsR (vs := [I (stepF x), .bool (stepB es x)]) rfl Try.isAgg244 Try.sizeOf244 hc143) ?_
                refine .o (.alloc hs Try.zeroValue244 rfl ?_); intro b19 w hs
                refine .o (.stores (vs := [I (stepF x), .bool (stepB es x)]) hs rfl rfl Try.sizeOf244 ?_); intro w hs
                refine .nil ?_
                refine .regSeq ?_
                first | refine .q hs (q_fa0 rfl fa_moorsomref02_step_1) ?_ | refine .q hs (q_fa rfl fa_moorsomref02_step_1) ?_
                first | refine .q hs (q_load rfl Try.isAgg4 (hm := by repeat (first | exact .here | assumption | exact Mem.row (by omega) (by omega) | refine .there ?_ | refine Mem.app2 ?_)) (hv := by first | rfl | exact ptr_get (by omega) | exact Is_gt (by assumption) (by omega) (by omega) | exact Is_gi (by first | assumption | omega))) ?_ | refine .q hs (q_loadR rfl Try.isAgg4 (by assumption)) ?_
                refine .nil ?_
                refine (.cond rfl (fun hc146 => ?_) (fun hc146 => ?_))
                · refine .draw mix rfl hs ?_; intro w hs
                  have hnf := stepB_t hc146
                  obtain ⟨hcb, z, hz1, hz2⟩ := hC.back hT hxm hnf
                  have hgz : gt Fs' y x.f = gi (pushes es m ts (trail s.by_ t j)) x.l.toNat := by
                    have := hC'.arc z hz1
                    rw [hz2] at hxt ⊢
                    rw [← hxt]; exact this.symm
                  have hpu := (hC'.push hT (y := x) (.inr ⟨z, hz1, hz2⟩) m).2 hnf
                  rw [hxt] at hpu
                  rw [← pushes_snoc, ← htr] at hpu
                  refine .p (i := 0) rfl (by kernel_rfl) .none (q_move rfl) ?_
                  refine .p (i := 1) rfl (by kernel_rfl) .none (q_move rfl) ?_
                  refine .p (i := 2) rfl (by kernel_rfl) .none (q_ixO (k := y) rfl rfl Try.runUnderlying87 Try.sizeOf22 rfl hy) ?_
                  first | refine .load (i := 3) hs rfl (by kernel_rfl) .none rfl Try.isAgg22 ?_ (by repeat (first | exact .here | assumption | exact Mem.row (by omega) (by omega) | refine .there ?_ | refine Mem.app2 ?_)) (by first | rfl | exact ptr_get (by omega) | exact Is_gt (by assumption) (by omega) (by omega) | exact Is_gi (by first | assumption | omega)) | refine .r (i := 3) hs rfl (by kernel_rfl) .none (q_loadR rfl Try.isAgg22 (by assumption)) ?_
                  first | refine .p (i := 4) rfl (by kernel_rfl) .none (q_fa0 rfl fa_moorsomref02_step_0) ?_ | refine .p (i := 4) rfl (by kernel_rfl) .none (q_fa rfl fa_moorsomref02_step_0) ?_
                  first | refine .load (i := 5) hs rfl (by kernel_rfl) .none rfl Try.isAgg3 ?_ (by repeat (first | exact .here | assumption | exact Mem.row (by omega) (by omega) | refine .there ?_ | refine Mem.app2 ?_)) (by first | rfl | exact ptr_get (by omega) | exact Is_gt (by assumption) (by omega) (by omega) | exact Is_gi (by first | assumption | omega)) | refine .r (i := 5) hs rfl (by kernel_rfl) .none (q_loadR rfl Try.isAgg3 (by assumption)) ?_
                  rw [hsF] at hs ⊢
                  refine .p (i := 6) rfl (by kernel_rfl) .none (q_ixO (k := x.f) rfl rfl Try.runUnderlying22 Try.sizeOf3 rfl hxn) ?_
                  first | refine .load (i := 7) hs rfl (by kernel_rfl) .none rfl Try.isAgg3 ?_ (by repeat (first | exact .here | assumption | exact Mem.row (by omega) (by omega) | refine .there ?_ | refine Mem.app2 ?_)) (by first | rfl | exact ptr_get (by omega) | exact Is_gt (by assumption) (by omega) (by omega) | exact Is_gi (by first | assumption | omega)) | refine .r (i := 7) hs rfl (by kernel_rfl) .none (q_loadR rfl Try.isAgg3 (by assumption)) ?_
                  refine .p (i := 8) rfl (by kernel_rfl) .none (q_move rfl) ?_
                  first | refine .p (i := 9) rfl (by kernel_rfl) .none (q_subF rfl rfl (by omega)) ?_ | refine .p (i := 9) rfl (by kernel_rfl) .none (q_sub rfl rfl) ?_
                  refine .p (i := 10) rfl (by kernel_rfl) .none (q_ixO (k := x.f) rfl rfl Try.runUnderlying22 Try.sizeOf3 rfl hxn) ?_
                  refine .e1 (i := 11) (by kernel_rfl) rfl rfl .none hs ?_ (hp := by repeat (first | exact .nil | refine .cons (by first | exact HLe.bot _ | exact HLe.refl _ | assumption) (by first | exact .nil | (refine Sub.one ?_; repeat (first | exact .here | assumption | exact Mem.row (by omega) (by omega) | refine .there ?_ | refine Mem.app2 ?_))) ?_))
                  refine .store hs rfl rfl Try.sizeOf3 ?_ (.there (.there (Upd.row _ (by omega) (by omega)))) (blt_Is (by rw [hqF'.2 _ hy]; exact hxn)) (Is_set _ _ _); intro w hs
                  refine .go ?_
                  refine .done (by kernel_rfl) hs ?_ (hp := by repeat (first | exact .nil | refine .cons (by first | exact HLe.bot _ | exact HLe.refl _ | assumption) (by first | exact .nil | (refine Sub.one ?_; repeat (first | exact .here | assumption | exact Mem.row (by omega) (by omega) | refine .there ?_ | refine Mem.app2 ?_))) ?_))
                  refine nB (nT ?_)
                  refine .region ?_
                  refine .q hs (q_move rfl) ?_
                  refine .q hs (q_move rfl) ?_
                  refine .ixX (enc := stepC es) hs hRb rfl rfl Try.runUnderlying239 Try.sizeOf244 (ga_get (l := s.by_) (i := y) (by omega)) rfl ?_; intro b138 o138 hc138
                  rw [hgx, stepC_eq] at hc138
                  first | refine .q hs (q_fa0 rfl fa_moorsomref02_step_0) ?_ | refine .q hs (q_fa rfl fa_moorsomref02_step_0) ?_
                  refine .q hs (q_loadR rfl Try.isAgg3 (hc138.get 0 rfl)) ?_
                  rw [hsF]
                  refine .q hs (q_assign rfl) ?_
                  refine .nil ?_
                  refine nT ?_
                  exact ⟨(j + 1, x.f, _), by repeat (first | exact .nil rfl rfl | refine .cons rfl ?_), ⟨hA', ⟨hxn, hxf⟩, ⟨hqF'.set hy _, by rw [gt_set hqF' hy hxn]; exact hpu⟩, hs.tail⟩, by dsimp only; omega⟩
                · refine .region ?_
                  have hnf := stepB_f hl0 (by simpa using hc146)
                  have hxe := hC.forth hT hxm hnf
                  have hgz : gt Fs' x.f y = gi (pushes es m ts (trail s.by_ t j)) x.l.toNat := by
                    have := hC'.arc x hxe
                    rw [hxt] at this; exact this.symm
                  have hpu := (hC'.push hT (y := x) (.inl hxe) m).1 hnf
                  rw [hxt] at hpu
                  rw [← pushes_snoc, ← htr] at hpu
                  refine .q hs (q_move rfl) ?_
                  first | refine .q hs (q_fa0 rfl fa_moorsomref02_step_0) ?_ | refine .q hs (q_fa rfl fa_moorsomref02_step_0) ?_
                  first | refine .q hs (q_load rfl Try.isAgg3 (hm := by repeat (first | exact .here | assumption | exact Mem.row (by omega) (by omega) | refine .there ?_ | refine Mem.app2 ?_)) (hv := by first | rfl | exact ptr_get (by omega) | exact Is_gt (by assumption) (by omega) (by omega) | exact Is_gi (by first | assumption | omega))) ?_ | refine .q hs (q_loadR rfl Try.isAgg3 (by assumption)) ?_
                  rw [hsF]
                  refine .q hs (q_ixO (k := x.f) rfl rfl Try.runUnderlying87 Try.sizeOf22 rfl hxn) ?_
                  first | refine .q hs (q_load rfl Try.isAgg22 (hm := by repeat (first | exact .here | assumption | exact Mem.row (by omega) (by omega) | refine .there ?_ | refine Mem.app2 ?_)) (hv := by first | rfl | exact ptr_get (by omega) | exact Is_gt (by assumption) (by omega) (by omega) | exact Is_gi (by first | assumption | omega))) ?_ | refine .q hs (q_loadR rfl Try.isAgg22 (by assumption)) ?_
                  refine .q hs (q_move rfl) ?_
                  refine .q hs (q_ixO (k := y) rfl rfl Try.runUnderlying22 Try.sizeOf3 rfl hy) ?_
                  first | refine .q hs (q_load rfl Try.isAgg3 (hm := by repeat (first | exact .here | assumption | exact Mem.row (by omega) (by omega) | refine .there ?_ | refine Mem.app2 ?_)) (hv := by first | rfl | exact ptr_get (by omega) | exact Is_gt (by assumption) (by omega) (by omega) | exact Is_gi (by first | assumption | omega))) ?_ | refine .q hs (q_loadR rfl Try.isAgg3 (by assumption)) ?_
                  refine .q hs (q_move rfl) ?_
                  first | refine .q hs (q_addF rfl rfl (by omega)) ?_ | refine .q hs (q_addU rfl rfl ⟨by omega, by omega⟩) ?_ | refine .q hs (q_add rfl rfl) ?_
                  refine .q hs (q_ixO (k := y) rfl rfl Try.runUnderlying22 Try.sizeOf3 rfl hy) ?_
                  refine .o (.store hs rfl rfl Try.sizeOf3 ?_ (.there (.there (Upd.row _ (by omega) (by omega)))) (blt_Is (by rw [hqF'.2 _ hxn]; exact hy)) (Is_set _ _ _)); intro w hs
                  refine .nil ?_
                  refine nB (nT ?_)
                  refine .region ?_
                  refine .q hs (q_move rfl) ?_
                  refine .q hs (q_move rfl) ?_
                  refine .ixX (enc := stepC es) hs hRb rfl rfl Try.runUnderlying239 Try.sizeOf244 (ga_get (l := s.by_) (i := y) (by omega)) rfl ?_; intro b138 o138 hc138
                  rw [hgx, stepC_eq] at hc138
                  first | refine .q hs (q_fa0 rfl fa_moorsomref02_step_0) ?_ | refine .q hs (q_fa rfl fa_moorsomref02_step_0) ?_
                  refine .q hs (q_loadR rfl Try.isAgg3 (hc138.get 0 rfl)) ?_
                  rw [hsF]
                  refine .q hs (q_assign rfl) ?_
                  refine .nil ?_
                  refine nT ?_
                  exact ⟨(j + 1, x.f, _), by repeat (first | exact .nil rfl rfl | refine .cons rfl ?_), ⟨hA', ⟨hxn, hxf⟩, ⟨hqF'.set hxn _, by rw [gt_set hqF' hxn hy]; exact hpu⟩, hs.tail⟩, by dsimp only; omega⟩
              · refine .exit ?_
                refine xT (xT (xB (nT ?_)))
                refine .regSeq ?_
                have hyv : y = v := by omega
                subst hyv
                obtain ⟨ej, -⟩ := hA.stop hu
                subst ej
                refine .q hs (q_move rfl) ?_
                refine .q hs (q_move rfl) ?_
                refine .q hs (q_ixO (k := y) rfl rfl Try.runUnderlying22 Try.sizeOf3 rfl hv) ?_
                refine .q hs (q_load rfl Try.isAgg3 (hm := .there (Mem.app2 .here)) (hv := Is_get (gi_get (l := lf) (i := y) (by omega)) sp)) ?_
                refine .q hs (q_move rfl) ?_
                first | refine .q hs (q_addF rfl rfl (by omega)) ?_ | refine .q hs (q_addU rfl rfl ⟨by omega, by omega⟩) ?_ | refine .q hs (q_add rfl rfl) ?_
                refine .q hs (q_ixO (k := y) rfl rfl Try.runUnderlying22 Try.sizeOf3 rfl hv) ?_
                refine .o (.store hs rfl rfl Try.sizeOf3 ?_ (.there (Upd.app2 .here)) (by simp; omega) (set_sp (by omega) _ sp)); intro w hs
                refine .nil ?_
                refine .region ?_
                refine .q hs (q_move rfl) ?_
                refine .q hs (q_move rfl) ?_
                refine .q hs (q_ixO (k := t) rfl rfl Try.runUnderlying22 Try.sizeOf3 rfl ht) ?_
                have hgt : gi (lf.set y (gi lf y + m)) t = gi lf t := by rw [gi_set (by omega), if_neg (Ne.symm hvt)]
                refine .q hs (q_load rfl Try.isAgg3 (hm := .there (Mem.app2 .here)) (hv := Is_get (gi_get (l := lf.set y (gi lf y + m)) (i := t) (by rw [List.length_set]; omega)) sp)) ?_
                refine .q hs (q_move rfl) ?_
                first | refine .q hs (q_subF rfl rfl (by omega)) ?_ | refine .q hs (q_sub rfl rfl) ?_
                refine .q hs (q_ixO (k := t) rfl rfl Try.runUnderlying22 Try.sizeOf3 rfl ht) ?_
                refine .o (.store hs rfl rfl Try.sizeOf3 ?_ (.there (Upd.app2 .here)) (by simp; omega) (set_sp (by rw [List.length_set]; omega) _ sp)); intro w hs
                refine .nil ?_
                refine nB (nT ?_)
                have hrm : 0 ≤ rem (n + 1) (lfTo lf m y t) := sumTo_nonneg fun v _ => by omega
                exact ⟨(Fs', pushes es m ts (trail s.by_ t j), lfTo lf m y t), by repeat (first | exact .nil rfl rfl | refine .cons rfl ?_), ⟨⟨hqF', hC', hsend.1⟩, H2, hle02, hs⟩, by dsimp only; have := hsend.2; omega⟩
        · rintro fs w ⟨hfs, hl0, hs⟩
          refine WE.sub ?_ hfs
          obtain ⟨hik, hA', htr⟩ := hA.next hl0 hu
          obtain ⟨hxm, hxt, hxf⟩ : ga s.by_ v ∈ resid es ts ∧ (ga s.by_ v).t = v ∧ gi s.cost (ga s.by_ v).f < free := by
            rcases hby with ⟨h, _⟩ | ⟨_, h1, h2, h3, _⟩
            · omega
            · exact ⟨h1, h2, h3⟩
          have hxn := (hg.ok _ hxm).1
          have hsF := stepF_pos hl0
          generalize hgx : ga s.by_ v = x at *
          refine .block ?_
          refine .regSeq ?_
          refine .q hs (q_move rfl) ?_
          refine .q hs (q_move rfl) ?_
          refine .ixX (enc := stepC es) hs hRb rfl rfl Try.runUnderlying239 Try.sizeOf244 (ga_get (l := s.by_) (i := v) (by omega)) rfl ?_; intro b109 o109 hc109
          rw [hgx, stepC_eq] at hc109
          refine .q hs (q_loadsR (vs := [I (stepF x), .bool (stepB es x)]) rfl Try.isAgg244 Try.sizeOf244 hc109) ?_
          refine .o (.alloc hs Try.zeroValue244 rfl ?_); intro b17 w hs
          refine .o (.stores (vs := [I (stepF x), .bool (stepB es x)]) hs rfl rfl Try.sizeOf244 ?_); intro w hs
          refine .nil ?_
          refine .seq ?_
          refine .regSeq ?_
          first | refine .q hs (q_fa0 rfl fa_moorsomref02_step_1) ?_ | refine .q hs (q_fa rfl fa_moorsomref02_step_1) ?_
          first | refine .q hs (q_load rfl Try.isAgg4 (hm := by repeat (first | exact .here | assumption | exact Mem.row (by omega) (by omega) | refine .there ?_ | refine Mem.app2 ?_)) (hv := by first | rfl | exact ptr_get (by omega) | exact Is_gt (by assumption) (by omega) (by omega) | exact Is_gi (by first | assumption | omega))) ?_ | refine .q hs (q_loadR rfl Try.isAgg4 (by assumption)) ?_
          refine .nil ?_
          refine (.cond rfl (fun hc112 => ?_) (fun hc112 => ?_))
          · refine .draw mix rfl hs ?_; intro w hs
            refine .p (i := 0) rfl (by kernel_rfl) .none (q_move rfl) ?_
            refine .p (i := 1) rfl (by kernel_rfl) .none (q_move rfl) ?_
            refine .p (i := 2) rfl (by kernel_rfl) .none (q_move rfl) ?_
            refine .p (i := 3) rfl (by kernel_rfl) .none (q_ixO (k := v) rfl rfl Try.runUnderlying87 Try.sizeOf22 rfl hv) ?_
            first | refine .load (i := 4) hs rfl (by kernel_rfl) .none rfl Try.isAgg22 ?_ (by repeat (first | exact .here | assumption | exact Mem.row (by omega) (by omega) | refine .there ?_ | refine Mem.app2 ?_)) (by first | rfl | exact ptr_get (by omega) | exact Is_gt (by assumption) (by omega) (by omega) | exact Is_gi (by first | assumption | omega)) | refine .r (i := 4) hs rfl (by kernel_rfl) .none (q_loadR rfl Try.isAgg22 (by assumption)) ?_
            first | refine .p (i := 5) rfl (by kernel_rfl) .none (q_fa0 rfl fa_moorsomref02_step_0) ?_ | refine .p (i := 5) rfl (by kernel_rfl) .none (q_fa rfl fa_moorsomref02_step_0) ?_
            first | refine .load (i := 6) hs rfl (by kernel_rfl) .none rfl Try.isAgg3 ?_ (by repeat (first | exact .here | assumption | exact Mem.row (by omega) (by omega) | refine .there ?_ | refine Mem.app2 ?_)) (by first | rfl | exact ptr_get (by omega) | exact Is_gt (by assumption) (by omega) (by omega) | exact Is_gi (by first | assumption | omega)) | refine .r (i := 6) hs rfl (by kernel_rfl) .none (q_loadR rfl Try.isAgg3 (by assumption)) ?_
            rw [hsF] at hs ⊢
            refine .p (i := 7) rfl (by kernel_rfl) .none (q_ixO (k := x.f) rfl rfl Try.runUnderlying22 Try.sizeOf3 rfl hxn) ?_
            first | refine .load (i := 8) hs rfl (by kernel_rfl) .none rfl Try.isAgg3 ?_ (by repeat (first | exact .here | assumption | exact Mem.row (by omega) (by omega) | refine .there ?_ | refine Mem.app2 ?_)) (by first | rfl | exact ptr_get (by omega) | exact Is_gt (by assumption) (by omega) (by omega) | exact Is_gi (by first | assumption | omega)) | refine .r (i := 8) hs rfl (by kernel_rfl) .none (q_loadR rfl Try.isAgg3 (by assumption)) ?_
            first | refine .p (i := 9) rfl (by kernel_rfl) .none (q_minI rfl rfl) ?_ | refine .p (i := 9) rfl (by kernel_rfl) .none (q_min rfl rfl) ?_
            refine .p (i := 10) rfl (by kernel_rfl) .none (q_assign rfl) ?_
            refine .done (by kernel_rfl) hs ?_ (hp := by repeat (first | exact .nil | refine .cons (by first | exact HLe.bot _ | exact HLe.refl _ | assumption) (by first | exact .nil | (refine Sub.one ?_; repeat (first | exact .here | assumption | exact Mem.row (by omega) (by omega) | refine .there ?_ | refine Mem.app2 ?_))) ?_))
            refine nT ?_
            refine .region ?_
            first | refine .q hs (q_fa0 rfl fa_moorsomref02_step_0) ?_ | refine .q hs (q_fa rfl fa_moorsomref02_step_0) ?_
            first | refine .q hs (q_load rfl Try.isAgg3 (hm := by repeat (first | exact .here | assumption | exact Mem.row (by omega) (by omega) | refine .there ?_ | refine Mem.app2 ?_)) (hv := by first | rfl | exact ptr_get (by omega) | exact Is_gt (by assumption) (by omega) (by omega) | exact Is_gi (by first | assumption | omega))) ?_ | refine .q hs (q_loadR rfl Try.isAgg3 (by assumption)) ?_
            try rw [hsF]
            refine .q hs (q_assign rfl) ?_
            refine .nil ?_
            refine nB (nT ?_)
            have hnf := stepB_t hc112
            have hcb := (hC.back hT hxm hnf).1
            rw [hxt] at hcb
            exact ⟨(i + 1, x.f), .cons rfl (.consI rfl (by dsimp only; rw [htr, least_snoc, if_neg hnf, hcb]) (by repeat (first | exact .nil rfl rfl | refine .cons rfl ?_))), ⟨hA', ⟨hxn, hxf⟩, hs.tail⟩, by dsimp only; omega⟩
          · refine .skip ?_
            refine nT ?_
            refine .region ?_
            first | refine .q hs (q_fa0 rfl fa_moorsomref02_step_0) ?_ | refine .q hs (q_fa rfl fa_moorsomref02_step_0) ?_
            first | refine .q hs (q_load rfl Try.isAgg3 (hm := by repeat (first | exact .here | assumption | exact Mem.row (by omega) (by omega) | refine .there ?_ | refine Mem.app2 ?_)) (hv := by first | rfl | exact ptr_get (by omega) | exact Is_gt (by assumption) (by omega) (by omega) | exact Is_gi (by first | assumption | omega))) ?_ | refine .q hs (q_loadR rfl Try.isAgg3 (by assumption)) ?_
            try rw [hsF]
            refine .q hs (q_assign rfl) ?_
            refine .nil ?_
            refine nB (nT ?_)
            have hnf := stepB_f hl0 (by simpa using hc112)
            exact ⟨(i + 1, x.f), .cons rfl (.consI rfl (by dsimp only; rw [htr, least_snoc, if_pos hnf]) (by repeat (first | exact .nil rfl rfl | refine .cons rfl ?_))), ⟨hA', ⟨hxn, hxf⟩, hs.tail⟩, by dsimp only; omega⟩
end Go.Proofs.Ytiiokdeehlfeeaa

/-
  Walks: the reference's checks of systems and weights; its greatest sums and ranges.
-/
namespace Go.Proofs.Ytiiokdeehlfeeaa
open Go.MW
theorem notdec_true {p : Prop} [Decidable p] : (!decide p) = true ↔ ¬ p := by simp
theorem notdec_false {p : Prop} [Decidable p] : (!decide p) = false ↔ p := by simp
theorem ref02_within_spec {H : Heap} {w : World} {σ : List Ent} {a0 a1 a2 : Int} (hs : St H w σ) : Cl Try.prog 111 [I a0, I a1, I a2] w fun v w' => v = .bool (decide (a1 ≤ a0 ∧ a0 ≤ a2)) ∧ St H w' σ := by
  refine Cl.of Try.func111 rfl Try.ntmps111 (by simp) (args_cons (k := 0) rfl (args_cons (k := 1) rfl (args_cons (k := 2) rfl (args0)))) ?_
  refine .regSeq ?_
  refine .q hs (q_assign rfl) ?_
  refine .nil ?_
  refine .regSeq ?_
  refine .q hs (q_move rfl) ?_
  refine .q hs (q_move rfl) ?_
  refine .q hs (q_leq rfl rfl) ?_
  refine .q hs (q_move rfl) ?_
  refine .bifD (t' := 10) rfl (fun hb10 => ?_) (fun hb10 => ?_)
  · refine .gT rfl rfl ?_
    refine .q hs (q_move rfl) ?_
    refine .gT rfl rfl ?_
    refine .q hs (q_move rfl) ?_
    refine .gT rfl rfl ?_
    refine .q hs (q_leq rfl rfl) ?_
    refine .q hs (q_pickT rfl rfl) ?_
    refine .q hs (q_assign rfl) ?_
    refine .nil ?_
    refine .ret (Fin.ret1 Try.results111 rfl ?_)
    exact ⟨by simp [*], hs.out⟩
  · refine .gFs 3 3 true rfl rfl rfl ?_
    refine .q hs (q_pickF rfl rfl) ?_
    refine .q hs (q_assign rfl) ?_
    refine .nil ?_
    refine .ret (Fin.ret1 Try.results111 rfl ?_)
    exact ⟨by simp [*], hs.out⟩
theorem ref02_CheckLimit_spec {H : Heap} {w : World} {σ : List Ent} {many : Int} {l : Lim} (hs : St H w σ) : Cl Try.prog 71 [I many, .agg l.c.toArray] w fun v w' => v = I (if decide (0 ≤ many ∧ many ≤ 64) && l.ok many then 0 else 20) ∧ St H w' σ := by
  refine Cl.of Try.func71 rfl Try.ntmps71 (by simp) (args_cons (k := 0) rfl (args_cons (k := 1) rfl (args0))) ?_
  refine .regSeq ?_
  refine .o (.box hs rfl rfl ?_); intro b3 w hs
  refine .q hs (q_assign rfl) ?_
  refine .nil ?_
  refine .seq ?_
  refine .regSeq ?_
  refine .q hs (q_move rfl) ?_
  refine .o (.call Try.call111 rfl (ref02_within_spec hs) ?_); rintro _ w ⟨rfl, hs⟩
  refine .q hs (q_not rfl) ?_
  refine .q hs (q_move rfl) ?_
  refine .bif (t' := 8) rfl (fun hb8 => ?_) (fun hb8 => ?_)
  · refine .gFs 5 3 false rfl rfl rfl ?_
    refine .q hs (q_pickT rfl rfl) ?_
    refine .q hs (q_move rfl) ?_
    refine .gFs 5 10 false rfl rfl rfl ?_
    refine .q hs (q_pickT rfl rfl) ?_
    refine .q hs (q_move rfl) ?_
    refine .gFs 5 17 false rfl rfl rfl ?_
    refine .q hs (q_pickT rfl rfl) ?_
    refine .q hs (q_move rfl) ?_
    refine .gFs 4 24 false rfl rfl rfl ?_
    refine .q hs (q_pickT rfl rfl) ?_
    refine .q hs (q_move rfl) ?_
    refine .gFs 4 30 false rfl rfl rfl ?_
    refine .q hs (q_pickT rfl rfl) ?_
    refine .nil ?_
    refine (.condT rfl rfl ?_)
    refine .regSeq ?_
    refine .q hs (q_assign rfl) ?_
    refine .nil ?_
    refine .ret (rT (Fin.ret1 Try.results71 rfl ?_))
    (try simp only [notdec_true] at *)
    (try simp only [notdec_false] at *)
    refine ⟨congrArg I ?_, hs.out⟩
    unfold Lim.ok
    first
      | (rw [if_pos (by simp only [Bool.and_eq_true, decide_eq_true_eq]; omega)]; done)
      | (rw [if_neg (by simp only [Bool.and_eq_true, decide_eq_true_eq]; omega)]; done)
  · refine .gT rfl rfl ?_
    first | refine .q hs (q_fa0 rfl fa_api_Limit_0) ?_ | refine .q hs (q_fa rfl fa_api_Limit_0) ?_
    refine .gT rfl rfl ?_
    first | refine .q hs (q_load rfl Try.isAgg3) ?_ | refine .q hs (q_loadR rfl Try.isAgg3 (by assumption)) ?_
    refine .gT rfl rfl ?_
    refine .q hs (q_move rfl) ?_
    refine .gT rfl rfl ?_
    refine .o (.call Try.call111 rfl (ref02_within_spec hs) ?_); rintro _ w ⟨rfl, hs⟩
    refine .gT rfl rfl ?_
    refine .q hs (q_not rfl) ?_
    refine .q hs (q_pickF rfl rfl) ?_
    refine .q hs (q_move rfl) ?_
    refine .bif (t' := 15) rfl (fun hb15 => ?_) (fun hb15 => ?_)
    · refine .gFs 5 10 false rfl rfl rfl ?_
      refine .q hs (q_pickT rfl rfl) ?_
      refine .q hs (q_move rfl) ?_
      refine .gFs 5 17 false rfl rfl rfl ?_
      refine .q hs (q_pickT rfl rfl) ?_
      refine .q hs (q_move rfl) ?_
      refine .gFs 4 24 false rfl rfl rfl ?_
      refine .q hs (q_pickT rfl rfl) ?_
      refine .q hs (q_move rfl) ?_
      refine .gFs 4 30 false rfl rfl rfl ?_
      refine .q hs (q_pickT rfl rfl) ?_
      refine .nil ?_
      refine (.condT rfl rfl ?_)
      refine .regSeq ?_
      refine .q hs (q_assign rfl) ?_
      refine .nil ?_
      refine .ret (rT (Fin.ret1 Try.results71 rfl ?_))
      (try simp only [notdec_true] at *)
      (try simp only [notdec_false] at *)
      refine ⟨congrArg I ?_, hs.out⟩
      unfold Lim.ok
      first
        | (rw [if_pos (by simp only [Bool.and_eq_true, decide_eq_true_eq]; omega)]; done)
        | (rw [if_neg (by simp only [Bool.and_eq_true, decide_eq_true_eq]; omega)]; done)
    · refine .gT rfl rfl ?_
      first | refine .q hs (q_fa0 rfl fa_api_Limit_1) ?_ | refine .q hs (q_fa rfl fa_api_Limit_1) ?_
      refine .gT rfl rfl ?_
      first | refine .q hs (q_load rfl Try.isAgg3) ?_ | refine .q hs (q_loadR rfl Try.isAgg3 (by assumption)) ?_
      refine .gT rfl rfl ?_
      refine .q hs (q_move rfl) ?_
      refine .gT rfl rfl ?_
      refine .o (.call Try.call111 rfl (ref02_within_spec hs) ?_); rintro _ w ⟨rfl, hs⟩
      refine .gT rfl rfl ?_
      refine .q hs (q_not rfl) ?_
      refine .q hs (q_pickF rfl rfl) ?_
      refine .q hs (q_move rfl) ?_
      refine .bif (t' := 22) rfl (fun hb22 => ?_) (fun hb22 => ?_)
      · refine .gFs 5 17 false rfl rfl rfl ?_
        refine .q hs (q_pickT rfl rfl) ?_
        refine .q hs (q_move rfl) ?_
        refine .gFs 4 24 false rfl rfl rfl ?_
        refine .q hs (q_pickT rfl rfl) ?_
        refine .q hs (q_move rfl) ?_
        refine .gFs 4 30 false rfl rfl rfl ?_
        refine .q hs (q_pickT rfl rfl) ?_
        refine .nil ?_
        refine (.condT rfl rfl ?_)
        refine .regSeq ?_
        refine .q hs (q_assign rfl) ?_
        refine .nil ?_
        refine .ret (rT (Fin.ret1 Try.results71 rfl ?_))
        (try simp only [notdec_true] at *)
        (try simp only [notdec_false] at *)
        refine ⟨congrArg I ?_, hs.out⟩
        unfold Lim.ok
        first
          | (rw [if_pos (by simp only [Bool.and_eq_true, decide_eq_true_eq]; omega)]; done)
          | (rw [if_neg (by simp only [Bool.and_eq_true, decide_eq_true_eq]; omega)]; done)
      · refine .gT rfl rfl ?_
        first | refine .q hs (q_fa0 rfl fa_api_Limit_0) ?_ | refine .q hs (q_fa rfl fa_api_Limit_0) ?_
        refine .gT rfl rfl ?_
        first | refine .q hs (q_load rfl Try.isAgg3) ?_ | refine .q hs (q_loadR rfl Try.isAgg3 (by assumption)) ?_
        refine .gT rfl rfl ?_
        first | refine .q hs (q_fa0 rfl fa_api_Limit_1) ?_ | refine .q hs (q_fa rfl fa_api_Limit_1) ?_
        refine .gT rfl rfl ?_
        first | refine .q hs (q_load rfl Try.isAgg3) ?_ | refine .q hs (q_loadR rfl Try.isAgg3 (by assumption)) ?_
        refine .gT rfl rfl ?_
        refine .q hs (q_eql rfl rfl) ?_
        refine .q hs (q_pickF rfl rfl) ?_
        refine .q hs (q_move rfl) ?_
        refine .bifD (t' := 29) rfl (fun hb29 => ?_) (fun hb29 => ?_)
        · refine .gFs 4 24 false rfl rfl rfl ?_
          refine .q hs (q_pickT rfl rfl) ?_
          refine .q hs (q_move rfl) ?_
          refine .gFs 4 30 false rfl rfl rfl ?_
          refine .q hs (q_pickT rfl rfl) ?_
          refine .nil ?_
          refine (.condT rfl rfl ?_)
          refine .regSeq ?_
          refine .q hs (q_assign rfl) ?_
          refine .nil ?_
          refine .ret (rT (Fin.ret1 Try.results71 rfl ?_))
          (try simp only [notdec_true] at *)
          (try simp only [notdec_false] at *)
          refine ⟨congrArg I ?_, hs.out⟩
          unfold Lim.ok
          first
            | (rw [if_pos (by simp only [Bool.and_eq_true, decide_eq_true_eq]; omega)]; done)
            | (rw [if_neg (by simp only [Bool.and_eq_true, decide_eq_true_eq]; omega)]; done)
        · refine .gT rfl rfl ?_
          first | refine .q hs (q_fa0 rfl fa_api_Limit_2) ?_ | refine .q hs (q_fa rfl fa_api_Limit_2) ?_
          refine .gT rfl rfl ?_
          first | refine .q hs (q_load rfl Try.isAgg3) ?_ | refine .q hs (q_loadR rfl Try.isAgg3 (by assumption)) ?_
          refine .gT rfl rfl ?_
          refine .o (.call Try.call111 rfl (ref02_within_spec hs) ?_); rintro _ w ⟨rfl, hs⟩
          refine .gT rfl rfl ?_
          refine .q hs (q_not rfl) ?_
          refine .q hs (q_pickF rfl rfl) ?_
          refine .q hs (q_move rfl) ?_
          refine .bif (t' := 35) rfl (fun hb35 => ?_) (fun hb35 => ?_)
          · refine .gFs 4 30 false rfl rfl rfl ?_
            refine .q hs (q_pickT rfl rfl) ?_
            refine .nil ?_
            refine (.condT rfl rfl ?_)
            refine .regSeq ?_
            refine .q hs (q_assign rfl) ?_
            refine .nil ?_
            refine .ret (rT (Fin.ret1 Try.results71 rfl ?_))
            (try simp only [notdec_true] at *)
            (try simp only [notdec_false] at *)
            refine ⟨congrArg I ?_, hs.out⟩
            unfold Lim.ok
            first
              | (rw [if_pos (by simp only [Bool.and_eq_true, decide_eq_true_eq]; omega)]; done)
              | (rw [if_neg (by simp only [Bool.and_eq_true, decide_eq_true_eq]; omega)]; done)
          · refine .gT rfl rfl ?_
            first | refine .q hs (q_fa0 rfl fa_api_Limit_3) ?_ | refine .q hs (q_fa rfl fa_api_Limit_3) ?_
            refine .gT rfl rfl ?_
            first | refine .q hs (q_load rfl Try.isAgg3) ?_ | refine .q hs (q_loadR rfl Try.isAgg3 (by assumption)) ?_
            refine .gT rfl rfl ?_
            refine .o (.call Try.call111 rfl (ref02_within_spec hs) ?_); rintro _ w ⟨rfl, hs⟩
            refine .gT rfl rfl ?_
            refine .q hs (q_not rfl) ?_
            refine .q hs (q_pickF rfl rfl) ?_
            refine .nil ?_
            refine (.cond rfl (fun hc40 => ?_) (fun hc40 => ?_))
            · refine .regSeq ?_
              refine .q hs (q_assign rfl) ?_
              refine .nil ?_
              refine .ret (rT (Fin.ret1 Try.results71 rfl ?_))
              (try simp only [notdec_true] at *)
              (try simp only [notdec_false] at *)
              refine ⟨congrArg I ?_, hs.out⟩
              unfold Lim.ok
              first
                | (rw [if_pos (by simp only [Bool.and_eq_true, decide_eq_true_eq]; omega)]; done)
                | (rw [if_neg (by simp only [Bool.and_eq_true, decide_eq_true_eq]; omega)]; done)
            · refine .skip ?_
              refine nT ?_
              refine .regSeq ?_
              refine .q hs (q_assign rfl) ?_
              refine .nil ?_
              refine .ret (Fin.ret1 Try.results71 rfl ?_)
              (try simp only [notdec_true] at *)
              (try simp only [notdec_false] at *)
              refine ⟨congrArg I ?_, hs.out⟩
              unfold Lim.ok
              first
                | (rw [if_pos (by simp only [Bool.and_eq_true, decide_eq_true_eq]; omega)]; done)
                | (rw [if_neg (by simp only [Bool.and_eq_true, decide_eq_true_eq]; omega)]; done)
theorem ref02_Check_spec {H : Heap} {w : World} {σ : List Ent} {v : Value} {s : Syst} (hs : St H w σ) (hr : RSy H v s) : Cl Try.prog 73 [v] w fun v w' => v = I s.check ∧ St H w' σ := by
  obtain ⟨u, rfl, hr⟩ := hr
  obtain ⟨a, c, rfl⟩ := RL.shape hr
  have hlen := (RS.len (RS.recap hr (Nat.le_refl _) (cap' := s.lims.length))).2.2
  refine Cl.of Try.func73 rfl Try.ntmps73 (by simp) (args_cons (k := 0) rfl (args0)) ?_
  refine .regSeq ?_
  refine .o (.box hs rfl rfl ?_); intro b1 w hs
  refine .q hs (q_assign rfl) ?_
  refine .nil ?_
  refine .seq ?_
  refine .regSeq ?_
  first | refine .q hs (q_fa0 rfl fa_api_System_0) ?_ | refine .q hs (q_fa rfl fa_api_System_0) ?_
  first | refine .q hs (q_load rfl Try.isAgg3) ?_ | refine .q hs (q_loadR rfl Try.isAgg3 (by assumption)) ?_
  refine .o (.call Try.call111 rfl (ref02_within_spec hs) ?_); rintro _ w ⟨rfl, hs⟩
  refine .q hs (q_not rfl) ?_
  refine .nil ?_
  refine (.cond rfl (fun hc8 => ?_) (fun hc8 => ?_))
  · refine .regSeq ?_
    refine .q hs (q_assign rfl) ?_
    refine .nil ?_
    refine .ret (rT (Fin.ret1 Try.results73 rfl ?_))
    exact ⟨congrArg I (by unfold Syst.check; rw [if_pos (by simp at hc8; omega)]), hs.out⟩
  · refine .skip ?_
    refine nT ?_
    refine .seq ?_
    refine .regSeq ?_
    first | refine .q hs (q_fa0 rfl fa_api_System_1) ?_ | refine .q hs (q_fa rfl fa_api_System_1) ?_
    first | refine .q hs (q_load rfl Try.isAgg30) ?_ | refine .q hs (q_loadR rfl Try.isAgg30 (by assumption)) ?_
    first | refine .q hs (q_len rfl Try.runUnderlying30) ?_ | refine .q hs (q_lenR (by assumption) rfl Try.runUnderlying30) ?_ | refine .q hs (q_lenI (by assumption) rfl Try.runUnderlying30) ?_
    refine .q hs (q_gtr rfl rfl) ?_
    refine .nil ?_
    refine (.condD rfl (fun hc12 => ?_) (fun hc12 => ?_))
    · refine .regSeq ?_
      refine .q hs (q_assign rfl) ?_
      refine .nil ?_
      refine .ret (rT (Fin.ret1 Try.results73 rfl ?_))
      exact ⟨congrArg I (by unfold Syst.check; rw [if_neg (by simpa using hc8), if_pos (by omega)]), hs.out⟩
    · refine .skip ?_
      refine nT ?_
      refine .seq ?_
      refine .regSeq ?_
      first | refine .q hs (q_fa0 rfl fa_api_System_1) ?_ | refine .q hs (q_fa rfl fa_api_System_1) ?_
      first | refine .q hs (q_load rfl Try.isAgg30) ?_ | refine .q hs (q_loadR rfl Try.isAgg30 (by assumption)) ?_
      first | refine .q hs (q_len rfl Try.runUnderlying30) ?_ | refine .q hs (q_lenR (by assumption) rfl Try.runUnderlying30) ?_ | refine .q hs (q_lenI (by assumption) rfl Try.runUnderlying30) ?_
      refine .q hs (q_move rfl) ?_
      refine .nil ?_
      refine .for (N := s.lims.length) (J := fun k fr w => fr = [(14, .slice a s.lims.length c), (1, .pointer (some ⟨b1, 0, none⟩))] ∧ (∀ j < k, ∀ l, s.lims[j]? = some l → l.ok s.many = true) ∧ St H w (.blk b1 [I s.many, .slice a s.lims.length c] :: σ)) (by omega) ?_ ?_ ?_
      · exact .mk ⟨rfl, fun j hj => by omega, hs⟩
      · rintro k fr w hk ⟨rfl, hno, hs⟩
        obtain ⟨x, hx⟩ := nth (l := s.lims) hk
        refine .block ?_
        refine .regSeq ?_
        refine .ixX (enc := Lim.c) hs hr rfl rfl Try.runUnderlying30 Try.sizeOf100 hx rfl ?_; intro b18 o18 hc18
        refine .q hs (q_loadsR (vs := x.c) rfl Try.isAgg100 Try.sizeOf100 hc18) ?_
        refine .o (.alloc hs Try.zeroValue100 rfl ?_); intro b4 w hs
        refine .o (.stores (vs := x.c) hs rfl rfl Try.sizeOf100 ?_); intro w hs
        refine .nil ?_
        refine .regSeq ?_
        first | refine .q hs (q_fa0 rfl fa_api_System_0) ?_ | refine .q hs (q_fa rfl fa_api_System_0) ?_
        first | refine .q hs (q_load rfl Try.isAgg3) ?_ | refine .q hs (q_loadR rfl Try.isAgg3 (by assumption)) ?_
        refine .q hs (q_loads (vs := x.c) rfl Try.isAgg100 Try.sizeOf100) ?_
        refine .o (.call Try.call71 rfl (ref02_CheckLimit_spec hs) ?_); rintro _ w ⟨rfl, hs⟩
        have hmm : 0 ≤ s.many ∧ s.many ≤ 64 := by simpa using hc8
        rw [show (decide (0 ≤ s.many ∧ s.many ≤ 64) && x.ok s.many) = x.ok s.many by rw [decide_eq_true hmm]; rfl]
        refine .q hs (q_neq rfl rfl) ?_
        refine .nil ?_
        refine (.condN rfl (fun hc24 => ?_) (fun hc24 => ?_))
        · refine .regSeq ?_
          refine .q hs (q_assign rfl) ?_
          refine .nil ?_
          refine .ret (rB (rT (rB (rT (Fin.ret1 Try.results73 rfl ?_)))))
          exact ⟨congrArg I (by
            have hx0 : x.ok s.many = false := by cases e : x.ok s.many with | false => rfl | true => rw [e] at hc24; simp at hc24
            unfold Syst.check; rw [if_neg (by simpa using hc8), if_neg (by omega), if_pos (List.any_eq_true.2 ⟨x, List.mem_of_getElem? hx, by rw [hx0]; rfl⟩)]), hs.out⟩
        · refine .skip ?_
          refine nB (nT ?_)
          exact .mk ⟨rfl, upto_succ hno hx (by cases e : x.ok s.many with | true => rfl | false => rw [e] at hc24; simp at hc24), hs.tail⟩
      · rintro fr w ⟨rfl, hno, hs⟩
        refine nT ?_
        refine .regSeq ?_
        refine .q hs (q_assign rfl) ?_
        refine .nil ?_
        refine .ret (Fin.ret1 Try.results73 rfl ?_)
        exact ⟨congrArg I (by
          have hall : (s.lims.any fun l => !l.ok s.many) = false := by
            simp only [List.any_eq_false, Bool.not_eq_true', Bool.not_eq_false]
            intro l hl
            obtain ⟨j, hj⟩ := List.getElem?_of_mem hl
            exact hno j (List.getElem?_eq_some_iff.1 hj).1 l hj
          unfold Syst.check; rw [if_neg (by simpa using hc8), if_neg (by omega), hall]; rfl), hs.out⟩
theorem ref02_sized_spec {H : Heap} {w : World} {σ : List Ent} {v : Value} {ws : List Int} (hs : St H w σ) (hr : RI H v ws) : Cl Try.prog 171 [v] w fun v w' => ∃ b, v = .bool b ∧ (b = true ↔ SizedW ws) ∧ St H w' σ := by
  obtain ⟨a, c, rfl⟩ := RI.shape hr
  have hl := (RI.len hr).2.2
  refine Cl.of Try.func171 rfl Try.ntmps171 (by simp) (args_cons (k := 0) rfl (args0)) ?_
  refine .regSeq ?_
  refine .q hs (q_assign rfl) ?_
  refine .nil ?_
  refine .regSeq ?_
  refine .q hs (q_assign rfl) ?_
  refine .nil ?_
  refine .seq ?_
  refine .regSeq ?_
  refine .q hs (q_move rfl) ?_
  first | refine .q hs (q_len rfl Try.runUnderlying22) ?_ | refine .q hs (q_lenR (by assumption) rfl Try.runUnderlying22) ?_ | refine .q hs (q_lenI (by assumption) rfl Try.runUnderlying22) ?_
  refine .q hs (q_move rfl) ?_
  refine .nil ?_
  refine .for (N := ws.length) (J := fun k fr w => fr = [(6, .slice a ws.length c), (3, I (sizesTo ws k))] ∧ sizesTo ws k ≤ 3600000000000 ∧ St H w σ) (by omega) ?_ ?_ ?_
  · exact .mk ⟨rfl, by simp [sizesTo, sumTo], hs⟩
  · rintro k fr w hk ⟨rfl, hle, hs⟩
    have hx := gi_get hk
    have h0 : 0 ≤ sizesTo ws k := sumTo_nonneg fun v _ => by omega
    have h1 : sizesTo ws (k + 1) = sizesTo ws k + max (gi ws k) (-gi ws k) := rfl
    refine .block ?_
    refine .regSeq ?_
    first | (refine .ixY hs (by assumption) rfl rfl Try.runUnderlying22 Try.sizeOf3 (by assumption) (by first | rfl | omega) ?_; intro b10 o10 hc10) | refine .q hs (q_ixO rfl rfl Try.runUnderlying22 Try.sizeOf3 (by first | rfl | omega) (by first | assumption | omega)) ?_  -- indexAddr <[]int> t6 t8
    first | refine .q hs (q_load rfl Try.isAgg3) ?_ | refine .q hs (q_loadR rfl Try.isAgg3 (by assumption)) ?_
    refine .q hs (q_assign rfl) ?_
    refine .nil ?_
    refine .seq ?_
    refine .regSeq ?_
    refine .q hs (q_move rfl) ?_
    refine .q hs (q_lss rfl rfl) ?_
    refine .q hs (q_move rfl) ?_
    refine .bifD (t' := 14) rfl (fun hb14 => ?_) (fun hb14 => ?_)
    · refine .gFs 2 2 false rfl rfl rfl ?_
      refine .q hs (q_pickT rfl rfl) ?_
      refine .nil ?_
      refine (.condT rfl rfl ?_)
      refine .regSeq ?_
      refine .q hs (q_assign rfl) ?_
      refine .nil ?_
      refine .ret (rT (rB (rT (rB (rT (Fin.ret1 Try.results171 rfl ?_))))))
      exact ⟨false, rfl, ⟨fun h => (by cases h), fun h => (sizes_over (k := k + 1) hk (by simp only [FF]; omega) h).elim⟩, hs⟩
    · refine .gT rfl rfl ?_
      refine .q hs (q_move rfl) ?_
      refine .gT rfl rfl ?_
      refine .q hs (q_gtr rfl rfl) ?_
      refine .q hs (q_pickF rfl rfl) ?_
      refine .nil ?_
      refine (.condD rfl (fun hc17 => ?_) (fun hc17 => ?_))
      · refine .regSeq ?_
        refine .q hs (q_assign rfl) ?_
        refine .nil ?_
        refine .ret (rT (rB (rT (rB (rT (Fin.ret1 Try.results171 rfl ?_))))))
        exact ⟨false, rfl, ⟨fun h => (by cases h), fun h => (sizes_over (k := k + 1) hk (by simp only [FF]; omega) h).elim⟩, hs⟩
      · refine .skip ?_
        refine nT ?_
        refine .regSeq ?_
        refine .q hs (q_move rfl) ?_
        refine .q hs (q_move rfl) ?_
        refine .q hs (q_move rfl) ?_
        first | refine .q hs (q_negF rfl (by omega)) ?_ | refine .q hs (q_neg rfl) ?_
        first | refine .q hs (q_maxI rfl rfl) ?_ | refine .q hs (q_max rfl rfl) ?_
        first | refine .q hs (q_addF rfl rfl (by omega)) ?_ | refine .q hs (q_addU rfl rfl ⟨by omega, by omega⟩) ?_ | refine .q hs (q_add rfl rfl) ?_
        refine .q hs (q_assign rfl) ?_
        refine .nil ?_
        refine .regSeq ?_
        refine .q hs (q_move rfl) ?_
        refine .q hs (q_gtr rfl rfl) ?_
        refine .nil ?_
        refine (.condD rfl (fun hc25 => ?_) (fun hc25 => ?_))
        · refine .regSeq ?_
          refine .q hs (q_assign rfl) ?_
          refine .nil ?_
          refine .ret (rB (rT (rB (rT (Fin.ret1 Try.results171 rfl ?_)))))
          exact ⟨false, rfl, ⟨fun h => (by cases h), fun h => (sizes_over (k := k + 1) hk (by simp only [FF]; omega) h).elim⟩, hs⟩
        · refine .skip ?_
          refine nB (nT ?_)
          exact .mk ⟨rfl, by omega, hs⟩ (hs := .cons rfl (.cons rfl (.cons rfl (.consI rfl (by omega) (.nil rfl rfl)))))
  · rintro fr w ⟨rfl, hle, hs⟩
    refine nT ?_
    refine .regSeq ?_
    refine .q hs (q_assign rfl) ?_
    refine .nil ?_
    refine .ret (Fin.ret1 Try.results171 rfl ?_)
    exact ⟨true, rfl, ⟨fun _ => hle, fun _ => rfl⟩, hs⟩
theorem ref02_Weights_spec {H : Heap} {w : World} {σ : List Ent} {v vw : Value} {s : Syst} {ws : List Int} (hs : St H w σ) (hr : RSy H v s) (hrw : RI H vw ws) (hm : 0 ≤ s.many ∧ s.many ≤ 64) : Cl Try.prog 117 [v, vw] w fun v w' => ∃ b, v = .bool b ∧ (b = true ↔ (ws.length = s.n ∧ SizedW ws)) ∧ St H w' σ := by
  obtain ⟨u, rfl, hr⟩ := hr
  obtain ⟨aw, cw, rfl⟩ := RI.shape hrw
  have hn : (s.n : Int) = s.many + 1 := by simp only [Syst.n]; omega
  refine Cl.of Try.func117 rfl Try.ntmps117 (by simp) (args_cons (k := 0) rfl (args_cons (k := 1) rfl (args0))) ?_
  refine .regSeq ?_
  refine .o (.box hs rfl rfl ?_); intro b2 w hs
  refine .q hs (q_assign rfl) ?_
  refine .nil ?_
  refine .regSeq ?_
  refine .q hs (q_move rfl) ?_
  first | refine .q hs (q_len rfl Try.runUnderlying22) ?_ | refine .q hs (q_lenR (by assumption) rfl Try.runUnderlying22) ?_ | refine .q hs (q_lenI (by assumption) rfl Try.runUnderlying22) ?_
  first | refine .q hs (q_fa0 rfl fa_api_System_0) ?_ | refine .q hs (q_fa rfl fa_api_System_0) ?_
  first | refine .q hs (q_load rfl Try.isAgg3) ?_ | refine .q hs (q_loadR rfl Try.isAgg3 (by assumption)) ?_
  first | refine .q hs (q_addF rfl rfl (by omega)) ?_ | refine .q hs (q_addU rfl rfl ⟨by omega, by omega⟩) ?_ | refine .q hs (q_add rfl rfl) ?_
  refine .q hs (q_eql rfl rfl) ?_
  refine .q hs (q_move rfl) ?_
  refine .bifD (t' := 11) rfl (fun hb11 => ?_) (fun hb11 => ?_)
  · refine .gT rfl rfl ?_
    refine .q hs (q_move rfl) ?_
    refine .gT rfl rfl ?_
    refine .o (.call Try.call171 rfl (ref02_sized_spec hs hrw) ?_); rintro _ w ⟨b, rfl, hb, hs⟩
    refine .q hs (q_pickT rfl rfl) ?_
    refine .q hs (q_assign rfl) ?_
    refine .nil ?_
    refine .ret (Fin.ret1 Try.results117 rfl ?_)
    first
      | exact ⟨b, rfl, ⟨fun h => ⟨by omega, hb.1 h⟩, fun h => hb.2 h.2⟩, hs.out⟩
      | exact ⟨false, rfl, ⟨fun h => (by cases h), fun h => by omega⟩, hs.out⟩
  · refine .gFs 2 6 true rfl rfl rfl ?_
    refine .q hs (q_pickF rfl rfl) ?_
    refine .q hs (q_assign rfl) ?_
    refine .nil ?_
    refine .ret (Fin.ret1 Try.results117 rfl ?_)
    first
      | exact ⟨b, rfl, ⟨fun h => ⟨by omega, hb.1 h⟩, fun h => hb.2 h.2⟩, hs.out⟩
      | exact ⟨false, rfl, ⟨fun h => (by cases h), fun h => by omega⟩, hs.out⟩
theorem ref02_asked_spec {H : Heap} {w : World} {σ : List Ent} {v vw : Value} {s : Syst} {ws : List Int} (hs : St H w σ) (hr : RSy H v s) (hrw : RI H vw ws) : Cl Try.prog 110 [v, vw] w fun v w' => v = I (askErr s ws) ∧ St H w' σ := by
  obtain ⟨u, rfl, hr⟩ := hr
  obtain ⟨al, cl, rfl⟩ := RL.shape hr
  obtain ⟨aw, cw, rfl⟩ := RI.shape hrw
  refine Cl.of Try.func110 rfl Try.ntmps110 (by simp) (args_cons (k := 0) rfl (args_cons (k := 1) rfl (args0))) ?_
  refine .regSeq ?_
  refine .o (.box hs rfl rfl ?_); intro b2 w hs
  refine .q hs (q_assign rfl) ?_
  refine .nil ?_
  refine .regSeq ?_
  first | refine .q hs (q_loads (vs := [_, _]) rfl Try.isAgg32 Try.sizeOf32) ?_ | refine .q hs (q_loadsR (vs := [_, _]) rfl Try.isAgg32 Try.sizeOf32 (by assumption)) ?_
  refine .o (.call Try.call73 rfl (ref02_Check_spec (s := s) hs ⟨_, rfl, hr⟩) ?_); rintro _ w ⟨rfl, hs⟩
  refine .q hs (q_assign rfl) ?_
  refine .nil ?_
  refine .seq ?_
  refine .regSeq ?_
  refine .q hs (q_move rfl) ?_
  refine .q hs (q_eql rfl rfl) ?_
  refine .q hs (q_move rfl) ?_
  refine .bifD (t' := 10) rfl (fun hb10 => ?_) (fun hb10 => ?_)
  · refine .gT rfl rfl ?_
    have hok := s.ok_iff.1 hb10
    have hm0 := hok.m0; have hm1 := hok.m1
    first | refine .q hs (q_loads (vs := [_, _]) rfl Try.isAgg32 Try.sizeOf32) ?_ | refine .q hs (q_loadsR (vs := [_, _]) rfl Try.isAgg32 Try.sizeOf32 (by assumption)) ?_
    refine .gT rfl rfl ?_
    refine .q hs (q_move rfl) ?_
    refine .gT rfl rfl ?_
    refine .o (.call Try.call117 rfl (ref02_Weights_spec (s := s) hs ⟨_, rfl, hr⟩ hrw ⟨hm0, hm1⟩) ?_); rintro _ w ⟨b, rfl, hb, hs⟩
    refine .gT rfl rfl ?_
    refine .q hs (q_not rfl) ?_
    refine .q hs (q_pickT rfl rfl) ?_
    refine .nil ?_
    refine (.cond rfl (fun hc15 => ?_) (fun hc15 => ?_))
    · refine .region ?_
      refine .q hs (q_assign rfl) ?_
      refine .nil ?_
      refine nT ?_
      refine .regSeq ?_
      refine .q hs (q_move rfl) ?_
      refine .q hs (q_assign rfl) ?_
      refine .nil ?_
      refine .ret (Fin.ret1 Try.results110 rfl ?_)
      refine ⟨congrArg I ?_, hs.out⟩
      unfold askErr
      first
        | (rw [if_neg (by omega), if_neg (fun h => by have := hb.2 h; simp_all)]; done)
        | (rw [if_neg (by omega), if_pos (hb.1 (by simpa using hc15))]; omega)
        | (rw [if_pos (by assumption)]; done)
    · refine .skip ?_
      refine nT ?_
      refine .regSeq ?_
      refine .q hs (q_move rfl) ?_
      refine .q hs (q_assign rfl) ?_
      refine .nil ?_
      refine .ret (Fin.ret1 Try.results110 rfl ?_)
      refine ⟨congrArg I ?_, hs.out⟩
      unfold askErr
      first
        | (rw [if_neg (by omega), if_neg (fun h => by have := hb.2 h; simp_all)]; done)
        | (rw [if_neg (by omega), if_pos (hb.1 (by simpa using hc15))]; omega)
        | (rw [if_pos (by assumption)]; done)
  · refine .gFs 4 2 true rfl rfl rfl ?_
    refine .q hs (q_pickF rfl rfl) ?_
    refine .nil ?_
    refine (.condF rfl rfl ?_)
    refine .skip ?_
    refine nT ?_
    refine .regSeq ?_
    refine .q hs (q_move rfl) ?_
    refine .q hs (q_assign rfl) ?_
    refine .nil ?_
    refine .ret (Fin.ret1 Try.results110 rfl ?_)
    refine ⟨congrArg I ?_, hs.out⟩
    unfold askErr
    first
      | (rw [if_neg (by omega), if_neg (fun h => by have := hb.2 h; simp_all)]; done)
      | (rw [if_neg (by omega), if_pos (hb.1 (by simpa using hc15))]; omega)
      | (rw [if_pos (by assumption)]; done)
theorem ref02_Negative_spec {H : Heap} {w : World} {σ : List Ent} {v : Value} {ws : List Int} (hs : St H w σ) (hr : RI H v ws) (hl : ws.length ≤ 1000) (hz : SizedW ws) : Cl Try.prog 191 [v] w fun u w' => ∃ H1, HLe H H1 ∧ RI H1 u (negW ws) ∧ St H1 w' σ := by
  obtain ⟨a, c, rfl⟩ := RI.shape hr
  have hFF : FF = 3600000000000 := rfl
  unfold SizedW at hz
  refine Cl.of Try.func191 rfl Try.ntmps191 (by simp) (args_cons (k := 0) rfl (args0)) ?_
  refine .regSeq ?_
  refine .q hs (q_assign rfl) ?_
  refine .nil ?_
  refine .regSeq ?_
  refine .q hs (q_assign rfl) ?_
  refine .nil ?_
  refine .seq ?_
  refine .regSeq ?_
  refine .q hs (q_move rfl) ?_
  first | refine .q hs (q_len rfl Try.runUnderlying22) ?_ | refine .q hs (q_lenR (by assumption) rfl Try.runUnderlying22) ?_ | refine .q hs (q_lenI (by assumption) rfl Try.runUnderlying22) ?_
  refine .q hs (q_move rfl) ?_
  refine .nil ?_
  refine .for (N := ws.length) (J := fun k fr w => ∃ v3 en, OwnS 1 v3 (Is (negW (ws.take k))) en ∧ fr = [(3, v3), (6, .slice a ws.length c)] ∧ St H w (en :: σ)) (by omega) ?_ ?_ ?_
  · exact .mk ⟨_, _, .nil 1 none, rfl, hs.nul⟩
  · rintro k fr w hk ⟨v3, en, hO, rfl, hs⟩
    have hx := gi_get hk
    have hsz := sizes_at ws (v := k) (n := ws.length) hk
    refine .block ?_
    refine .regSeq ?_
    refine .ixY hs hr rfl rfl Try.runUnderlying22 Try.sizeOf3 hx rfl ?_; intro b10 o10 hc10
    refine .q hs (q_loadR rfl Try.isAgg3 hc10) ?_
    refine .q hs (q_assign rfl) ?_
    refine .nil ?_
    refine .region ?_
    refine .q hs (q_move rfl) ?_
    refine .q hs (q_move rfl) ?_
    first | refine .q hs (q_negF rfl (by omega)) ?_ | refine .q hs (q_neg rfl) ?_
    refine .o (.buildSlice (cells := [_]) hs bls_sl_int_1 rfl rfl ?_); intro b15 w hs
    refine .o (.append (ys := [I (-gi ws k)]) hs app_sl_int_int rfl rfl hO (.own .here rfl rfl) (by simp [Value.oneCell']) (fun l' h => by simp [negW] at h; omega) ?_); intro v16 en16 w hO2 hs
    refine .q hs (q_assign rfl) ?_
    refine .nil ?_
    refine nB (nT ?_)
    exact .mk ⟨v16, en16, by rw [take_snoc hx]; simpa [negW] using hO2, rfl, hs.sub (by repeat (first | exact Sub.refl _ | constructor | apply Sub.weaken))⟩
  · rintro fr w ⟨v3, en, hO, rfl, hs⟩
    rw [List.take_length] at hO
    refine nT ?_
    refine .regSeq ?_
    refine .q hs (q_move rfl) ?_
    refine .q hs (q_assign rfl) ?_
    refine .nil ?_
    refine .ret (Fin.ret1 Try.results191 rfl ?_)
    obtain ⟨H2, g1, g2, hs⟩ := hO.publishI (by simp [negW]; omega) hs .here
    exact ⟨H2, g1, g2, hs⟩
theorem ref02_most_spec {H : Heap} {w : World} {σ : List Ent} {vm vw : Value} {s : Syst} {Ms : List (List Int)} {ws : List Int} (hs : St H w σ) (hM : RT H vm Ms) (hqM : Sq s.n Ms) (hT : WaysT s.n s.arcs (gt Ms)) (hrw : RI H vw ws) (hA : askErr s ws = 0) :
    Cl Try.prog 144 [vm, vw] w fun u w' => ∃ H1 n e, HLe H H1 ∧ u = .tuple #[I n, I e] ∧ MostR s ws n e ∧ St H1 w' σ := by
  obtain ⟨hok, hwl, hz⟩ := askErr_ok hA
  have hinn := hok.inn
  have hn65 := hok.n65
  have hnp := s.n_pos
  obtain ⟨fs, hF⟩ := tab_exists s.n (gt Ms)
  have hsd := sound_diag hok hT
  have hz2 : sizesTo ws s.n ≤ FF := by unfold SizedW at hz; rwa [hwl] at hz
  refine Cl.of Try.func144 rfl Try.ntmps144 (by simp) (args_cons (k := 0) rfl (args_cons (k := 1) rfl (args0))) ?_
  refine .regSeq ?_
  refine .q hs (q_assign rfl) ?_
  refine .q hs (q_assign rfl) ?_
  refine .nil ?_
  refine .seq ?_
  refine .regSeq ?_
  refine .q hs (q_move rfl) ?_
  refine .o (.call Try.call167 rfl (ref02_Sound_spec hs hM hqM (by omega)) ?_); rintro _ w ⟨b, rfl, hb, hs⟩
  refine .q hs (q_not rfl) ?_
  refine .nil ?_
  refine (.cond rfl (fun hc10 => ?_) (fun hc10 => ?_))
  · refine .regSeq ?_
    refine .q hs (q_assign rfl) ?_
    refine .q hs (q_assign rfl) ?_
    refine .nil ?_
    refine .ret (rT (Fin.ret2 Try.results144 rfl rfl ?_))
    have hb0 : b = false := by simpa using hc10
    exact ⟨H, 0, 23, HLe.refl H, rfl, mostR_clash hA (fun h => by have := hb.2 (hsd.1 h); rw [hb0] at this; cases this), hs⟩
  · refine .skip ?_
    refine nT ?_
    refine .regSeq ?_
    refine .q hs (q_move rfl) ?_
    refine .q hs (q_move rfl) ?_
    have hso : s.Sound := hsd.2 (hb.1 (by simpa using hc10))
    refine .o (.call Try.call194 rfl (ref02_Least_spec (n := s.many.toNat) (es := fs) hs hM hqM hrw hwl hn65 hz2 hF (by obtain ⟨p, hp⟩ := hso; exact ⟨p, (hT.feas hinn hF).2 hp⟩)
      (fun x hx => by
        obtain ⟨b1, b2, b3, b4, b5⟩ := hF.ok x hx
        have h1 := hT.up x.f x.t b1 b2 (by rw [b4]; exact b5)
        have h2 := hT.low hnp hn65 hinn hso b1 b2 (by rw [b4]; exact b5)
        rw [b4] at h1 h2
        exact ⟨h2, h1⟩)
      (fun m hm => by
        have := (hok.bd hwl hz ((hT.opt hinn hF).1 hm)).2
        exact ⟨this.2, this.1⟩)) ?_); rintro _ w ⟨H1, n, ok, hle1, rfl, hcase, hs⟩
    refine .q hs (q_move rfl) ?_
    refine .q hs (q_extract rfl rfl) ?_
    refine .q hs (q_extract rfl rfl) ?_
    refine .q hs (q_assign rfl) ?_
    refine .q hs (q_assign rfl) ?_
    refine .nil ?_
    refine .seq ?_
    refine .regSeq ?_
    refine .q hs (q_move rfl) ?_
    refine .q hs (q_not rfl) ?_
    refine .nil ?_
    refine (.cond rfl (fun hc18 => ?_) (fun hc18 => ?_))
    · refine .regSeq ?_
      refine .q hs (q_assign rfl) ?_
      refine .q hs (q_assign rfl) ?_
      refine .nil ?_
      refine .ret (rT (Fin.ret2 Try.results144 rfl rfl ?_))
      have hk0 : ok = false := by simpa using hc18
      rcases hcase with ⟨h, _⟩ | ⟨_, h⟩
      · rw [hk0] at h; cases h
      · exact ⟨H1, 0, 22, hle1, rfl, mostR_open hA hso hT hF h, hs⟩
    · refine .skip ?_
      refine nT ?_
      refine .regSeq ?_
      refine .q hs (q_move rfl) ?_
      refine .q hs (q_assign rfl) ?_
      refine .q hs (q_assign rfl) ?_
      refine .nil ?_
      refine .ret (Fin.ret2 Try.results144 rfl rfl ?_)
      have hk0 : ok = true := by simpa using hc18
      rcases hcase with ⟨_, h⟩ | ⟨h, _⟩
      · exact ⟨H1, n, 0, hle1, rfl, mostR_opt hA hT hF h, hs⟩
      · rw [hk0] at h; cases h
theorem ref02_Most_spec {H : Heap} {w : World} {σ : List Ent} {v vw : Value} {s : Syst} {ws : List Int} (hs : St H w σ) (hr : RSy H v s) (hrw : RI H vw ws) :
    Cl Try.prog 59 [v, vw] w fun u w' => ∃ H1 n e, HLe H H1 ∧ u = .tuple #[I n, I e] ∧ MostR s ws n e ∧ St H1 w' σ := by
  obtain ⟨u, rfl, hr⟩ := hr
  obtain ⟨al, cl, rfl⟩ := RL.shape hr
  obtain ⟨aw, cw, rfl⟩ := RI.shape hrw
  refine Cl.of Try.func59 rfl Try.ntmps59 (by simp) (args_cons (k := 0) rfl (args_cons (k := 1) rfl (args0))) ?_
  refine .regSeq ?_
  refine .o (.box hs rfl rfl ?_); intro b2 w hs
  refine .q hs (q_assign rfl) ?_
  refine .q hs (q_assign rfl) ?_
  refine .nil ?_
  refine .regSeq ?_
  first | refine .q hs (q_loads (vs := [_, _]) rfl Try.isAgg32 Try.sizeOf32) ?_ | refine .q hs (q_loadsR (vs := [_, _]) rfl Try.isAgg32 Try.sizeOf32 (by assumption)) ?_
  refine .q hs (q_move rfl) ?_
  refine .o (.call Try.call110 rfl (ref02_asked_spec (s := s) hs ⟨_, rfl, hr⟩ hrw) ?_); rintro _ w ⟨rfl, hs⟩
  refine .q hs (q_assign rfl) ?_
  refine .nil ?_
  refine .seq ?_
  refine .regSeq ?_
  refine .q hs (q_move rfl) ?_
  refine .q hs (q_neq rfl rfl) ?_
  refine .nil ?_
  refine (.condN rfl (fun hc11 => ?_) (fun hc11 => ?_))
  · refine .regSeq ?_
    refine .q hs (q_move rfl) ?_
    refine .q hs (q_assign rfl) ?_
    refine .q hs (q_assign rfl) ?_
    refine .nil ?_
    refine .ret (rT (Fin.ret2 Try.results59 rfl rfl ?_))
    exact ⟨H, 0, _, HLe.refl H, rfl, ⟨.bad hc11, fun _ => rfl, fun h => (hc11 h).elim⟩, hs.out⟩
  · refine .skip ?_
    refine nT ?_
    refine .regSeq ?_
    first | refine .q hs (q_loads (vs := [_, _]) rfl Try.isAgg32 Try.sizeOf32) ?_ | refine .q hs (q_loadsR (vs := [_, _]) rfl Try.isAgg32 Try.sizeOf32 (by assumption)) ?_
    have hA : askErr s ws = 0 := by simpa using hc11
    refine .o (.call Try.call145 rfl (ref02_Ways_spec (s := s) hs ⟨_, rfl, hr⟩ (askErr_ok hA).1) ?_); rintro _ w ⟨H1, Ms, hle1, hM, hqM, hT, hs⟩
    refine .q hs (q_move rfl) ?_
    refine .o (.call Try.call144 rfl (ref02_most_spec (s := s) hs hM hqM hT (hrw.mono hle1) hA) ?_); rintro _ w ⟨H2, n, e, hle2, rfl, hR, hs⟩
    refine .q hs (q_extract rfl rfl) ?_
    refine .q hs (q_extract rfl rfl) ?_
    refine .q hs (q_assign rfl) ?_
    refine .q hs (q_assign rfl) ?_
    refine .nil ?_
    refine .ret (Fin.ret2 Try.results59 rfl rfl ?_)
    exact ⟨H2, n, e, hle1.trans hle2, rfl, hR, hs.out⟩
theorem ref02_ends_spec {H : Heap} {w : World} {σ : List Ent} {v vw : Value} {s : Syst} {ws : List Int} (hs : St H w σ) (hr : RSy H v s) (hrw : RI H vw ws) (hA : askErr s ws = 0) :
    Cl Try.prog 135 [v, vw] w fun u w' => ∃ H1 lo hi e, HLe H H1 ∧ u = .tuple #[I lo, I hi, I e] ∧ RangeR s ws lo hi e ∧ St H1 w' σ := by
  obtain ⟨u, rfl, hr⟩ := hr
  obtain ⟨al, cl, rfl⟩ := RL.shape hr
  obtain ⟨hok, hwl, hz⟩ := askErr_ok hA
  have hn65 := hok.n65
  have hBB : BB = 4608000000000000000 := rfl
  refine Cl.of Try.func135 rfl Try.ntmps135 (by simp) (args_cons (k := 0) rfl (args_cons (k := 1) rfl (args0))) ?_
  refine .regSeq ?_
  refine .o (.box hs rfl rfl ?_); intro b2 w hs
  refine .q hs (q_assign rfl) ?_
  refine .q hs (q_assign rfl) ?_
  refine .q hs (q_assign rfl) ?_
  refine .nil ?_
  refine .regSeq ?_
  first | refine .q hs (q_loads (vs := [_, _]) rfl Try.isAgg32 Try.sizeOf32) ?_ | refine .q hs (q_loadsR (vs := [_, _]) rfl Try.isAgg32 Try.sizeOf32 (by assumption)) ?_
  refine .o (.call Try.call145 rfl (ref02_Ways_spec (s := s) hs ⟨_, rfl, hr⟩ hok) ?_); rintro _ w ⟨H1, Ms, hle1, hM, hqM, hT, hs⟩
  refine .q hs (q_assign rfl) ?_
  refine .nil ?_
  refine .regSeq ?_
  refine .q hs (q_move rfl) ?_
  refine .q hs (q_move rfl) ?_
  refine .o (.call Try.call144 rfl (ref02_most_spec (s := s) hs hM hqM hT (hrw.mono hle1) hA) ?_); rintro _ w ⟨H2, n, e, hle2, rfl, hR, hs⟩
  refine .q hs (q_move rfl) ?_
  refine .q hs (q_extract rfl rfl) ?_
  refine .q hs (q_extract rfl rfl) ?_
  refine .q hs (q_assign rfl) ?_
  refine .q hs (q_assign rfl) ?_
  refine .nil ?_
  refine .seq ?_
  refine .regSeq ?_
  refine .q hs (q_move rfl) ?_
  refine .q hs (q_neq rfl rfl) ?_
  refine .nil ?_
  refine (.condN rfl (fun hc20 => ?_) (fun hc20 => ?_))
  · refine .regSeq ?_
    refine .q hs (q_move rfl) ?_
    refine .q hs (q_assign rfl) ?_
    refine .q hs (q_assign rfl) ?_
    refine .q hs (q_assign rfl) ?_
    refine .nil ?_
    refine .ret (rT (Fin.ret3 Try.results135 rfl rfl rfl ?_))
    exact ⟨H2, 0, 0, e, hle1.trans hle2, rfl, .first hR hc20, hs.out⟩
  · refine .skip ?_
    refine nT ?_
    refine .regSeq ?_
    refine .q hs (q_move rfl) ?_
    refine .q hs (q_move rfl) ?_
    obtain rfl : e = 0 := by simpa using hc20
    refine .o (.call Try.call191 rfl (ref02_Negative_spec hs ((hrw.mono hle1).mono hle2) (by omega) hz) ?_); rintro _ w ⟨H3, hle3, hN, hs⟩
    refine .o (.call Try.call144 rfl (ref02_most_spec (s := s) (ws := negW ws) hs ((hM.mono hle2).mono hle3) hqM hT hN (by rw [askErr_neg]; exact hA)) ?_); rintro _ w ⟨H4, n2, e2, hle4, rfl, hR2, hs⟩
    refine .q hs (q_move rfl) ?_
    refine .q hs (q_extract rfl rfl) ?_
    refine .q hs (q_extract rfl rfl) ?_
    refine .q hs (q_assign rfl) ?_
    refine .q hs (q_assign rfl) ?_
    refine .nil ?_
    refine .seq ?_
    refine .regSeq ?_
    refine .q hs (q_move rfl) ?_
    refine .q hs (q_neq rfl rfl) ?_
    refine .nil ?_
    refine (.condN rfl (fun hc30 => ?_) (fun hc30 => ?_))
    · refine .regSeq ?_
      refine .q hs (q_move rfl) ?_
      refine .q hs (q_assign rfl) ?_
      refine .q hs (q_assign rfl) ?_
      refine .q hs (q_assign rfl) ?_
      refine .nil ?_
      refine .ret (rT (Fin.ret3 Try.results135 rfl rfl rfl ?_))
      exact ⟨H4, 0, 0, e2, hle1.trans (hle2.trans (hle3.trans hle4)), rfl, .second hR hR2 hc30, hs.out⟩
    · refine .skip ?_
      refine nT ?_
      refine .regSeq ?_
      refine .q hs (q_move rfl) ?_
      obtain rfl : e2 = 0 := by simpa using hc30
      have hbd := (hR2.2.2 rfl).2
      first | refine .q hs (q_negF rfl (by omega)) ?_ | refine .q hs (q_neg rfl) ?_
      refine .q hs (q_move rfl) ?_
      refine .q hs (q_assign rfl) ?_
      refine .q hs (q_assign rfl) ?_
      refine .q hs (q_assign rfl) ?_
      refine .nil ?_
      refine .ret (Fin.ret3 Try.results135 rfl rfl rfl ?_)
      exact ⟨H4, -n2, n, 0, hle1.trans (hle2.trans (hle3.trans hle4)), rfl, .ok hR hR2, hs.out⟩
theorem ref02_Range_spec {H : Heap} {w : World} {σ : List Ent} {v vw : Value} {s : Syst} {ws : List Int} (hs : St H w σ) (hr : RSy H v s) (hrw : RI H vw ws) :
    Cl Try.prog 50 [v, vw] w fun u w' => ∃ H1 lo hi e, HLe H H1 ∧ u = .tuple #[I lo, I hi, I e] ∧ RangeR s ws lo hi e ∧ St H1 w' σ := by
  obtain ⟨u, rfl, hr⟩ := hr
  obtain ⟨al, cl, rfl⟩ := RL.shape hr
  obtain ⟨aw, cw, rfl⟩ := RI.shape hrw
  refine Cl.of Try.func50 rfl Try.ntmps50 (by simp) (args_cons (k := 0) rfl (args_cons (k := 1) rfl (args0))) ?_
  refine .regSeq ?_
  refine .o (.box hs rfl rfl ?_); intro b2 w hs
  refine .q hs (q_assign rfl) ?_
  refine .q hs (q_assign rfl) ?_
  refine .q hs (q_assign rfl) ?_
  refine .nil ?_
  refine .regSeq ?_
  first | refine .q hs (q_loads (vs := [_, _]) rfl Try.isAgg32 Try.sizeOf32) ?_ | refine .q hs (q_loadsR (vs := [_, _]) rfl Try.isAgg32 Try.sizeOf32 (by assumption)) ?_
  refine .q hs (q_move rfl) ?_
  refine .o (.call Try.call110 rfl (ref02_asked_spec (s := s) hs ⟨_, rfl, hr⟩ hrw) ?_); rintro _ w ⟨rfl, hs⟩
  refine .q hs (q_assign rfl) ?_
  refine .nil ?_
  refine .seq ?_
  refine .regSeq ?_
  refine .q hs (q_move rfl) ?_
  refine .q hs (q_neq rfl rfl) ?_
  refine .nil ?_
  refine (.condN rfl (fun hc12 => ?_) (fun hc12 => ?_))
  · refine .regSeq ?_
    refine .q hs (q_move rfl) ?_
    refine .q hs (q_assign rfl) ?_
    refine .q hs (q_assign rfl) ?_
    refine .q hs (q_assign rfl) ?_
    refine .nil ?_
    refine .ret (rT (Fin.ret3 Try.results50 rfl rfl rfl ?_))
    exact ⟨H, 0, 0, _, HLe.refl H, rfl, .first ⟨.bad hc12, fun _ => rfl, fun h => (hc12 h).elim⟩ hc12, hs.out⟩
  · refine .skip ?_
    refine nT ?_
    refine .regSeq ?_
    first | refine .q hs (q_loads (vs := [_, _]) rfl Try.isAgg32 Try.sizeOf32) ?_ | refine .q hs (q_loadsR (vs := [_, _]) rfl Try.isAgg32 Try.sizeOf32 (by assumption)) ?_
    refine .q hs (q_move rfl) ?_
    have hA : askErr s ws = 0 := by simpa using hc12
    refine .o (.call Try.call135 rfl (ref02_ends_spec (s := s) hs ⟨_, rfl, hr⟩ hrw hA) ?_); rintro _ w ⟨H1, lo, hi, e, hle1, rfl, hR, hs⟩
    refine .q hs (q_extract rfl rfl) ?_
    refine .q hs (q_extract rfl rfl) ?_
    refine .q hs (q_extract rfl rfl) ?_
    refine .q hs (q_assign rfl) ?_
    refine .q hs (q_assign rfl) ?_
    refine .q hs (q_assign rfl) ?_
    refine .nil ?_
    refine .ret (Fin.ret3 Try.results50 rfl rfl rfl ?_)
    exact ⟨H1, lo, hi, e, hle1, rfl, hR, hs.out⟩
end Go.Proofs.Ytiiokdeehlfeeaa

/-
  Walks: the reference's checks of questions and probes, its widths and sides; the program's settled questions and sides.
-/
namespace Go.Proofs.Ytiiokdeehlfeeaa
open Go.MW
def SettledR (a : Quest) (b : Bool) (e : Int) : Prop := (CAskR a e ∧ e ≠ 0 ∧ b = false) ∨ (AskOk a ∧ e = 0 ∧ ∃ lo hi, RangeR a.sys a.ws lo hi 0 ∧ b = decide (hi - lo ≤ a.width))
def SideR (a : Quest) (z x e : Int) : Prop := (CAskR a e ∧ e ≠ 0 ∧ x = 0) ∨ (AskOk a ∧ e = 0 ∧ ∃ lo hi, RangeR a.sys a.ws lo hi 0 ∧ x = if z ≤ lo then 1 else if hi < z then 0 else 2)
theorem WidthR.uniq {a : Quest} {n m e f : Int} (h : WidthR a n e) (g : WidthR a m f) : n = m ∧ e = f := by
  rcases h with ⟨h1, h2, h3⟩ | ⟨h1, h2, lo, hi, h3, h4⟩ <;> rcases g with ⟨g1, g2, g3⟩ | ⟨g1, g2, lo', hi', g3, g4⟩
  · exact ⟨by rw [h3, g3], h1.uniq g1⟩
  · exact (h2 (h1.uniq (CAskR.zero.2 g1))).elim
  · exact (g2 (g1.uniq (CAskR.zero.2 h1))).elim
  · obtain ⟨rfl, rfl, -⟩ := h3.uniq g3; exact ⟨by rw [h4, g4], by rw [h2, g2]⟩
theorem SettledR.uniq {a : Quest} {n m : Bool} {e f : Int} (h : SettledR a n e) (g : SettledR a m f) : n = m ∧ e = f := by
  rcases h with ⟨h1, h2, h3⟩ | ⟨h1, h2, lo, hi, h3, h4⟩ <;> rcases g with ⟨g1, g2, g3⟩ | ⟨g1, g2, lo', hi', g3, g4⟩
  · exact ⟨by rw [h3, g3], h1.uniq g1⟩
  · exact (h2 (h1.uniq (CAskR.zero.2 g1))).elim
  · exact (g2 (g1.uniq (CAskR.zero.2 h1))).elim
  · obtain ⟨rfl, rfl, -⟩ := h3.uniq g3; exact ⟨by rw [h4, g4], by rw [h2, g2]⟩
theorem SideR.uniq {a : Quest} {z n m e f : Int} (h : SideR a z n e) (g : SideR a z m f) : n = m ∧ e = f := by
  rcases h with ⟨h1, h2, h3⟩ | ⟨h1, h2, lo, hi, h3, h4⟩ <;> rcases g with ⟨g1, g2, g3⟩ | ⟨g1, g2, lo', hi', g3, g4⟩
  · exact ⟨by rw [h3, g3], h1.uniq g1⟩
  · exact (h2 (h1.uniq (CAskR.zero.2 g1))).elim
  · exact (g2 (g1.uniq (CAskR.zero.2 h1))).elim
  · obtain ⟨rfl, rfl, -⟩ := h3.uniq g3; exact ⟨by rw [h4, g4], by rw [h2, g2]⟩
theorem ask_range {a : Quest} {lo hi e : Int} (hok : AskOk a) (h : RangeR a.sys a.ws lo hi e) : e = 0 ∧ RangeR a.sys a.ws lo hi 0 := by
  obtain ⟨lo', hi', h4⟩ := hok.range
  obtain ⟨rfl, rfl, rfl⟩ := h.uniq h4
  exact ⟨rfl, h4⟩
/-! ### the program -/
theorem probe_told_bool {R : Bool → Int → Prop} {H : Heap} {w : World} {σ : List Ent} {v vl : Value} {a : Quest} {l : List Prb} {g : Nat} {cap : List Value} (hs : St H w σ) (hr : RAsk H v a) (hp : RPs H vl l) (hc : ∀ args w, (callFunc g args).run Try.prog w = .ok (.enter g args) w)
    (hg : ∀ H' w σ', HLe H H' → CPrbR a l 0 → St H' w σ' → Cl Try.prog g ([v] ++ cap) w fun u w' => ∃ H'' x e, HLe H' H'' ∧ u = .tuple #[.bool x, I e] ∧ R x e ∧ St H'' w' σ') :
    Cl Try.prog 112 [v, vl, .func (.func g) #[] cap.toArray] w fun u w' => ∃ H1 x e, HLe H H1 ∧ u = .tuple #[.bool x, I e] ∧ ((CPrbR a l e ∧ e ≠ 0 ∧ x = false) ∨ (CPrbR a l 0 ∧ R x e)) ∧ St H1 w' σ := by
  obtain ⟨ul, uw, rfl, hl, hw⟩ := hr
  refine Cl.of Try.func112 rfl Try.ntmps112 (by simp) (args_cons (k := 0) rfl (args_cons (k := 1) rfl (args_cons (k := 2) rfl (args0)))) ?_
  refine .regSeq ?_
  refine .o (.box hs rfl rfl ?_); intro b3 w hs
  refine .q hs (q_assign rfl) ?_
  refine .q hs (q_assign rfl) ?_
  refine .nil ?_
  refine .seq ?_
  refine .regSeq ?_
  first | refine .q hs (q_loads (vs := [_, _, _, _]) rfl Try.isAgg34 Try.sizeOf34) ?_ | refine .q hs (q_loadsR (vs := [_, _, _, _]) rfl Try.isAgg34 Try.sizeOf34 (by assumption)) ?_
  refine .q hs (q_move rfl) ?_
  refine .o (.call Try.call40 rfl (probe_CheckProbes_spec (a := a) hs ⟨_, _, rfl, hl, hw⟩ hp) ?_); rintro _ w ⟨H1, e, hle1, rfl, hC, hs⟩
  refine .q hs (q_assign rfl) ?_
  refine .nil ?_
  refine .regSeq ?_
  refine .q hs (q_move rfl) ?_
  refine .q hs (q_neq rfl rfl) ?_
  refine .nil ?_
  refine (.condN rfl (fun hc14 => ?_) (fun hc14 => ?_))
  · refine .regSeq ?_
    refine .q hs (q_assign rfl) ?_
    refine .nil ?_
    refine .regSeq ?_
    refine .q hs (q_move rfl) ?_
    refine .q hs (q_move rfl) ?_
    refine .q hs (q_assign rfl) ?_
    refine .q hs (q_assign rfl) ?_
    refine .nil ?_
    refine .ret (rT (Fin.ret2 Try.results112 rfl rfl ?_))
    exact ⟨H1, false, e, hle1, rfl, .inl ⟨hC, hc14, rfl⟩, hs.tail⟩
  · refine .skip ?_
    refine nT ?_
    refine .regSeq ?_
    refine .q hs (q_move rfl) ?_
    first | refine .q hs (q_loads (vs := [_, _, _, _]) rfl Try.isAgg34 Try.sizeOf34) ?_ | refine .q hs (q_loadsR (vs := [_, _, _, _]) rfl Try.isAgg34 Try.sizeOf34 (by assumption)) ?_
    rw [hc14] at hC
    refine .o (.callG (first := []) rfl rfl hc (hg _ _ _ hle1 hC hs) ?_); rintro _ w ⟨H2, x, e2, hle2, rfl, hR, hs⟩
    refine .q hs (q_extract rfl rfl) ?_
    refine .q hs (q_extract rfl rfl) ?_
    refine .q hs (q_assign rfl) ?_
    refine .q hs (q_assign rfl) ?_
    refine .nil ?_
    refine .ret (Fin.ret2 Try.results112 rfl rfl ?_)
    exact ⟨H2, x, e2, hle1.trans hle2, rfl, .inr ⟨hC, hR⟩, hs.tail⟩
theorem probe_Settled_1 {H : Heap} {w : World} {σ : List Ent} {v : Value} {a : Quest} (hs : St H w σ) (hr : RAsk H v a) : Cl Try.prog 113 [v] w fun u w' => ∃ H'' x e, HLe H H'' ∧ u = .tuple #[.bool x, I e] ∧ (∃ lo hi, RangeR a.sys a.ws lo hi e ∧ x = decide (hi - lo ≤ a.width)) ∧ St H'' w' σ := by
  obtain ⟨ul, uw, rfl, hl, hw⟩ := hr
  refine Cl.of Try.func113 rfl Try.ntmps113 (by simp) (args_cons (k := 0) rfl (args0)) ?_
  refine .regSeq ?_
  refine .o (.box hs rfl rfl ?_); intro b1 w hs
  refine .q hs (q_assign rfl) ?_
  refine .q hs (q_assign rfl) ?_
  refine .nil ?_
  refine .regSeq ?_
  first | refine .q hs (q_loads (vs := [_, _, _, _]) rfl Try.isAgg34 Try.sizeOf34) ?_ | refine .q hs (q_loadsR (vs := [_, _, _, _]) rfl Try.isAgg34 Try.sizeOf34 (by assumption)) ?_
  refine .o (.call Try.call100 rfl (probe_width_spec (a := a) hs ⟨_, _, rfl, hl, hw⟩) ?_); rintro _ w ⟨H1, n, e, hle1, rfl, ⟨lo, hi, hR, rfl⟩, hs⟩
  refine .q hs (q_move rfl) ?_
  refine .q hs (q_extract rfl rfl) ?_
  refine .q hs (q_extract rfl rfl) ?_
  refine .q hs (q_assign rfl) ?_
  refine .q hs (q_assign rfl) ?_
  refine .nil ?_
  refine .regSeq ?_
  refine .q hs (q_move rfl) ?_
  first | refine .q hs (q_fa0 rfl fa_api_Ask_2) ?_ | refine .q hs (q_fa rfl fa_api_Ask_2) ?_
  first | refine .q hs (q_load rfl Try.isAgg3) ?_ | refine .q hs (q_loadR rfl Try.isAgg3 (by assumption)) ?_
  refine .q hs (q_leq rfl rfl) ?_
  refine .q hs (q_move rfl) ?_
  refine .q hs (q_assign rfl) ?_
  refine .q hs (q_assign rfl) ?_
  refine .nil ?_
  refine .ret (Fin.ret2 Try.results113 rfl rfl ?_)
  exact ⟨H1, _, e, hle1, rfl, ⟨lo, hi, hR, rfl⟩, hs.tail⟩
theorem probe_Settled_spec {H : Heap} {w : World} {σ : List Ent} {v : Value} {a : Quest} (hs : St H w σ) (hr : RAsk H v a) : Cl Try.prog 34 [v] w fun u w' => ∃ H1 b e, HLe H H1 ∧ u = .tuple #[.bool b, I e] ∧ SettledR a b e ∧ St H1 w' σ := by
  obtain ⟨ul, uw, rfl, hl, hw⟩ := hr
  refine Cl.of Try.func34 rfl Try.ntmps34 (by simp) (args_cons (k := 0) rfl (args0)) ?_
  refine .regSeq ?_
  refine .o (.box hs rfl rfl ?_); intro b1 w hs
  refine .q hs (q_assign rfl) ?_
  refine .q hs (q_assign rfl) ?_
  refine .nil ?_
  refine .regSeq ?_
  first | refine .q hs (q_loads (vs := [_, _, _, _]) rfl Try.isAgg34 Try.sizeOf34) ?_ | refine .q hs (q_loadsR (vs := [_, _, _, _]) rfl Try.isAgg34 Try.sizeOf34 (by assumption)) ?_
  refine .o (.call Try.call112 rfl (probe_told_bool (a := a) (l := []) (cap := []) hs ⟨_, _, rfl, hl, hw⟩ (RS.nil _ 2 none 0) Try.call113 (fun H' w σ' hle _ hs => probe_Settled_1 (a := a) hs ⟨_, _, rfl, hl.mono hle, hw.mono hle⟩)) ?_); rintro _ w ⟨H1, x, e, hle1, rfl, hcase, hs⟩
  refine .q hs (q_extract rfl rfl) ?_
  refine .q hs (q_extract rfl rfl) ?_
  refine .q hs (q_assign rfl) ?_
  refine .q hs (q_assign rfl) ?_
  refine .nil ?_
  refine .ret (Fin.ret2 Try.results34 rfl rfl ?_)
  refine ⟨H1, x, e, hle1, rfl, ?_, hs.tail⟩
  rcases hcase with ⟨h1, h2, h3⟩ | ⟨h1, lo, hi, h2, h3⟩
  · exact .inl ⟨h1.nil, h2, h3⟩
  · have hok := CAskR.zero.1 h1.nil
    obtain ⟨rfl, h4⟩ := ask_range hok h2
    exact .inr ⟨hok, rfl, lo, hi, h4, h3⟩
theorem probe_Side_1 {H : Heap} {w : World} {σ : List Ent} {v : Value} {a : Quest} {b : Nat} {z : Int} (hs : St H w σ) (hr : RAsk H v a) (hb : Row H b [I z]) : Cl Try.prog 114 [v, .pointer (some ⟨b, 0, none⟩)] w fun u w' => ∃ H'' x e, HLe H H'' ∧ u = .tuple #[I x, I e] ∧ (∃ lo hi, RangeR a.sys a.ws lo hi e ∧ (e = 0 → x = if z ≤ lo then 1 else if hi < z then 0 else 2)) ∧ St H'' w' σ := by
  obtain ⟨ul, uw, rfl, hl, hw⟩ := hr
  refine Cl.of Try.func114 rfl Try.ntmps114 (by simp) (args_cons (k := 0) rfl (args_cons (k := 1) rfl (args0))) ?_
  refine .regSeq ?_
  refine .o (.box hs rfl rfl ?_); intro b2 w hs
  refine .q hs (q_assign rfl) ?_
  refine .q hs (q_assign rfl) ?_
  refine .nil ?_
  refine .regSeq ?_
  first | refine .q hs (q_fa0 rfl fa_api_Ask_0) ?_ | refine .q hs (q_fa rfl fa_api_Ask_0) ?_
  first | refine .q hs (q_loads (vs := [_, _]) rfl Try.isAgg32 Try.sizeOf32) ?_ | refine .q hs (q_loadsR (vs := [_, _]) rfl Try.isAgg32 Try.sizeOf32 (by assumption)) ?_
  first | refine .q hs (q_fa0 rfl fa_api_Ask_1) ?_ | refine .q hs (q_fa rfl fa_api_Ask_1) ?_
  first | refine .q hs (q_load rfl Try.isAgg22) ?_ | refine .q hs (q_loadR rfl Try.isAgg22 (by assumption)) ?_
  refine .o (.call Try.call60 rfl (bound_Range_spec (s := a.sys) hs ⟨_, rfl, hl⟩ hw) ?_); rintro _ w ⟨H1, lo, hi, e, hle1, rfl, hR, hs⟩
  have hb1 := (hb.mono hle1).at 0
  refine .q hs (q_move rfl) ?_
  refine .q hs (q_extract rfl rfl) ?_
  refine .q hs (q_extract rfl rfl) ?_
  refine .q hs (q_extract rfl rfl) ?_
  refine .q hs (q_assign rfl) ?_
  refine .q hs (q_assign rfl) ?_
  refine .q hs (q_assign rfl) ?_
  refine .nil ?_
  refine .seq ?_
  refine .block ?_
  refine .regSeq ?_
  refine .q hs (q_move rfl) ?_
  refine .q hs (q_neq rfl rfl) ?_
  refine .q hs (q_assign rfl) ?_
  refine .nil ?_
  refine (.condN rfl (fun hc17 => ?_) (fun hc17 => ?_))
  · refine .regSeq ?_
    refine .q hs (q_move rfl) ?_
    refine .q hs (q_assign rfl) ?_
    refine .q hs (q_assign rfl) ?_
    refine .nil ?_
    refine .ret (rB (rT (Fin.ret2 Try.results114 rfl rfl ?_)))
    exact ⟨H1, 0, e, hle1, rfl, ⟨lo, hi, hR, fun h => (hc17 h).elim⟩, hs.tail⟩
  · refine .regSeq ?_
    refine .q hs (q_move rfl) ?_
    refine .q hs (q_loadR rfl Try.isAgg3 hb1) ?_
    refine .q hs (q_geq rfl rfl) ?_
    refine .q hs (q_assign rfl) ?_
    refine .nil ?_
    refine (.condD rfl (fun hc21 => ?_) (fun hc21 => ?_))
    · refine .regSeq ?_
      refine .q hs (q_assign rfl) ?_
      refine .q hs (q_assign rfl) ?_
      refine .nil ?_
      refine .ret (rB (rT (Fin.ret2 Try.results114 rfl rfl ?_)))
      exact ⟨H1, 1, 0, hle1, rfl, ⟨lo, hi, by rw [hc17] at hR; exact hR, fun _ => by rw [if_pos hc21]⟩, hs.tail⟩
    · refine .regSeq ?_
      refine .q hs (q_move rfl) ?_
      refine .q hs (q_loadR rfl Try.isAgg3 hb1) ?_
      refine .q hs (q_lss rfl rfl) ?_
      refine .q hs (q_assign rfl) ?_
      refine .nil ?_
      refine (.condD rfl (fun hc25 => ?_) (fun hc25 => ?_))
      · refine .regSeq ?_
        refine .q hs (q_assign rfl) ?_
        refine .q hs (q_assign rfl) ?_
        refine .nil ?_
        refine .ret (rB (rT (Fin.ret2 Try.results114 rfl rfl ?_)))
        exact ⟨H1, 0, 0, hle1, rfl, ⟨lo, hi, by rw [hc17] at hR; exact hR, fun _ => by rw [if_neg hc21, if_pos hc25]⟩, hs.tail⟩
      · refine .skip ?_
        refine nB (nT ?_)
        refine .regSeq ?_
        refine .q hs (q_assign rfl) ?_
        refine .q hs (q_assign rfl) ?_
        refine .nil ?_
        refine .ret (Fin.ret2 Try.results114 rfl rfl ?_)
        exact ⟨H1, 2, 0, hle1, rfl, ⟨lo, hi, by rw [hc17] at hR; exact hR, fun _ => by rw [if_neg hc21, if_neg hc25]⟩, hs.tail⟩
theorem probe_Side_spec {H : Heap} {w : World} {σ : List Ent} {v : Value} {a : Quest} {z : Int} (hs : St H w σ) (hr : RAsk H v a) : Cl Try.prog 36 [v, I z] w fun u w' => ∃ H1 x e, HLe H H1 ∧ u = .tuple #[I x, I e] ∧ SideR a z x e ∧ St H1 w' σ := by
  obtain ⟨ul, uw, rfl, hl, hw⟩ := hr
  refine Cl.of Try.func36 rfl Try.ntmps36 (by simp) (args_cons (k := 0) rfl (args_cons (k := 1) rfl (args0))) ?_
  refine .regSeq ?_
  refine .o (.box hs rfl rfl ?_); intro b2 w hs
  refine .o (.box hs rfl rfl ?_); intro b3 w hs
  refine .q hs (q_assign rfl) ?_
  refine .q hs (q_assign rfl) ?_
  refine .nil ?_
  refine .regSeq ?_
  first | refine .q hs (q_loads (vs := [_, _, _, _]) rfl Try.isAgg34 Try.sizeOf34) ?_ | refine .q hs (q_loadsR (vs := [_, _, _, _]) rfl Try.isAgg34 Try.sizeOf34 (by assumption)) ?_
  refine .q hs (q_makeFunc (f := []) (c := [_]) rfl rfl) ?_
  obtain ⟨H0, hle0, hb3, hs⟩ := hs.publish (b := b3) (by repeat constructor)
  refine .o (.call Try.call99 rfl (probe_told_int (R := fun x e => ∃ lo hi, RangeR a.sys a.ws lo hi e ∧ (e = 0 → x = if z ≤ lo then 1 else if hi < z then 0 else 2)) (a := a) (l := []) (cap := [.pointer (some ⟨b3, 0, none⟩)]) hs ⟨_, _, rfl, hl.mono hle0, hw.mono hle0⟩ (RS.nil _ 2 none 0) Try.call114 (fun H' w σ' hle _ hs => probe_Side_1 (a := a) hs ⟨_, _, rfl, (hl.mono hle0).mono hle, (hw.mono hle0).mono hle⟩ (hb3.mono hle))) ?_); rintro _ w ⟨H1, x, e, hle1, rfl, hcase, hs⟩
  refine .q hs (q_extract rfl rfl) ?_
  refine .q hs (q_extract rfl rfl) ?_
  refine .q hs (q_assign rfl) ?_
  refine .q hs (q_assign rfl) ?_
  refine .nil ?_
  refine .ret (Fin.ret2 Try.results36 rfl rfl ?_)
  refine ⟨H1, x, e, hle0.trans hle1, rfl, ?_, hs.tail⟩
  rcases hcase with ⟨h1, h2, h3⟩ | ⟨h1, lo, hi, h2, h3⟩
  · exact .inl ⟨h1.nil, h2, h3⟩
  · have hok := CAskR.zero.1 h1.nil
    obtain ⟨rfl, h4⟩ := ask_range hok h2
    exact .inr ⟨hok, rfl, lo, hi, h4, h3 rfl⟩
/-! ### the reference -/
theorem ref09_in_spec {H : Heap} {w : World} {σ : List Ent} {a0 a1 a2 : Int} (hs : St H w σ) : Cl Try.prog 119 [I a0, I a1, I a2] w fun v w' => v = .bool (decide (a1 ≤ a0 ∧ a0 ≤ a2)) ∧ St H w' σ := by
  refine Cl.of Try.func119 rfl Try.ntmps119 (by simp) (args_cons (k := 0) rfl (args_cons (k := 1) rfl (args_cons (k := 2) rfl (args0)))) ?_
  refine .regSeq ?_
  refine .q hs (q_assign rfl) ?_
  refine .nil ?_
  refine .regSeq ?_
  refine .q hs (q_move rfl) ?_
  refine .q hs (q_move rfl) ?_
  refine .q hs (q_leq rfl rfl) ?_
  refine .q hs (q_move rfl) ?_
  refine .bifD (t' := 10) rfl (fun hb10 => ?_) (fun hb10 => ?_)
  · refine .gT rfl rfl ?_
    refine .q hs (q_move rfl) ?_
    refine .gT rfl rfl ?_
    refine .q hs (q_move rfl) ?_
    refine .gT rfl rfl ?_
    refine .q hs (q_leq rfl rfl) ?_
    refine .q hs (q_pickT rfl rfl) ?_
    refine .q hs (q_assign rfl) ?_
    refine .nil ?_
    refine .ret (Fin.ret1 Try.results119 rfl ?_)
    exact ⟨by simp [*], hs.out⟩
  · refine .gFs 3 3 true rfl rfl rfl ?_
    refine .q hs (q_pickF rfl rfl) ?_
    refine .q hs (q_assign rfl) ?_
    refine .nil ?_
    refine .ret (Fin.ret1 Try.results119 rfl ?_)
    exact ⟨by simp [*], hs.out⟩
theorem ref09_sized_spec {H : Heap} {w : World} {σ : List Ent} {v : Value} {ws : List Int} (hs : St H w σ) (hr : RI H v ws) (hz : SizedW ws) : Cl Try.prog 118 [v] w fun v w' => v = .bool (decide (sizesTo ws ws.length ≤ 1800000000000)) ∧ St H w' σ := by
  obtain ⟨a, c, rfl⟩ := RI.shape hr
  have hl := (RI.len hr).2.2
  unfold SizedW at hz
  refine Cl.of Try.func118 rfl Try.ntmps118 (by simp) (args_cons (k := 0) rfl (args0)) ?_
  refine .regSeq ?_
  refine .q hs (q_assign rfl) ?_
  refine .nil ?_
  refine .regSeq ?_
  refine .q hs (q_assign rfl) ?_
  refine .nil ?_
  refine .seq ?_
  refine .regSeq ?_
  refine .q hs (q_assign rfl) ?_
  refine .nil ?_
  refine .block ?_
  refine .loop (fun k : Nat => ⟨25, [], [(4, I (k : Int)), (3, I (sizesTo ws k)), (0, .slice a ws.length c)]⟩) (fun k w => k ≤ ws.length ∧ St H w σ) (fun k => ws.length - k) 0 (by repeat (first | exact .nil rfl rfl | refine .cons rfl ?_)) ⟨by omega, hs⟩ ?_
  rintro k w ⟨hk, hs⟩
  refine .seq ?_
  refine .regSeq ?_
  refine .q hs (q_move rfl) ?_
  refine .q hs (q_move rfl) ?_
  first | refine .q hs (q_len rfl Try.runUnderlying22) ?_ | refine .q hs (q_lenR (by assumption) rfl Try.runUnderlying22) ?_ | refine .q hs (q_lenI (by assumption) rfl Try.runUnderlying22) ?_
  refine .q hs (q_lss rfl rfl) ?_
  refine .nil ?_
  refine (.condD rfl (fun hc8 => ?_) (fun hc8 => ?_))
  · refine .skip ?_
    refine nT ?_
    refine .seq ?_
    refine .block ?_
    refine .draw mix rfl hs ?_; intro w hs
    have hk' : k < ws.length := by omega
    have hx := gi_get hk'
    have h0 : 0 ≤ sizesTo ws k := sumTo_nonneg fun v _ => by omega
    have h1 : sizesTo ws (k + 1) = sizesTo ws k + max (gi ws k) (-gi ws k) := rfl
    have h2 : sizesTo ws (k + 1) ≤ sizesTo ws ws.length := sumTo_mono (f := fun v => max (gi ws v) (-gi ws v)) (fun v => by omega) (by omega)
    have hFF : FF = 3600000000000 := rfl
    refine .p (i := 0) rfl (by kernel_rfl) .none (q_move rfl) ?_
    refine .p (i := 1) rfl (by kernel_rfl) .none (q_move rfl) ?_
    refine .p (i := 2) rfl (by kernel_rfl) .none (q_move rfl) ?_
    refine .ixX (enc := fun x => [I x]) (i := 3) hs rfl (by kernel_rfl) .none hr rfl rfl Try.runUnderlying22 Try.sizeOf3 hx rfl ?_; intro b14 o14 hc14; replace hc14 := CellsAt.one hc14
    refine .r (i := 4) hs rfl (by kernel_rfl) .none (q_loadR rfl Try.isAgg3 hc14) ?_
    refine .p (i := 5) rfl (by kernel_rfl) .none (q_move rfl) ?_
    refine .p (i := 6) rfl (by kernel_rfl) .none (q_move rfl) ?_
    refine .ixX (enc := fun x => [I x]) (i := 7) hs rfl (by kernel_rfl) .none hr rfl rfl Try.runUnderlying22 Try.sizeOf3 hx rfl ?_; intro b18 o18 hc18; replace hc18 := CellsAt.one hc18
    refine .r (i := 8) hs rfl (by kernel_rfl) .none (q_loadR rfl Try.isAgg3 hc18) ?_
    first | refine .p (i := 9) rfl (by kernel_rfl) .none (q_negF rfl (by omega)) ?_ | refine .p (i := 9) rfl (by kernel_rfl) .none (q_neg rfl) ?_
    first | refine .p (i := 10) rfl (by kernel_rfl) .none (q_maxI rfl rfl) ?_ | refine .p (i := 10) rfl (by kernel_rfl) .none (q_max rfl rfl) ?_
    first | refine .p (i := 11) rfl (by kernel_rfl) .none (q_addF rfl rfl (by omega)) ?_ | refine .p (i := 11) rfl (by kernel_rfl) .none (q_addU rfl rfl ⟨by omega, by omega⟩) ?_ | refine .p (i := 11) rfl (by kernel_rfl) .none (q_add rfl rfl) ?_
    refine .p (i := 12) rfl (by kernel_rfl) .none (q_assign rfl) ?_
    refine .done (by kernel_rfl) hs ?_
    refine nB (nT ?_)
    refine .region ?_
    refine .q hs (q_move rfl) ?_
    first | refine .q hs (q_addF rfl rfl (by omega)) ?_ | refine .q hs (q_addU rfl rfl ⟨by omega, by omega⟩) ?_ | refine .q hs (q_add rfl rfl) ?_
    refine .q hs (q_assign rfl) ?_
    refine .nil ?_
    refine nT ?_
    exact ⟨k + 1, .consI rfl (by push_cast; omega) (by repeat (first | exact .nil rfl rfl | refine .cons rfl ?_)), ⟨by omega, hs⟩, by omega⟩
  · refine .exit ?_
    refine xT (xT (xB (nT ?_)))
    refine .regSeq ?_
    refine .q hs (q_move rfl) ?_
    refine .q hs (q_leq rfl rfl) ?_
    refine .q hs (q_assign rfl) ?_
    refine .nil ?_
    refine .ret (Fin.ret1 Try.results118 rfl ?_)
    obtain rfl : k = ws.length := by omega
    exact ⟨rfl, hs⟩
theorem ref09_CheckAsk_spec {H : Heap} {w : World} {σ : List Ent} {v : Value} {a : Quest} (hs : St H w σ) (hr : RAsk H v a) : Cl Try.prog 39 [v] w fun v w' => ∃ H1 e, HLe H H1 ∧ v = I e ∧ CAskR a e ∧ St H1 w' σ := by
  obtain ⟨ul, uw, rfl, hl, hw⟩ := hr
  obtain ⟨al, cpl, rfl⟩ := RL.shape hl
  have hm : a.sys.check = 0 → 0 ≤ a.sys.many ∧ a.sys.many ≤ 64 ∧ (a.sys.n : Int) = a.sys.many + 1 := fun h => by
    have h1 := a.sys.ok_iff.1 h
    have := h1.m0; have := h1.m1
    simp only [Syst.n]; omega
  have hFF : FF = 3600000000000 := rfl
  refine Cl.of Try.func39 rfl Try.ntmps39 (by simp) (args_cons (k := 0) rfl (args0)) ?_
  refine .regSeq ?_
  refine .o (.box hs rfl rfl ?_); intro b1 w hs
  refine .q hs (q_assign rfl) ?_
  refine .nil ?_
  refine .regSeq ?_
  first | refine .q hs (q_fa0 rfl fa_api_Ask_0) ?_ | refine .q hs (q_fa rfl fa_api_Ask_0) ?_
  first | refine .q hs (q_loads (vs := [_, _]) rfl Try.isAgg32 Try.sizeOf32) ?_ | refine .q hs (q_loadsR (vs := [_, _]) rfl Try.isAgg32 Try.sizeOf32 (by assumption)) ?_
  refine .o (.call Try.call73 rfl (ref02_Check_spec (s := a.sys) hs ⟨_, rfl, hl⟩) ?_); rintro _ w ⟨rfl, hs⟩
  refine .q hs (q_assign rfl) ?_
  refine .nil ?_
  refine .seq ?_
  refine .regSeq ?_
  refine .q hs (q_move rfl) ?_
  refine .q hs (q_neq rfl rfl) ?_
  refine .nil ?_
  refine (.condN rfl (fun hc11 => ?_) (fun hc11 => ?_))
  · refine .regSeq ?_
    refine .q hs (q_move rfl) ?_
    refine .q hs (q_assign rfl) ?_
    refine .nil ?_
    refine .ret (rT (Fin.ret1 Try.results39 rfl ?_))
    exact ⟨H, _, HLe.refl _, rfl, .sys hc11, hs.tail⟩
  · refine .skip ?_
    refine nT ?_
    refine .seq ?_
    refine .regSeq ?_
    first | refine .q hs (q_fa0 rfl fa_api_Ask_0) ?_ | refine .q hs (q_fa rfl fa_api_Ask_0) ?_
    first | refine .q hs (q_fa0 rfl fa_api_System_0) ?_ | refine .q hs (q_fa rfl fa_api_System_0) ?_
    first | refine .q hs (q_load rfl Try.isAgg3) ?_ | refine .q hs (q_loadR rfl Try.isAgg3 (by assumption)) ?_
    refine .q hs (q_gtr rfl rfl) ?_
    refine .q hs (q_move rfl) ?_
    refine .bifD (t' := 17) rfl (fun hb17 => ?_) (fun hb17 => ?_)
    · refine .gFs 5 4 false rfl rfl rfl ?_
      refine .q hs (q_pickT rfl rfl) ?_
      refine .nil ?_
      refine (.condT rfl rfl ?_)
      refine .regSeq ?_
      refine .q hs (q_assign rfl) ?_
      refine .nil ?_
      refine .ret (rT (Fin.ret1 Try.results39 rfl ?_))
      exact ⟨H, _, HLe.refl _, rfl, .long hc11 (by omega), hs.tail⟩
    · refine .gT rfl rfl ?_
      first | refine .q hs (q_fa0 rfl fa_api_Ask_0) ?_ | refine .q hs (q_fa rfl fa_api_Ask_0) ?_
      refine .gT rfl rfl ?_
      first | refine .q hs (q_fa0 rfl fa_api_System_1) ?_ | refine .q hs (q_fa rfl fa_api_System_1) ?_
      refine .gT rfl rfl ?_
      first | refine .q hs (q_load rfl Try.isAgg30) ?_ | refine .q hs (q_loadR rfl Try.isAgg30 (by assumption)) ?_
      refine .gT rfl rfl ?_
      first | refine .q hs (q_len rfl Try.runUnderlying30) ?_ | refine .q hs (q_lenR (by assumption) rfl Try.runUnderlying30) ?_ | refine .q hs (q_lenI (by assumption) rfl Try.runUnderlying30) ?_
      refine .gT rfl rfl ?_
      refine .q hs (q_gtr rfl rfl) ?_
      refine .q hs (q_pickF rfl rfl) ?_
      refine .nil ?_
      refine (.condD rfl (fun hc23 => ?_) (fun hc23 => ?_))
      · refine .regSeq ?_
        refine .q hs (q_assign rfl) ?_
        refine .nil ?_
        refine .ret (rT (Fin.ret1 Try.results39 rfl ?_))
        exact ⟨H, _, HLe.refl _, rfl, .long hc11 (by omega), hs.tail⟩
      · refine .skip ?_
        refine nT ?_
        refine .seq ?_
        refine .regSeq ?_
        first | refine .q hs (q_fa0 rfl fa_api_Ask_0) ?_ | refine .q hs (q_fa rfl fa_api_Ask_0) ?_
        first | refine .q hs (q_loads (vs := [_, _]) rfl Try.isAgg32 Try.sizeOf32) ?_ | refine .q hs (q_loadsR (vs := [_, _]) rfl Try.isAgg32 Try.sizeOf32 (by assumption)) ?_
        first | refine .q hs (q_fa0 rfl fa_api_Ask_1) ?_ | refine .q hs (q_fa rfl fa_api_Ask_1) ?_
        first | refine .q hs (q_load rfl Try.isAgg22) ?_ | refine .q hs (q_loadR rfl Try.isAgg22 (by assumption)) ?_
        obtain ⟨m0, m1, mn⟩ := hm hc11
        refine .o (.call Try.call117 rfl (ref02_Weights_spec (s := a.sys) hs ⟨_, rfl, hl⟩ hw ⟨m0, m1⟩) ?_); rintro _ w ⟨bw, rfl, hbw, hs⟩
        refine .q hs (q_not rfl) ?_
        refine .q hs (q_move rfl) ?_
        refine .bif (t' := 30) rfl (fun hb30 => ?_) (fun hb30 => ?_)
        · refine .gFs 4 6 false rfl rfl rfl ?_
          refine .q hs (q_pickT rfl rfl) ?_
          refine .nil ?_
          refine (.condT rfl rfl ?_)
          refine .regSeq ?_
          refine .q hs (q_assign rfl) ?_
          refine .nil ?_
          refine .ret (rT (Fin.ret1 Try.results39 rfl ?_))
          exact ⟨H, _, HLe.refl _, rfl, .weight hc11 (by omega) (fun h => by
            have := hbw.2 ⟨by have := h.2; omega, by unfold SizedW; have := h.1; omega⟩
            rw [this] at hb30; cases hb30), hs.tail⟩
        · refine .gT rfl rfl ?_
          first | refine .q hs (q_fa0 rfl fa_api_Ask_1) ?_ | refine .q hs (q_fa rfl fa_api_Ask_1) ?_
          refine .gT rfl rfl ?_
          first | refine .q hs (q_load rfl Try.isAgg22) ?_ | refine .q hs (q_loadR rfl Try.isAgg22 (by assumption)) ?_
          refine .gT rfl rfl ?_
          have hWs := hbw.1 (by simpa using hb30)
          refine .o (.call Try.call118 rfl (ref09_sized_spec hs hw hWs.2) ?_); rintro _ w ⟨rfl, hs⟩
          refine .gT rfl rfl ?_
          refine .q hs (q_not rfl) ?_
          refine .q hs (q_pickF rfl rfl) ?_
          refine .nil ?_
          refine (.cond rfl (fun hc35 => ?_) (fun hc35 => ?_))
          · refine .regSeq ?_
            refine .q hs (q_assign rfl) ?_
            refine .nil ?_
            refine .ret (rT (Fin.ret1 Try.results39 rfl ?_))
            exact ⟨H, _, HLe.refl _, rfl, .weight hc11 (by omega) (fun h => by have := h.1; simp at hc35; omega), hs.tail⟩
          · refine .skip ?_
            refine nT ?_
            refine .seq ?_
            refine .regSeq ?_
            first | refine .q hs (q_fa0 rfl fa_api_Ask_2) ?_ | refine .q hs (q_fa rfl fa_api_Ask_2) ?_
            first | refine .q hs (q_load rfl Try.isAgg3) ?_ | refine .q hs (q_loadR rfl Try.isAgg3 (by assumption)) ?_
            have hAW : AWts a.ws a.sys.many := ⟨by simpa using hc35, by have := hWs.1; omega⟩
            refine .o (.call Try.call119 rfl (ref09_in_spec hs) ?_); rintro _ w ⟨rfl, hs⟩
            refine .q hs (q_not rfl) ?_
            refine .nil ?_
            refine (.cond rfl (fun hc39 => ?_) (fun hc39 => ?_))
            · refine .regSeq ?_
              refine .q hs (q_assign rfl) ?_
              refine .nil ?_
              refine .ret (rT (Fin.ret1 Try.results39 rfl ?_))
              exact ⟨H, _, HLe.refl _, rfl, .width hc11 (by omega) hAW (fun h => by simp [h] at hc39), hs.tail⟩
            · refine .skip ?_
              refine nT ?_
              refine .regSeq ?_
              first | refine .q hs (q_fa0 rfl fa_api_Ask_0) ?_ | refine .q hs (q_fa rfl fa_api_Ask_0) ?_
              first | refine .q hs (q_loads (vs := [_, _]) rfl Try.isAgg32 Try.sizeOf32) ?_ | refine .q hs (q_loadsR (vs := [_, _]) rfl Try.isAgg32 Try.sizeOf32 (by assumption)) ?_
              first | refine .q hs (q_fa0 rfl fa_api_Ask_1) ?_ | refine .q hs (q_fa rfl fa_api_Ask_1) ?_
              first | refine .q hs (q_load rfl Try.isAgg22) ?_ | refine .q hs (q_loadR rfl Try.isAgg22 (by assumption)) ?_
              refine .o (.call Try.call50 rfl (ref02_Range_spec (s := a.sys) hs ⟨_, rfl, hl⟩ hw) ?_); rintro _ w ⟨H1, lo, hi, e, hle1, rfl, hR, hs⟩
              refine .q hs (q_move rfl) ?_
              refine .q hs (q_extract rfl rfl) ?_
              refine .q hs (q_extract rfl rfl) ?_
              refine .q hs (q_extract rfl rfl) ?_
              refine .q hs (q_assign rfl) ?_
              refine .q hs (q_assign rfl) ?_
              refine .q hs (q_assign rfl) ?_
              refine .nil ?_
              refine .regSeq ?_
              refine .q hs (q_move rfl) ?_
              refine .q hs (q_assign rfl) ?_
              refine .nil ?_
              refine .ret (Fin.ret1 Try.results39 rfl ?_)
              exact ⟨H1, _, hle1, rfl, .range hc11 (by omega) hAW (by simpa using hc39) hR, hs.tail⟩
theorem ref09_unit_spec {H : Heap} {w : World} {σ : List Ent} {many u : Int} (hs : St H w σ) (hm : many ≤ 64) (hu : 0 ≤ u ∧ u ≤ many) : Cl Try.prog 190 [I many, I u] w fun v w' => ∃ H1, HLe H H1 ∧ RI H1 v (oneW many u) ∧ St H1 w' σ := by
  have e1 : many + 1 = ((many.toNat + 1 : Nat) : Int) := by omega
  refine Cl.of Try.func190 rfl Try.ntmps190 (by simp) (args_cons (k := 0) rfl (args_cons (k := 1) rfl (args0))) ?_
  refine .regSeq ?_
  refine .q hs (q_assign rfl) ?_
  refine .nil ?_
  refine .regSeq ?_
  refine .q hs (q_move rfl) ?_
  first | refine .q hs (q_addF rfl rfl (by omega)) ?_ | refine .q hs (q_addU rfl rfl ⟨by omega, by omega⟩) ?_ | refine .q hs (q_add rfl rfl) ?_
  rw [e1]
  refine .o (.makeI (many.toNat + 1) hs rfl rfl Try.runUnderlying22 Try.typeInfo3 rfl Try.sizeOf3 Try.zeroValue3 (by omega) ?_); intro b8 w hs
  refine .q hs (q_assign rfl) ?_
  refine .nil ?_
  refine .regSeq ?_
  refine .q hs (q_move rfl) ?_
  refine .q hs (q_move rfl) ?_
  refine .q hs (q_ixO (k := u.toNat) rfl rfl Try.runUnderlying22 Try.sizeOf3 (by omega) (by omega)) ?_
  refine .o (.store hs rfl rfl Try.sizeOf3 ?_ (by repeat constructor) (blt_Is (by simp; omega)) (Is_set _ _ _)); intro w hs
  refine .nil ?_
  refine .regSeq ?_
  refine .q hs (q_move rfl) ?_
  refine .q hs (q_assign rfl) ?_
  refine .nil ?_
  refine .ret (Fin.ret1 Try.results190 rfl ?_)
  obtain ⟨H1, g1, g2, hs⟩ := hs.publish .here
  refine ⟨H1, g1, ?_, hs.out⟩
  have := Row.RI (xs := oneW many u) (spare := []) (by simpa [oneW] using g2) (many.toNat + 1) (by simp [oneW]) (by simp [oneW]; omega)
  simpa [oneW] using this
theorem ref09_isProbe_spec {H : Heap} {w : World} {σ : List Ent} {v : Value} {a : Quest} {p : Prb} (hs : St H w σ) (hr : RAsk H v a) (hm : a.sys.many ≤ 64) : Cl Try.prog 123 [v, .agg p.c.toArray] w fun v w' => ∃ H1 b, HLe H H1 ∧ v = .bool b ∧ (b = true ↔ PrbOk a p) ∧ St H1 w' σ := by
  obtain ⟨ul, uw, rfl, hl, hw⟩ := hr
  refine Cl.of Try.func123 rfl Try.ntmps123 (by simp) (args_cons (k := 0) rfl (args_cons (k := 1) rfl (args0))) ?_
  refine .regSeq ?_
  refine .o (.box hs rfl rfl ?_); intro b2 w hs
  refine .o (.box hs rfl rfl ?_); intro b3 w hs
  refine .q hs (q_assign rfl) ?_
  refine .nil ?_
  refine .seq ?_
  refine .regSeq ?_
  first | refine .q hs (q_fa0 rfl fa_api_Probe_0) ?_ | refine .q hs (q_fa rfl fa_api_Probe_0) ?_
  first | refine .q hs (q_load rfl Try.isAgg3) ?_ | refine .q hs (q_loadR rfl Try.isAgg3 (by assumption)) ?_
  first | refine .q hs (q_fa0 rfl fa_api_Ask_0) ?_ | refine .q hs (q_fa rfl fa_api_Ask_0) ?_
  first | refine .q hs (q_fa0 rfl fa_api_System_0) ?_ | refine .q hs (q_fa rfl fa_api_System_0) ?_
  first | refine .q hs (q_load rfl Try.isAgg3) ?_ | refine .q hs (q_loadR rfl Try.isAgg3 (by assumption)) ?_
  refine .o (.call Try.call119 rfl (ref09_in_spec hs) ?_); rintro _ w ⟨rfl, hs⟩
  refine .q hs (q_not rfl) ?_
  refine .q hs (q_move rfl) ?_
  refine .bif (t' := 15) rfl (fun hb15 => ?_) (fun hb15 => ?_)
  · refine .gFs 4 7 false rfl rfl rfl ?_
    refine .q hs (q_pickT rfl rfl) ?_
    refine .nil ?_
    refine (.condT rfl rfl ?_)
    refine .regSeq ?_
    refine .q hs (q_assign rfl) ?_
    refine .nil ?_
    refine .ret (rT (Fin.ret1 Try.results123 rfl ?_))
    exact ⟨H, false, HLe.refl _, rfl, ⟨fun h => (by cases h), fun h => by simp [h.1] at hb15⟩, hs.out⟩
  · refine .gT rfl rfl ?_
    first | refine .q hs (q_fa0 rfl fa_api_Probe_1) ?_ | refine .q hs (q_fa rfl fa_api_Probe_1) ?_
    refine .gT rfl rfl ?_
    first | refine .q hs (q_load rfl Try.isAgg3) ?_ | refine .q hs (q_loadR rfl Try.isAgg3 (by assumption)) ?_
    refine .gT rfl rfl ?_
    refine .o (.call Try.call119 rfl (ref09_in_spec hs) ?_); rintro _ w ⟨rfl, hs⟩
    refine .gT rfl rfl ?_
    refine .q hs (q_not rfl) ?_
    refine .q hs (q_pickF rfl rfl) ?_
    refine .nil ?_
    refine (.cond rfl (fun hc20 => ?_) (fun hc20 => ?_))
    · refine .regSeq ?_
      refine .q hs (q_assign rfl) ?_
      refine .nil ?_
      refine .ret (rT (Fin.ret1 Try.results123 rfl ?_))
      exact ⟨H, false, HLe.refl _, rfl, ⟨fun h => (by cases h), fun h => by simp [h.2.1] at hc20⟩, hs.out⟩
    · refine .skip ?_
      refine nT ?_
      refine .seq (.draw mix rfl hs ?_); intro w hs
      first | refine .p (i := 0) rfl (by kernel_rfl) .none (q_fa0 rfl fa_api_Ask_0) ?_ | refine .p (i := 0) rfl (by kernel_rfl) .none (q_fa rfl fa_api_Ask_0) ?_
      first | refine .loads (i := 1) (vs := [_, _]) hs rfl (by kernel_rfl) .none rfl Try.isAgg32 Try.sizeOf32 ?_ | refine .r (i := 1) hs rfl (by kernel_rfl) .none (q_loadsR (vs := [_, _]) rfl Try.isAgg32 Try.sizeOf32 (by assumption)) ?_
      first | refine .p (i := 2) rfl (by kernel_rfl) .none (q_fa0 rfl fa_api_Ask_0) ?_ | refine .p (i := 2) rfl (by kernel_rfl) .none (q_fa rfl fa_api_Ask_0) ?_
      first | refine .p (i := 3) rfl (by kernel_rfl) .none (q_fa0 rfl fa_api_System_0) ?_ | refine .p (i := 3) rfl (by kernel_rfl) .none (q_fa rfl fa_api_System_0) ?_
      first | refine .load (i := 4) hs rfl (by kernel_rfl) .none rfl Try.isAgg3 ?_ | refine .r (i := 4) hs rfl (by kernel_rfl) .none (q_loadR rfl Try.isAgg3 (by assumption)) ?_
      first | refine .p (i := 5) rfl (by kernel_rfl) .none (q_fa0 rfl fa_api_Probe_0) ?_ | refine .p (i := 5) rfl (by kernel_rfl) .none (q_fa rfl fa_api_Probe_0) ?_
      first | refine .load (i := 6) hs rfl (by kernel_rfl) .none rfl Try.isAgg3 ?_ | refine .r (i := 6) hs rfl (by kernel_rfl) .none (q_loadR rfl Try.isAgg3 (by assumption)) ?_
      refine .e1 (i := 7) (by kernel_rfl) rfl rfl .none hs ?_
      simp only [Bool.not_eq_false', decide_eq_true_eq] at hb15 hc20
      refine .call Try.call190 rfl (ref09_unit_spec hs hm (by omega)) ?_; rintro v29 w ⟨H1, hle1, hr29, hs⟩
      refine .go ?_
      refine .e1 (i := 8) (by kernel_rfl) rfl rfl .none hs ?_
      refine .call Try.call50 rfl (ref02_Range_spec (s := a.sys) hs ⟨_, rfl, hl.mono hle1⟩ hr29) ?_; rintro _ w ⟨H2, lo, hi, e, hle2, rfl, hR, hs⟩
      refine .go ?_
      refine .p (i := 9) rfl (by kernel_rfl) .none (q_move rfl) ?_
      refine .p (i := 10) rfl (by kernel_rfl) .none (q_extract rfl rfl) ?_
      refine .p (i := 11) rfl (by kernel_rfl) .none (q_extract rfl rfl) ?_
      refine .p (i := 12) rfl (by kernel_rfl) .none (q_extract rfl rfl) ?_
      refine .p (i := 13) rfl (by kernel_rfl) .none (q_assign rfl) ?_
      refine .p (i := 14) rfl (by kernel_rfl) .none (q_assign rfl) ?_
      refine .p (i := 15) rfl (by kernel_rfl) .none (q_assign rfl) ?_
      refine .done (by kernel_rfl) hs ?_
      refine .regSeq ?_
      refine .q hs (q_move rfl) ?_
      refine .q hs (q_eql rfl rfl) ?_
      refine .q hs (q_move rfl) ?_
      refine .bifD (t' := 36) rfl (fun hb36 => ?_) (fun hb36 => ?_)
      · refine .gT rfl rfl ?_
        refine .q hs (q_move rfl) ?_
        refine .gT rfl rfl ?_
        refine .q hs (q_geq rfl rfl) ?_
        refine .q hs (q_pickT rfl rfl) ?_
        refine .q hs (q_move rfl) ?_
        refine .bifD (t' := 40) rfl (fun hb40 => ?_) (fun hb40 => ?_)
        · refine .gT rfl rfl ?_
          refine .q hs (q_move rfl) ?_
          refine .gT rfl rfl ?_
          refine .q hs (q_leq rfl rfl) ?_
          refine .q hs (q_pickT rfl rfl) ?_
          refine .q hs (q_assign rfl) ?_
          refine .nil ?_
          refine .ret (Fin.ret1 Try.results123 rfl ?_)
          exact ⟨H2, _, hle1.trans hle2, rfl, by
            first
              | exact ⟨fun h => (by cases h), fun ⟨_, _, lo', hi', h1, h2, h3⟩ => by
                  obtain ⟨rfl, rfl, rfl⟩ := hR.uniq h1
                  first | exact (hb36 rfl).elim | exact (hb40 h2).elim⟩
              | (simp only [decide_eq_true_eq]
                 subst hb36
                 exact ⟨fun h => ⟨hb15, hc20, lo, hi, hR, by omega, h⟩, fun ⟨_, _, lo', hi', h1, h2, h3⟩ => by
                  obtain ⟨rfl, rfl, -⟩ := hR.uniq h1
                  exact h3⟩), hs.out⟩
        · refine .gFs 2 6 true rfl rfl rfl ?_
          refine .q hs (q_pickF rfl rfl) ?_
          refine .q hs (q_assign rfl) ?_
          refine .nil ?_
          refine .ret (Fin.ret1 Try.results123 rfl ?_)
          exact ⟨H2, _, hle1.trans hle2, rfl, by
            first
              | exact ⟨fun h => (by cases h), fun ⟨_, _, lo', hi', h1, h2, h3⟩ => by
                  obtain ⟨rfl, rfl, rfl⟩ := hR.uniq h1
                  first | exact (hb36 rfl).elim | exact (hb40 h2).elim⟩
              | (simp only [decide_eq_true_eq]
                 subst hb36
                 exact ⟨fun h => ⟨hb15, hc20, lo, hi, hR, by omega, h⟩, fun ⟨_, _, lo', hi', h1, h2, h3⟩ => by
                  obtain ⟨rfl, rfl, -⟩ := hR.uniq h1
                  exact h3⟩), hs.out⟩
      · refine .gFs 2 2 true rfl rfl rfl ?_
        refine .q hs (q_pickF rfl rfl) ?_
        refine .q hs (q_move rfl) ?_
        refine .gFs 2 6 true rfl rfl rfl ?_
        refine .q hs (q_pickF rfl rfl) ?_
        refine .q hs (q_assign rfl) ?_
        refine .nil ?_
        refine .ret (Fin.ret1 Try.results123 rfl ?_)
        exact ⟨H2, _, hle1.trans hle2, rfl, by
          first
            | exact ⟨fun h => (by cases h), fun ⟨_, _, lo', hi', h1, h2, h3⟩ => by
                obtain ⟨rfl, rfl, rfl⟩ := hR.uniq h1
                first | exact (hb36 rfl).elim | exact (hb40 h2).elim⟩
            | (simp only [decide_eq_true_eq]
               subst hb36
               exact ⟨fun h => ⟨hb15, hc20, lo, hi, hR, by omega, h⟩, fun ⟨_, _, lo', hi', h1, h2, h3⟩ => by
                obtain ⟨rfl, rfl, -⟩ := hR.uniq h1
                exact h3⟩), hs.out⟩
theorem ref09_CheckProbes_spec {H : Heap} {w : World} {σ : List Ent} {v vl : Value} {a : Quest} {l : List Prb} (hs : St H w σ) (hr : RAsk H v a) (hp : RPs H vl l) : Cl Try.prog 41 [v, vl] w fun v w' => ∃ H1 e, HLe H H1 ∧ v = I e ∧ CPrbR a l e ∧ St H1 w' σ := by
  obtain ⟨ul, uw, rfl, hl, hw⟩ := hr
  obtain ⟨ap, cp, rfl⟩ := RPs.shape hp
  refine Cl.of Try.func41 rfl Try.ntmps41 (by simp) (args_cons (k := 0) rfl (args_cons (k := 1) rfl (args0))) ?_
  refine .regSeq ?_
  refine .o (.box hs rfl rfl ?_); intro b2 w hs
  refine .q hs (q_assign rfl) ?_
  refine .nil ?_
  refine .regSeq ?_
  first | refine .q hs (q_loads (vs := [_, _, _, _]) rfl Try.isAgg34 Try.sizeOf34) ?_ | refine .q hs (q_loadsR (vs := [_, _, _, _]) rfl Try.isAgg34 Try.sizeOf34 (by assumption)) ?_
  refine .o (.call Try.call39 rfl (ref09_CheckAsk_spec (a := a) hs ⟨_, _, rfl, hl, hw⟩) ?_); rintro _ w ⟨H1, e, hle1, rfl, hA, hs⟩
  refine .q hs (q_assign rfl) ?_
  refine .nil ?_
  refine .seq ?_
  refine .regSeq ?_
  refine .q hs (q_move rfl) ?_
  refine .q hs (q_neq rfl rfl) ?_
  refine .nil ?_
  refine (.condN rfl (fun hc10 => ?_) (fun hc10 => ?_))
  · refine .regSeq ?_
    refine .q hs (q_move rfl) ?_
    refine .q hs (q_assign rfl) ?_
    refine .nil ?_
    refine .ret (rT (Fin.ret1 Try.results41 rfl ?_))
    exact ⟨H1, _, hle1, rfl, .ask hA hc10, hs.tail⟩
  · refine .skip ?_
    refine nT ?_
    refine .seq ?_
    refine .regSeq ?_
    refine .q hs (q_move rfl) ?_
    first | refine .q hs (q_len rfl Try.runUnderlying35) ?_ | refine .q hs (q_lenR (by assumption) rfl Try.runUnderlying35) ?_ | refine .q hs (q_lenI (by assumption) rfl Try.runUnderlying35) ?_
    refine .q hs (q_gtr rfl rfl) ?_
    refine .nil ?_
    refine (.condD rfl (fun hc14 => ?_) (fun hc14 => ?_))
    · refine .regSeq ?_
      refine .q hs (q_assign rfl) ?_
      refine .nil ?_
      refine .ret (rT (Fin.ret1 Try.results41 rfl ?_))
      exact ⟨H1, _, hle1, rfl, .long (CAskR.zero.1 (by rw [hc10] at hA; exact hA)) (by omega), hs.tail⟩
    · refine .skip ?_
      refine nT ?_
      refine .seq ?_
      refine .regSeq ?_
      refine .q hs (q_assign rfl) ?_
      refine .nil ?_
      refine .block ?_
      have hok := CAskR.zero.1 (by rw [hc10] at hA; exact hA)
      have hm1 := hok.ok.m1
      refine .loop (fun k : Nat => ⟨28, [], [(6, I (k : Int)), (1, .slice ap l.length cp), (2, .pointer (some ⟨b2, 0, none⟩))]⟩) (fun k w => (k ≤ l.length ∧ ∀ j < k, ∀ p, l[j]? = some p → PrbOk a p) ∧ ∃ H2, HLe H1 H2 ∧ St H2 w (.blk b2 [I a.sys.many, ul, uw, I a.width] :: σ)) (fun k => l.length - k) 0 (by repeat (first | exact .nil rfl rfl | refine .cons rfl ?_)) ⟨⟨by omega, fun j hj => by omega⟩, H1, HLe.refl _, hs⟩ ?_
      rintro k w ⟨⟨hk, hno⟩, H2, hle2, hs⟩
      have hle12 := hle1.trans hle2
      refine .seq ?_
      refine .regSeq ?_
      refine .q hs (q_move rfl) ?_
      refine .q hs (q_move rfl) ?_
      first | refine .q hs (q_len rfl Try.runUnderlying35) ?_ | refine .q hs (q_lenR (by assumption) rfl Try.runUnderlying35) ?_ | refine .q hs (q_lenI (by assumption) rfl Try.runUnderlying35) ?_
      refine .q hs (q_lss rfl rfl) ?_
      refine .nil ?_
      refine (.condD rfl (fun hc18 => ?_) (fun hc18 => ?_))
      · refine .skip ?_
        refine nT ?_
        refine .seq ?_
        refine .block ?_
        refine .seq (.draw mix rfl hs ?_); intro w hs
        first | refine .loads (i := 0) (vs := [_, _, _, _]) hs rfl (by kernel_rfl) .none rfl Try.isAgg34 Try.sizeOf34 ?_ | refine .r (i := 0) hs rfl (by kernel_rfl) .none (q_loadsR (vs := [_, _, _, _]) rfl Try.isAgg34 Try.sizeOf34 (by assumption)) ?_
        refine .p (i := 1) rfl (by kernel_rfl) .none (q_move rfl) ?_
        refine .p (i := 2) rfl (by kernel_rfl) .none (q_move rfl) ?_
        obtain ⟨x, hx⟩ := nth (l := l) (k := k) (by omega)
        refine .ixX (enc := Prb.c) (i := 3) hs rfl (by kernel_rfl) .none (hp.mono hle12) rfl rfl Try.runUnderlying35 Try.sizeOf48 hx rfl ?_; intro b24 o24 hc24
        refine .r (i := 4) hs rfl (by kernel_rfl) .none (q_loadsR (vs := x.c) rfl Try.isAgg48 Try.sizeOf48 hc24) ?_
        refine .e1 (i := 5) (by kernel_rfl) rfl rfl .none hs ?_
        refine .call Try.call123 rfl (ref09_isProbe_spec (a := a) hs ⟨_, _, rfl, hl.mono hle12, hw.mono hle12⟩ hm1) ?_; rintro _ w ⟨H3, b26, hle3, rfl, hb26, hs⟩
        refine .go ?_
        refine .p (i := 6) rfl (by kernel_rfl) .none (q_not rfl) ?_
        refine .done (by kernel_rfl) hs ?_
        refine (.cond rfl (fun hc27 => ?_) (fun hc27 => ?_))
        · refine .regSeq ?_
          refine .q hs (q_assign rfl) ?_
          refine .nil ?_
          refine .ret (rB (rT (rT (rB (rT (Fin.ret1 Try.results41 rfl ?_))))))
          exact ⟨H3, _, hle12.trans hle3, rfl, .bad hok (by omega) (fun h => by
            have := hb26.2 (h x (List.mem_of_getElem? hx))
            rw [this] at hc27; cases hc27), hs.out⟩
        · refine .skip ?_
          refine nB (nT ?_)
          refine .region ?_
          refine .q hs (q_move rfl) ?_
          first | refine .q hs (q_addF rfl rfl (by omega)) ?_ | refine .q hs (q_addU rfl rfl ⟨by omega, by omega⟩) ?_ | refine .q hs (q_add rfl rfl) ?_
          refine .q hs (q_assign rfl) ?_
          refine .nil ?_
          refine nT ?_
          exact ⟨k + 1, .consI rfl (by push_cast; omega) (by repeat (first | exact .nil rfl rfl | refine .cons rfl ?_)), ⟨⟨by omega, upto_succ hno hx (hb26.1 (by simpa using hc27))⟩, H3, hle2.trans hle3, hs⟩, by omega⟩
      · refine .exit ?_
        refine xT (xT (xB (nT ?_)))
        refine .regSeq ?_
        refine .q hs (q_assign rfl) ?_
        refine .nil ?_
        refine .ret (Fin.ret1 Try.results41 rfl ?_)
        exact ⟨H2, _, hle12, rfl, .ok hok (by omega) (fun p hp => by
          obtain ⟨j, hj⟩ := List.getElem?_of_mem hp
          exact hno j (by have := (List.getElem?_eq_some_iff.1 hj).1; omega) p hj), hs.out⟩
theorem ref09_Width_spec {H : Heap} {w : World} {σ : List Ent} {v : Value} {a : Quest} (hs : St H w σ) (hr : RAsk H v a) : Cl Try.prog 33 [v] w fun u w' => ∃ H1 n e, HLe H H1 ∧ u = .tuple #[I n, I e] ∧ WidthR a n e ∧ St H1 w' σ := by
  obtain ⟨ul, uw, rfl, hl, hw⟩ := hr
  refine Cl.of Try.func33 rfl Try.ntmps33 (by simp) (args_cons (k := 0) rfl (args0)) ?_
  refine .regSeq ?_
  refine .o (.box hs rfl rfl ?_); intro b1 w hs
  refine .q hs (q_assign rfl) ?_
  refine .q hs (q_assign rfl) ?_
  refine .nil ?_
  refine .regSeq ?_
  first | refine .q hs (q_loads (vs := [_, _, _, _]) rfl Try.isAgg34 Try.sizeOf34) ?_ | refine .q hs (q_loadsR (vs := [_, _, _, _]) rfl Try.isAgg34 Try.sizeOf34 (by assumption)) ?_
  refine .o (.call Try.call39 rfl (ref09_CheckAsk_spec (a := a) hs ⟨_, _, rfl, hl, hw⟩) ?_); rintro _ w ⟨H1, e, hle1, rfl, hA, hs⟩
  refine .q hs (q_assign rfl) ?_
  refine .nil ?_
  refine .seq ?_
  refine .regSeq ?_
  refine .q hs (q_move rfl) ?_
  refine .q hs (q_neq rfl rfl) ?_
  refine .nil ?_
  refine (.condN rfl (fun hc11 => ?_) (fun hc11 => ?_))
  · refine .regSeq ?_
    refine .q hs (q_move rfl) ?_
    refine .q hs (q_assign rfl) ?_
    refine .q hs (q_assign rfl) ?_
    refine .nil ?_
    refine .ret (rT (Fin.ret2 Try.results33 rfl rfl ?_))
    exact ⟨H1, 0, e, hle1, rfl, .inl ⟨hA, hc11, rfl⟩, hs.tail⟩
  · refine .skip ?_
    refine nT ?_
    refine .regSeq ?_
    first | refine .q hs (q_fa0 rfl fa_api_Ask_0) ?_ | refine .q hs (q_fa rfl fa_api_Ask_0) ?_
    first | refine .q hs (q_loads (vs := [_, _]) rfl Try.isAgg32 Try.sizeOf32) ?_ | refine .q hs (q_loadsR (vs := [_, _]) rfl Try.isAgg32 Try.sizeOf32 (by assumption)) ?_
    first | refine .q hs (q_fa0 rfl fa_api_Ask_1) ?_ | refine .q hs (q_fa rfl fa_api_Ask_1) ?_
    first | refine .q hs (q_load rfl Try.isAgg22) ?_ | refine .q hs (q_loadR rfl Try.isAgg22 (by assumption)) ?_
    have hok := CAskR.zero.1 (by rw [hc11] at hA; exact hA)
    refine .o (.call Try.call50 rfl (ref02_Range_spec (s := a.sys) hs ⟨_, rfl, hl.mono hle1⟩ (hw.mono hle1)) ?_); rintro _ w ⟨H2, lo, hi, e2, hle2, rfl, hR, hs⟩
    have hbd := hR.bd
    refine .q hs (q_move rfl) ?_
    refine .q hs (q_extract rfl rfl) ?_
    refine .q hs (q_extract rfl rfl) ?_
    refine .q hs (q_extract rfl rfl) ?_
    refine .q hs (q_assign rfl) ?_
    refine .q hs (q_assign rfl) ?_
    refine .q hs (q_assign rfl) ?_
    refine .nil ?_
    refine .regSeq ?_
    refine .q hs (q_move rfl) ?_
    refine .q hs (q_move rfl) ?_
    first | refine .q hs (q_subF rfl rfl (by omega)) ?_ | refine .q hs (q_sub rfl rfl) ?_
    refine .q hs (q_assign rfl) ?_
    refine .q hs (q_assign rfl) ?_
    refine .nil ?_
    refine .ret (Fin.ret2 Try.results33 rfl rfl ?_)
    exact ⟨H2, _, 0, hle1.trans hle2, rfl, .inr ⟨hok, rfl, lo, hi, (ask_range hok hR).2, rfl⟩, hs.tail⟩
theorem ref09_Settled_spec {H : Heap} {w : World} {σ : List Ent} {v : Value} {a : Quest} (hs : St H w σ) (hr : RAsk H v a) : Cl Try.prog 35 [v] w fun u w' => ∃ H1 b e, HLe H H1 ∧ u = .tuple #[.bool b, I e] ∧ SettledR a b e ∧ St H1 w' σ := by
  obtain ⟨ul, uw, rfl, hl, hw⟩ := hr
  refine Cl.of Try.func35 rfl Try.ntmps35 (by simp) (args_cons (k := 0) rfl (args0)) ?_
  refine .regSeq ?_
  refine .o (.box hs rfl rfl ?_); intro b1 w hs
  refine .q hs (q_assign rfl) ?_
  refine .q hs (q_assign rfl) ?_
  refine .nil ?_
  refine .regSeq ?_
  first | refine .q hs (q_loads (vs := [_, _, _, _]) rfl Try.isAgg34 Try.sizeOf34) ?_ | refine .q hs (q_loadsR (vs := [_, _, _, _]) rfl Try.isAgg34 Try.sizeOf34 (by assumption)) ?_
  refine .o (.call Try.call33 rfl (ref09_Width_spec (a := a) hs ⟨_, _, rfl, hl, hw⟩) ?_); rintro _ w ⟨H1, n, e, hle1, rfl, hA, hs⟩
  refine .q hs (q_move rfl) ?_
  refine .q hs (q_extract rfl rfl) ?_
  refine .q hs (q_extract rfl rfl) ?_
  refine .q hs (q_assign rfl) ?_
  refine .q hs (q_assign rfl) ?_
  refine .nil ?_
  refine .seq ?_
  refine .regSeq ?_
  refine .q hs (q_move rfl) ?_
  refine .q hs (q_neq rfl rfl) ?_
  refine .nil ?_
  refine (.condN rfl (fun hc12 => ?_) (fun hc12 => ?_))
  · refine .regSeq ?_
    refine .q hs (q_move rfl) ?_
    refine .q hs (q_assign rfl) ?_
    refine .q hs (q_assign rfl) ?_
    refine .nil ?_
    refine .ret (rT (Fin.ret2 Try.results35 rfl rfl ?_))
    rcases hA with ⟨h1, h2, _⟩ | ⟨_, h, _⟩
    · exact ⟨H1, false, e, hle1, rfl, .inl ⟨h1, h2, rfl⟩, hs.tail⟩
    · exact (hc12 h).elim
  · refine .skip ?_
    refine nT ?_
    refine .regSeq ?_
    refine .q hs (q_move rfl) ?_
    first | refine .q hs (q_fa0 rfl fa_api_Ask_2) ?_ | refine .q hs (q_fa rfl fa_api_Ask_2) ?_
    first | refine .q hs (q_load rfl Try.isAgg3) ?_ | refine .q hs (q_loadR rfl Try.isAgg3 (by assumption)) ?_
    refine .q hs (q_leq rfl rfl) ?_
    refine .q hs (q_assign rfl) ?_
    refine .q hs (q_assign rfl) ?_
    refine .nil ?_
    refine .ret (Fin.ret2 Try.results35 rfl rfl ?_)
    rcases hA with ⟨_, h, _⟩ | ⟨h1, _, lo, hi, h2, h3⟩
    · exact (h hc12).elim
    · exact ⟨H1, _, 0, hle1, rfl, .inr ⟨h1, rfl, lo, hi, h2, by rw [h3]⟩, hs.tail⟩
theorem ref09_Side_spec {H : Heap} {w : World} {σ : List Ent} {v : Value} {a : Quest} {z : Int} (hs : St H w σ) (hr : RAsk H v a) : Cl Try.prog 37 [v, I z] w fun u w' => ∃ H1 x e, HLe H H1 ∧ u = .tuple #[I x, I e] ∧ SideR a z x e ∧ St H1 w' σ := by
  obtain ⟨ul, uw, rfl, hl, hw⟩ := hr
  refine Cl.of Try.func37 rfl Try.ntmps37 (by simp) (args_cons (k := 0) rfl (args_cons (k := 1) rfl (args0))) ?_
  refine .regSeq ?_
  refine .o (.box hs rfl rfl ?_); intro b2 w hs
  refine .q hs (q_assign rfl) ?_
  refine .q hs (q_assign rfl) ?_
  refine .nil ?_
  refine .regSeq ?_
  first | refine .q hs (q_loads (vs := [_, _, _, _]) rfl Try.isAgg34 Try.sizeOf34) ?_ | refine .q hs (q_loadsR (vs := [_, _, _, _]) rfl Try.isAgg34 Try.sizeOf34 (by assumption)) ?_
  refine .o (.call Try.call39 rfl (ref09_CheckAsk_spec (a := a) hs ⟨_, _, rfl, hl, hw⟩) ?_); rintro _ w ⟨H1, e, hle1, rfl, hA, hs⟩
  refine .q hs (q_assign rfl) ?_
  refine .nil ?_
  refine .seq ?_
  refine .regSeq ?_
  refine .q hs (q_move rfl) ?_
  refine .q hs (q_neq rfl rfl) ?_
  refine .nil ?_
  refine (.condN rfl (fun hc13 => ?_) (fun hc13 => ?_))
  · refine .regSeq ?_
    refine .q hs (q_move rfl) ?_
    refine .q hs (q_assign rfl) ?_
    refine .q hs (q_assign rfl) ?_
    refine .nil ?_
    refine .ret (rT (Fin.ret2 Try.results37 rfl rfl ?_))
    exact ⟨H1, 0, e, hle1, rfl, .inl ⟨hA, hc13, rfl⟩, hs.tail⟩
  · refine .skip ?_
    refine nT ?_
    refine .regSeq ?_
    first | refine .q hs (q_fa0 rfl fa_api_Ask_0) ?_ | refine .q hs (q_fa rfl fa_api_Ask_0) ?_
    first | refine .q hs (q_loads (vs := [_, _]) rfl Try.isAgg32 Try.sizeOf32) ?_ | refine .q hs (q_loadsR (vs := [_, _]) rfl Try.isAgg32 Try.sizeOf32 (by assumption)) ?_
    first | refine .q hs (q_fa0 rfl fa_api_Ask_1) ?_ | refine .q hs (q_fa rfl fa_api_Ask_1) ?_
    first | refine .q hs (q_load rfl Try.isAgg22) ?_ | refine .q hs (q_loadR rfl Try.isAgg22 (by assumption)) ?_
    have hok := CAskR.zero.1 (by rw [hc13] at hA; exact hA)
    refine .o (.call Try.call50 rfl (ref02_Range_spec (s := a.sys) hs ⟨_, rfl, hl.mono hle1⟩ (hw.mono hle1)) ?_); rintro _ w ⟨H2, lo, hi, e2, hle2, rfl, hR, hs⟩
    replace hR := (ask_range hok hR).2
    refine .q hs (q_move rfl) ?_
    refine .q hs (q_extract rfl rfl) ?_
    refine .q hs (q_extract rfl rfl) ?_
    refine .q hs (q_extract rfl rfl) ?_
    refine .q hs (q_assign rfl) ?_
    refine .q hs (q_assign rfl) ?_
    refine .q hs (q_assign rfl) ?_
    refine .nil ?_
    refine .seq ?_
    refine .regSeq ?_
    refine .q hs (q_move rfl) ?_
    refine .q hs (q_move rfl) ?_
    refine .q hs (q_geq rfl rfl) ?_
    refine .nil ?_
    refine (.condD rfl (fun hc26 => ?_) (fun hc26 => ?_))
    · refine .regSeq ?_
      refine .q hs (q_assign rfl) ?_
      refine .q hs (q_assign rfl) ?_
      refine .nil ?_
      refine .ret (rT (Fin.ret2 Try.results37 rfl rfl ?_))
      exact ⟨H2, 1, 0, hle1.trans hle2, rfl, .inr ⟨hok, rfl, lo, hi, hR, by rw [if_pos hc26]⟩, hs.tail⟩
    · refine .skip ?_
      refine nT ?_
      refine .seq ?_
      refine .regSeq ?_
      refine .q hs (q_move rfl) ?_
      refine .q hs (q_move rfl) ?_
      refine .q hs (q_lss rfl rfl) ?_
      refine .nil ?_
      refine (.condD rfl (fun hc29 => ?_) (fun hc29 => ?_))
      · refine .regSeq ?_
        refine .q hs (q_assign rfl) ?_
        refine .q hs (q_assign rfl) ?_
        refine .nil ?_
        refine .ret (rT (Fin.ret2 Try.results37 rfl rfl ?_))
        exact ⟨H2, 0, 0, hle1.trans hle2, rfl, .inr ⟨hok, rfl, lo, hi, hR, by rw [if_neg hc26, if_pos hc29]⟩, hs.tail⟩
      · refine .skip ?_
        refine nT ?_
        refine .regSeq ?_
        refine .q hs (q_assign rfl) ?_
        refine .q hs (q_assign rfl) ?_
        refine .nil ?_
        refine .ret (Fin.ret2 Try.results37 rfl rfl ?_)
        exact ⟨H2, 2, 0, hle1.trans hle2, rfl, .inr ⟨hok, rfl, lo, hi, hR, by rw [if_neg hc26, if_neg hc29]⟩, hs.tail⟩
end Go.Proofs.Ytiiokdeehlfeeaa
