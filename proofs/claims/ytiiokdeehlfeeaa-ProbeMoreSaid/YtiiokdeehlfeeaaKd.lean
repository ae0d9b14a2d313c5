/-
  Texts of this claim, joined: Wq Wr.
-/
import Derived.Test.YtiiokdeehlfeeaaKb
import Derived.Test.YtiiokdeehlfeeaaKc
/-
  Walks: questions and probes that numbers make.
-/
namespace Go.Proofs.Ytiiokdeehlfeeaa
open Go.MW
set_option maxHeartbeats 4000000 in
theorem ref09_Made_spec {H : Heap} {w : World} {σ : List Ent} {cs : List Value} {r : Raw} (hs : St H w σ) (hr : RRawC H cs r) (hin : r.In) :
    Cl Try.prog 94 [.agg cs.toArray] w fun u w' => ∃ H1, HLe H H1 ∧ RAsk H1 u (madeQ r) ∧ St H1 w' σ := by
  obtain ⟨vh, vl, vw, rfl, h1, h2, h3⟩ := hr
  obtain ⟨ah, ch, rfl⟩ := RI.shape h1
  obtain ⟨al, cl, e2⟩ := h2.shape
  obtain ⟨aw, cw, rfl⟩ := RI.shape h3
  rw [List.length_map] at e2
  subst e2
  have i1 := hin.hull.1
  have i2 := hin.ws.1
  have i3 := hin.lims
  have eN : 1 + (r.hull.length : Int) % 5 = (mN r : Int) := by unfold mN; omega
  have hN := mN_bd r
  refine Cl.of Try.func94 rfl Try.ntmps94 (by simp) (args_cons (k := 0) rfl (args0)) ?_
  refine .regSeq ?_
  refine .o (.box hs rfl rfl ?_); intro b1 w hs
  refine .o (.alloc hs Try.zeroValue34 rfl ?_); intro b2 w hs
  refine .nil ?_
  refine .regSeq ?_
  first | refine .q hs (q_fa0 rfl fa_moorsomref09_Raw_0) ?_ | refine .q hs (q_fa rfl fa_moorsomref09_Raw_0) ?_
  first | refine .q hs (q_load rfl Try.isAgg22) ?_ | refine .q hs (q_loadR rfl Try.isAgg22 (by assumption)) ?_
  first | refine .q hs (q_len rfl Try.runUnderlying22) ?_ | refine .q hs (q_lenR (by assumption) rfl Try.runUnderlying22) ?_ | refine .q hs (q_lenI (by assumption) rfl Try.runUnderlying22) ?_
  refine .o (.call Try.call129 rfl (ref09_mod_spec hs (by decide)) ?_); rintro _ w ⟨rfl, hs⟩
  first | refine .q hs (q_addF rfl rfl (by omega)) ?_ | refine .q hs (q_addU rfl rfl ⟨by omega, by omega⟩) ?_ | refine .q hs (q_add rfl rfl) ?_
  rw [eN]
  refine .q hs (q_assign rfl) ?_
  refine .nil ?_
  refine .regSeq ?_
  refine .o (.buildSlice (cells := [_]) hs bls_sl_int_1 rfl rfl ?_); intro b18 w hs
  refine .q hs (q_assign rfl) ?_
  refine .nil ?_
  refine .regSeq ?_
  first | refine .q hs (q_fa0 rfl fa_moorsomref09_Raw_3) ?_ | refine .q hs (q_fa rfl fa_moorsomref09_Raw_3) ?_
  first | refine .q hs (q_load rfl Try.isAgg3) ?_ | refine .q hs (q_loadR rfl Try.isAgg3 (by assumption)) ?_
  refine .o (.call Try.call129 rfl (ref09_mod_spec hs (by decide)) ?_); rintro _ w ⟨rfl, hs⟩
  refine .o (.buildSlice (cells := [_]) hs bls_sl_int_1 rfl rfl ?_); intro b22 w hs
  refine .q hs (q_build (cells := [_, _, _, _]) bld_api_Ask rfl) ?_
  refine .o (.alloc hs Try.zeroValue34 rfl ?_); intro b5 w hs
  refine .o (.stores (vs := [_, _, _, _]) hs rfl rfl Try.sizeOf34 ?_); intro w hs
  refine .nil ?_
  refine .regSeq ?_
  refine .q hs (q_move rfl) ?_
  first | refine .q hs (q_fa0 rfl fa_api_Ask_0) ?_ | refine .q hs (q_fa rfl fa_api_Ask_0) ?_
  first | refine .q hs (q_fa0 rfl fa_api_System_0) ?_ | refine .q hs (q_fa rfl fa_api_System_0) ?_
  refine .o (.store hs rfl rfl Try.sizeOf3 ?_); intro w hs
  refine .nil ?_
  refine .seq ?_
  refine .regSeq ?_
  refine .q hs (q_assign rfl) ?_
  refine .nil ?_
  refine .block ?_
  refine .loop (fun p : Nat × Value => ⟨149, [], [(6, I (p.1 : Int)), (4, p.2), (3, I (mN r : Int)), (1, .pointer (some ⟨b1, 0, none⟩)), (2, .pointer (some ⟨b2, 0, none⟩)), (5, .pointer (some ⟨b5, 0, none⟩))]⟩)
    (fun p w => p.1 ≤ mN r ∧ ∃ vl vw en4 enl enw, OwnS 1 p.2 (Is (mHull r p.1)) en4 ∧ OwnS 4 vl (Lims (baseLims r p.1)) enl ∧ OwnS 1 vw (Is (mWs r p.1)) enw ∧
      St H w (.blk b5 [I (mN r : Int), vl, vw, I (r.width % 400)] :: .blk b1 [.slice ah r.hull.length ch, .slice al r.lims.length cl, .slice aw r.ws.length cw, I r.width] :: .blk b2 [I 0, .slice none 0 0, .slice none 0 0, I 0] :: en4 :: enl :: enw :: σ))
    (fun p => mN r - p.1) (0, .slice (some ⟨b18, 0, none⟩) 1 1) (by repeat (first | exact .nil rfl rfl | refine .cons rfl ?_))
    ⟨by omega, _, _, _, _, _, .full rfl, .nil 4 none, .full rfl, hs.nul.sub (by repeat (first | exact Sub.refl _ | constructor | apply Sub.weaken))⟩ ?_
  rintro ⟨k, v4⟩ w ⟨hk, vl, vw, en4, enl, enw, hO4, hOl, hOw, hs⟩
  dsimp only at hk hO4 hOl hOw ⊢
  obtain ⟨a4, l4, c4, rfl, h4⟩ := hO4.shape
  obtain ⟨al2, ll2, cl2, rfl, hl2⟩ := hOl.shape
  obtain ⟨aw2, lw2, cw2, rfl, hw2⟩ := hOw.shape
  refine .seq ?_
  refine .regSeq ?_
  refine .q hs (q_move rfl) ?_
  refine .q hs (q_move rfl) ?_
  refine .q hs (q_lss rfl rfl) ?_
  refine .nil ?_
  refine (.condD rfl (fun hc29 => ?_) (fun hc29 => ?_))
  · refine .skip ?_
    refine nT ?_
    refine .seq ?_
    refine .block ?_
    refine .regSeq ?_
    first | refine .q hs (q_fa0 rfl fa_moorsomref09_Raw_0) ?_ | refine .q hs (q_fa rfl fa_moorsomref09_Raw_0) ?_
    first | refine .q hs (q_load rfl Try.isAgg22) ?_ | refine .q hs (q_loadR rfl Try.isAgg22 (by assumption)) ?_
    refine .q hs (q_move rfl) ?_
    refine .o (.call Try.call130 rfl (ref09_at_spec hs h1 (by omega)) ?_); rintro _ w ⟨rfl, hs⟩
    refine .o (.call Try.call129 rfl (ref09_mod_spec hs (by decide)) ?_); rintro _ w ⟨rfl, hs⟩
    refine .q hs (q_assign rfl) ?_
    refine .nil ?_
    refine .regSeq ?_
    refine .q hs (q_move rfl) ?_
    refine .q hs (q_move rfl) ?_
    refine .o (.buildSlice (cells := [_]) hs bls_sl_int_1 rfl rfl ?_); intro b39 w hs
    refine .o (.append (ys := [I (mH r k)]) hs app_sl_int_int rfl rfl hO4 (.own .here rfl rfl) (by simp [Value.oneCell']) (fun l h => by simp [mHull] at h; omega) ?_); intro v40 en40 w hO4' hs
    refine .q hs (q_assign rfl) ?_
    refine .nil ?_
    refine .regSeq ?_
    first | refine .q hs (q_fa0 rfl fa_moorsomref09_Raw_0) ?_ | refine .q hs (q_fa rfl fa_moorsomref09_Raw_0) ?_
    first | refine .q hs (q_load rfl Try.isAgg22) ?_ | refine .q hs (q_loadR rfl Try.isAgg22 (by assumption)) ?_
    refine .q hs (q_move rfl) ?_
    refine .o (.call Try.call130 rfl (ref09_at_spec hs h1 (by omega)) ?_); rintro _ w ⟨rfl, hs⟩
    refine .q hs (q_quo rfl rfl (by omega)) ?_
    rw [i64wrap (tdiv_bd (atI_in hin.hull.2 k) (by decide))]
    refine .o (.call Try.call129 rfl (ref09_mod_spec hs (by decide)) ?_); rintro _ w ⟨rfl, hs⟩
    refine .q hs (q_assign rfl) ?_
    refine .nil ?_
    refine .regSeq ?_
    first | refine .q hs (q_fa0 rfl fa_moorsomref09_Raw_0) ?_ | refine .q hs (q_fa rfl fa_moorsomref09_Raw_0) ?_
    first | refine .q hs (q_load rfl Try.isAgg22) ?_ | refine .q hs (q_loadR rfl Try.isAgg22 (by assumption)) ?_
    refine .q hs (q_move rfl) ?_
    refine .o (.call Try.call130 rfl (ref09_at_spec hs h1 (by omega)) ?_); rintro _ w ⟨rfl, hs⟩
    refine .q hs (q_quo rfl rfl (by omega)) ?_
    rw [i64wrap (tdiv_bd (atI_in hin.hull.2 k) (by decide))]
    refine .o (.call Try.call129 rfl (ref09_mod_spec hs (by decide)) ?_); rintro _ w ⟨rfl, hs⟩
    refine .q hs (q_assign rfl) ?_
    refine .nil ?_
    refine .regSeq ?_
    first | refine .q hs (q_fa0 rfl fa_api_Ask_0) ?_ | refine .q hs (q_fa rfl fa_api_Ask_0) ?_
    first | refine .q hs (q_fa0 rfl fa_api_System_1) ?_ | refine .q hs (q_fa rfl fa_api_System_1) ?_
    first | refine .q hs (q_load rfl Try.isAgg30) ?_ | refine .q hs (q_loadR rfl Try.isAgg30 (by assumption)) ?_
    refine .q hs (q_move rfl) ?_
    first | refine .q hs (q_addF rfl rfl (by omega)) ?_ | refine .q hs (q_addU rfl rfl ⟨by omega, by omega⟩) ?_ | refine .q hs (q_add rfl rfl) ?_
    refine .q hs (q_move rfl) ?_
    refine .q hs (q_move rfl) ?_
    first | refine .q hs (q_addF rfl rfl (by omega)) ?_ | refine .q hs (q_addU rfl rfl ⟨by omega, by omega⟩) ?_ | refine .q hs (q_add rfl rfl) ?_
    refine .q hs (q_move rfl) ?_
    first | refine .q hs (q_addF rfl rfl (by omega)) ?_ | refine .q hs (q_addU rfl rfl ⟨by omega, by omega⟩) ?_ | refine .q hs (q_add rfl rfl) ?_
    refine .q hs (q_build (cells := [_, _, _, _]) bld_api_Limit rfl) ?_
    refine .q hs (q_move rfl) ?_
    first | refine .q hs (q_addF rfl rfl (by omega)) ?_ | refine .q hs (q_addU rfl rfl ⟨by omega, by omega⟩) ?_ | refine .q hs (q_add rfl rfl) ?_
    refine .q hs (q_move rfl) ?_
    refine .q hs (q_move rfl) ?_
    first | refine .q hs (q_subF rfl rfl (by omega)) ?_ | refine .q hs (q_sub rfl rfl) ?_
    refine .q hs (q_move rfl) ?_
    first | refine .q hs (q_addF rfl rfl (by omega)) ?_ | refine .q hs (q_addU rfl rfl ⟨by omega, by omega⟩) ?_ | refine .q hs (q_add rfl rfl) ?_
    refine .q hs (q_build (cells := [_, _, _, _]) bld_api_Limit rfl) ?_
    refine .o (.buildSlice (cells := Lims (baseOne r k)) hs bls_sl_api_Limit_2 rfl rfl ?_); intro b72 w hs
    refine .o (.append (ys := Lims (baseOne r k)) hs app_sl_api_Limit_api_Limit rfl rfl hOl (.own .here rfl rfl) (Lims_cell _) (fun l h => by rw [Lims_length, baseLims_length] at h; omega) ?_); intro v73 en73 w hOl' hs
    obtain ⟨a73, l73, c73, rfl, h73⟩ := hOl'.shape
    first | refine .q hs (q_fa0 rfl fa_api_Ask_0) ?_ | refine .q hs (q_fa rfl fa_api_Ask_0) ?_
    first | refine .q hs (q_fa0 rfl fa_api_System_1) ?_ | refine .q hs (q_fa rfl fa_api_System_1) ?_
    refine .o (.store hs rfl rfl Try.sizeOf30 ?_); intro w hs
    refine .nil ?_
    refine .draw mix rfl hs ?_; intro w hs
    first | refine .p (i := 0) rfl (by kernel_rfl) .none (q_fa0 rfl fa_api_Ask_1) ?_ | refine .p (i := 0) rfl (by kernel_rfl) .none (q_fa rfl fa_api_Ask_1) ?_
    first | refine .load (i := 1) hs rfl (by kernel_rfl) .none rfl Try.isAgg22 ?_ | refine .r (i := 1) hs rfl (by kernel_rfl) .none (q_loadR rfl Try.isAgg22 (by assumption)) ?_
    first | refine .p (i := 2) rfl (by kernel_rfl) .none (q_fa0 rfl fa_moorsomref09_Raw_2) ?_ | refine .p (i := 2) rfl (by kernel_rfl) .none (q_fa rfl fa_moorsomref09_Raw_2) ?_
    first | refine .load (i := 3) hs rfl (by kernel_rfl) .none rfl Try.isAgg22 ?_ | refine .r (i := 3) hs rfl (by kernel_rfl) .none (q_loadR rfl Try.isAgg22 (by assumption)) ?_
    refine .p (i := 4) rfl (by kernel_rfl) .none (q_move rfl) ?_
    refine .e1 (i := 5) (by kernel_rfl) rfl rfl .none hs ?_
    refine .call Try.call130 rfl (ref09_at_spec hs h3 (by omega)) ?_; rintro _ w ⟨rfl, hs⟩
    refine .go ?_
    refine .e1 (i := 6) (by kernel_rfl) rfl rfl .none hs ?_
    refine .call Try.call129 rfl (ref09_mod_spec hs (by decide)) ?_; rintro _ w ⟨rfl, hs⟩
    refine .go ?_
    have hb0 := Int.emod_nonneg (atI r.ws (k : Int)) (b := 13) (by decide)
    have hb1 := Int.emod_lt_of_pos (atI r.ws (k : Int)) (b := 13) (by decide)
    first | refine .p (i := 7) rfl (by kernel_rfl) .none (q_subF rfl rfl (by omega)) ?_ | refine .p (i := 7) rfl (by kernel_rfl) .none (q_sub rfl rfl) ?_
    refine .e1 (i := 8) (by kernel_rfl) rfl rfl .none hs ?_
    refine .buildSlice (cells := [_]) hs bls_sl_int_1 rfl rfl ?_; intro b84 w hs
    refine .go ?_
    refine .e1 (i := 9) (by kernel_rfl) rfl rfl .none hs ?_
    refine .append (ys := [I (atI r.ws (k : Int) % 13 - 4)]) hs app_sl_int_int rfl rfl hOw (.own .here rfl rfl) (by simp [Value.oneCell']) (fun l h => by simp [mWs] at h; omega) ?_; intro v85 en85 w hOw' hs
    obtain ⟨a85, l85, c85, rfl, h85⟩ := hOw'.shape
    refine .go ?_
    first | refine .p (i := 10) rfl (by kernel_rfl) .none (q_fa0 rfl fa_api_Ask_1) ?_ | refine .p (i := 10) rfl (by kernel_rfl) .none (q_fa rfl fa_api_Ask_1) ?_
    refine .e1 (i := 11) (by kernel_rfl) rfl rfl .none hs ?_
    refine .store hs rfl rfl Try.sizeOf22 ?_; intro w hs
    refine .go ?_
    refine .done (by kernel_rfl) hs ?_
    refine nB (nT ?_)
    refine .region ?_
    refine .q hs (q_move rfl) ?_
    first | refine .q hs (q_addF rfl rfl (by omega)) ?_ | refine .q hs (q_addU rfl rfl ⟨by omega, by omega⟩) ?_ | refine .q hs (q_add rfl rfl) ?_
    refine .q hs (q_assign rfl) ?_
    refine .nil ?_
    refine nT ?_
    have e4 : Is (mHull r k) ++ [I (mH r k)] = Is (mHull r (k + 1)) := by rw [mHull_snoc]; simp [Is]
    have ew : Is (mWs r k) ++ [I (atI r.ws (k : Int) % 13 - 4)] = Is (mWs r (k + 1)) := by rw [mWs_snoc]; simp [Is]
    rw [e4] at hO4'; rw [ew] at hOw'; rw [← Lims_append] at hOl'
    exact ⟨(k + 1, v40), .consI rfl (by push_cast; omega) (by repeat (first | exact .nil rfl rfl | refine .cons rfl ?_)), ⟨by dsimp only; omega, _, _, _, _, _, hO4', hOl', hOw', hs.sub (by repeat (first | exact Sub.refl _ | constructor | apply Sub.weaken))⟩, by dsimp only; omega⟩
  · refine .exit ?_
    refine xT (xT (xB (nT ?_)))
    refine .seq ?_
    refine .regSeq ?_
    refine .q hs (q_assign rfl) ?_
    refine .nil ?_
    refine .block ?_
    obtain rfl : k = mN r := by omega
    obtain ⟨H1, hle1, hRh, hs⟩ := hO4.publishI (by rw [mHull_length]; omega) hs (by repeat constructor)
    refine .loop (fun k : Nat => ⟨149, [], [(10, I (k : Int)), (4, .slice a4 l4 c4), (3, I (mN r : Int)), (1, .pointer (some ⟨b1, 0, none⟩)), (2, .pointer (some ⟨b2, 0, none⟩)), (5, .pointer (some ⟨b5, 0, none⟩))]⟩)
      (fun k w => k ≤ min r.lims.length 8 ∧ ∃ vl enl, OwnS 4 vl (Lims (baseLims r (mN r) ++ moreLims r k)) enl ∧
        St H1 w (.blk b5 [I (mN r : Int), vl, .slice aw2 lw2 cw2, I (r.width % 400)] :: .blk b1 [.slice ah r.hull.length ch, .slice al r.lims.length cl, .slice aw r.ws.length cw, I r.width] :: .blk b2 [I 0, .slice none 0 0, .slice none 0 0, I 0] :: enl :: enw :: σ))
      (fun k => 8 - k) 0 (by repeat (first | exact .nil rfl rfl | refine .cons rfl ?_))
      ⟨by omega, _, _, by simpa [moreLims] using hOl, hs.sub (by repeat (first | exact Sub.refl _ | constructor | apply Sub.weaken))⟩ ?_
    rintro k w ⟨hk, vl, enl, hOl, hs⟩
    obtain ⟨al2, ll2, cl2, rfl, hl2⟩ := hOl.shape
    have h2' := h2.mono hle1
    refine .seq ?_
    refine .regSeq ?_
    refine .q hs (q_move rfl) ?_
    first | refine .q hs (q_fa0 rfl fa_moorsomref09_Raw_1) ?_ | refine .q hs (q_fa rfl fa_moorsomref09_Raw_1) ?_
    first | refine .q hs (q_load rfl Try.isAgg23) ?_ | refine .q hs (q_loadR rfl Try.isAgg23 (by assumption)) ?_
    first | refine .q hs (q_len rfl Try.runUnderlying23) ?_ | refine .q hs (q_lenR (by assumption) rfl Try.runUnderlying23) ?_ | refine .q hs (q_lenI (by assumption) rfl Try.runUnderlying23) ?_
    refine .q hs (q_lss rfl rfl) ?_
    refine .q hs (q_move rfl) ?_
    refine .bifD (t' := 92) rfl (fun hb92 => ?_) (fun hb92 => ?_)
    · refine .gT rfl rfl ?_
      refine .q hs (q_move rfl) ?_
      refine .gT rfl rfl ?_
      refine .q hs (q_lss rfl rfl) ?_
      refine .q hs (q_pickT rfl rfl) ?_
      refine .nil ?_
      refine (.condD rfl (fun hc95 => ?_) (fun hc95 => ?_))
      · refine .skip ?_
        refine nT ?_
        refine .seq ?_
        refine .block ?_
        refine .regSeq ?_
        first | refine .q hs (q_fa0 rfl fa_moorsomref09_Raw_1) ?_ | refine .q hs (q_fa rfl fa_moorsomref09_Raw_1) ?_
        first | refine .q hs (q_load rfl Try.isAgg23) ?_ | refine .q hs (q_loadR rfl Try.isAgg23 (by assumption)) ?_
        refine .q hs (q_move rfl) ?_
        obtain ⟨x, hx⟩ := nth (l := r.lims) (k := k) (by omega)
        refine .ixX (enc := Tri.v) hs h2' rfl rfl Try.runUnderlying23 Try.sizeOf211 hx rfl ?_; intro b101 o101 hc101
        first | refine .q hs (q_ixA0 (k := 0) rfl rfl Try.runUnderlying211 Try.sizeOf3 rfl (by decide)) ?_ | refine .q hs (q_ixA (k := 0) rfl rfl Try.runUnderlying211 Try.sizeOf3 rfl (by decide)) ?_
        refine .q hs (q_loadR rfl Try.isAgg3 (hc101.get 0 rfl)) ?_
        refine .q hs (q_move rfl) ?_
        first | refine .q hs (q_addF rfl rfl (by omega)) ?_ | refine .q hs (q_addU rfl rfl ⟨by omega, by omega⟩) ?_ | refine .q hs (q_add rfl rfl) ?_
        refine .o (.call Try.call129 rfl (ref09_mod_spec hs (by omega)) ?_); rintro _ w ⟨rfl, hs⟩
        refine .q hs (q_assign rfl) ?_
        refine .nil ?_
        refine .regSeq ?_
        first | refine .q hs (q_fa0 rfl fa_moorsomref09_Raw_1) ?_ | refine .q hs (q_fa rfl fa_moorsomref09_Raw_1) ?_
        first | refine .q hs (q_load rfl Try.isAgg23) ?_ | refine .q hs (q_loadR rfl Try.isAgg23 (by assumption)) ?_
        refine .q hs (q_move rfl) ?_
        refine .ixX (enc := Tri.v) hs h2' rfl rfl Try.runUnderlying23 Try.sizeOf211 hx rfl ?_; intro b110 o110 hc110
        first | refine .q hs (q_ixA0 (k := 1) rfl rfl Try.runUnderlying211 Try.sizeOf3 rfl (by decide)) ?_ | refine .q hs (q_ixA (k := 1) rfl rfl Try.runUnderlying211 Try.sizeOf3 rfl (by decide)) ?_
        refine .q hs (q_loadR rfl Try.isAgg3 (hc110.get 1 rfl)) ?_
        refine .q hs (q_move rfl) ?_
        first | refine .q hs (q_addF rfl rfl (by omega)) ?_ | refine .q hs (q_addU rfl rfl ⟨by omega, by omega⟩) ?_ | refine .q hs (q_add rfl rfl) ?_
        refine .o (.call Try.call129 rfl (ref09_mod_spec hs (by omega)) ?_); rintro _ w ⟨rfl, hs⟩
        have xa0 := Int.emod_nonneg x.a (b := (mN r : Int) + 1) (by omega)
        have xa1 := Int.emod_lt_of_pos x.a (b := (mN r : Int) + 1) (by omega)
        have xb0 := Int.emod_nonneg x.b (b := (mN r : Int) + 1) (by omega)
        have xb1 := Int.emod_lt_of_pos x.b (b := (mN r : Int) + 1) (by omega)
        have xc0 := Int.emod_nonneg x.c (b := 25) (by decide)
        have xc1 := Int.emod_lt_of_pos x.c (b := 25) (by decide)
        have hha := mHull_bd r (mN r) (x.a % ((mN r : Int) + 1)).toNat
        have hhb := mHull_bd r (mN r) (x.b % ((mN r : Int) + 1)).toNat
        refine .q hs (q_assign rfl) ?_
        refine .nil ?_
        refine .regSeq ?_
        refine .q hs (q_move rfl) ?_
        refine .q hs (q_move rfl) ?_
        refine .q hs (q_neq rfl rfl) ?_
        refine .nil ?_
        refine (.condN rfl (fun hc118 => ?_) (fun hc118 => ?_))
        · refine .draw mix rfl hs ?_; intro w hs
          first | refine .p (i := 0) rfl (by kernel_rfl) .none (q_fa0 rfl fa_api_Ask_0) ?_ | refine .p (i := 0) rfl (by kernel_rfl) .none (q_fa rfl fa_api_Ask_0) ?_
          first | refine .p (i := 1) rfl (by kernel_rfl) .none (q_fa0 rfl fa_api_System_1) ?_ | refine .p (i := 1) rfl (by kernel_rfl) .none (q_fa rfl fa_api_System_1) ?_
          first | refine .load (i := 2) hs rfl (by kernel_rfl) .none rfl Try.isAgg30 ?_ | refine .r (i := 2) hs rfl (by kernel_rfl) .none (q_loadR rfl Try.isAgg30 (by assumption)) ?_
          refine .p (i := 3) rfl (by kernel_rfl) .none (q_move rfl) ?_
          refine .p (i := 4) rfl (by kernel_rfl) .none (q_move rfl) ?_
          refine .p (i := 5) rfl (by kernel_rfl) .none (q_move rfl) ?_
          refine .p (i := 6) rfl (by kernel_rfl) .none (q_move rfl) ?_
          refine .ixX (enc := fun x => [I x]) (i := 7) hs rfl (by kernel_rfl) .none hRh rfl rfl Try.runUnderlying22 Try.sizeOf3 (gi_get (l := mHull r (mN r)) (i := (x.b % ((mN r : Int) + 1)).toNat) (by rw [mHull_length]; omega)) (by omega) ?_; intro b126 o126 hc126; replace hc126 := CellsAt.one hc126
          refine .r (i := 8) hs rfl (by kernel_rfl) .none (q_loadR rfl Try.isAgg3 hc126) ?_
          refine .p (i := 9) rfl (by kernel_rfl) .none (q_move rfl) ?_
          refine .p (i := 10) rfl (by kernel_rfl) .none (q_move rfl) ?_
          refine .ixX (enc := fun x => [I x]) (i := 11) hs rfl (by kernel_rfl) .none hRh rfl rfl Try.runUnderlying22 Try.sizeOf3 (gi_get (l := mHull r (mN r)) (i := (x.a % ((mN r : Int) + 1)).toNat) (by rw [mHull_length]; omega)) (by omega) ?_; intro b130 o130 hc130; replace hc130 := CellsAt.one hc130
          refine .r (i := 12) hs rfl (by kernel_rfl) .none (q_loadR rfl Try.isAgg3 hc130) ?_
          first | refine .p (i := 13) rfl (by kernel_rfl) .none (q_subF rfl rfl (by omega)) ?_ | refine .p (i := 13) rfl (by kernel_rfl) .none (q_sub rfl rfl) ?_
          first | refine .p (i := 14) rfl (by kernel_rfl) .none (q_fa0 rfl fa_moorsomref09_Raw_1) ?_ | refine .p (i := 14) rfl (by kernel_rfl) .none (q_fa rfl fa_moorsomref09_Raw_1) ?_
          first | refine .load (i := 15) hs rfl (by kernel_rfl) .none rfl Try.isAgg23 ?_ | refine .r (i := 15) hs rfl (by kernel_rfl) .none (q_loadR rfl Try.isAgg23 (by assumption)) ?_
          refine .p (i := 16) rfl (by kernel_rfl) .none (q_move rfl) ?_
          refine .ixX (enc := Tri.v) (i := 17) hs rfl (by kernel_rfl) .none h2' rfl rfl Try.runUnderlying23 Try.sizeOf211 hx rfl ?_; intro b136 o136 hc136
          first | refine .p (i := 18) rfl (by kernel_rfl) .none (q_ixA0 (k := 2) rfl rfl Try.runUnderlying211 Try.sizeOf3 rfl (by decide)) ?_ | refine .p (i := 18) rfl (by kernel_rfl) .none (q_ixA (k := 2) rfl rfl Try.runUnderlying211 Try.sizeOf3 rfl (by decide)) ?_
          refine .r (i := 19) hs rfl (by kernel_rfl) .none (q_loadR rfl Try.isAgg3 (hc136.get 2 rfl)) ?_
          refine .p (i := 22) rfl (by kernel_rfl) .none (q_move rfl) ?_
          first | refine .p (i := 23) rfl (by kernel_rfl) .none (q_addF rfl rfl (by omega)) ?_ | refine .p (i := 23) rfl (by kernel_rfl) .none (q_addU rfl rfl ⟨by omega, by omega⟩) ?_ | refine .p (i := 23) rfl (by kernel_rfl) .none (q_add rfl rfl) ?_
          refine .e1 (i := 20) (by kernel_rfl) rfl rfl .none hs ?_
          refine .call Try.call129 rfl (ref09_mod_spec hs (by decide)) ?_; rintro _ w ⟨rfl, hs⟩
          refine .go ?_
          first | refine .p (i := 21) rfl (by kernel_rfl) .none (q_addF rfl rfl (by omega)) ?_ | refine .p (i := 21) rfl (by kernel_rfl) .none (q_addU rfl rfl ⟨by omega, by omega⟩) ?_ | refine .p (i := 21) rfl (by kernel_rfl) .none (q_add rfl rfl) ?_
          refine .p (i := 24) rfl (by kernel_rfl) .none (q_build (cells := [_, _, _, _]) bld_api_Limit rfl) ?_
          refine .e1 (i := 25) (by kernel_rfl) rfl rfl .none hs ?_
          refine .buildSlice (cells := Lim.c ⟨x.a % ((mN r : Int) + 1), x.b % ((mN r : Int) + 1), gi (mHull r (mN r)) (x.b % ((mN r : Int) + 1)).toNat - gi (mHull r (mN r)) (x.a % ((mN r : Int) + 1)).toNat + x.c % 25, 20 + k⟩) hs bls_sl_api_Limit_1 rfl rfl ?_; intro b144 w hs
          refine .go ?_
          refine .e1 (i := 26) (by kernel_rfl) rfl rfl .none hs ?_
          refine .append (ys := Lim.c ⟨x.a % ((mN r : Int) + 1), x.b % ((mN r : Int) + 1), gi (mHull r (mN r)) (x.b % ((mN r : Int) + 1)).toNat - gi (mHull r (mN r)) (x.a % ((mN r : Int) + 1)).toNat + x.c % 25, 20 + k⟩) hs app_sl_api_Limit_api_Limit rfl rfl hOl (.own .here rfl rfl) (by simp [Lim.c, Value.oneCell']) (fun l h => by have := moreLims_length r k; rw [Lims_length, List.length_append, baseLims_length] at h; omega) ?_; intro v145 en145 w hOl' hs
          obtain ⟨a145, l145, c145, rfl, h145⟩ := hOl'.shape
          refine .go ?_
          first | refine .p (i := 27) rfl (by kernel_rfl) .none (q_fa0 rfl fa_api_Ask_0) ?_ | refine .p (i := 27) rfl (by kernel_rfl) .none (q_fa rfl fa_api_Ask_0) ?_
          first | refine .p (i := 28) rfl (by kernel_rfl) .none (q_fa0 rfl fa_api_System_1) ?_ | refine .p (i := 28) rfl (by kernel_rfl) .none (q_fa rfl fa_api_System_1) ?_
          refine .e1 (i := 29) (by kernel_rfl) rfl rfl .none hs ?_
          refine .store hs rfl rfl Try.sizeOf30 ?_; intro w hs
          refine .go ?_
          refine .done (by kernel_rfl) hs ?_
          refine nB (nT ?_)
          refine .region ?_
          refine .q hs (q_move rfl) ?_
          first | refine .q hs (q_addF rfl rfl (by omega)) ?_ | refine .q hs (q_addU rfl rfl ⟨by omega, by omega⟩) ?_ | refine .q hs (q_add rfl rfl) ?_
          refine .q hs (q_assign rfl) ?_
          refine .nil ?_
          refine nT ?_
          rw [← Lims_one, ← Lims_append, List.append_assoc, show moreLims r k ++ [_] = moreLims r (k + 1) by rw [moreLims_succ hx]; unfold moreOne; rw [if_neg hc118]] at hOl'
          exact ⟨k + 1, .consI rfl (by push_cast; omega) (by repeat (first | exact .nil rfl rfl | refine .cons rfl ?_)), ⟨by omega, _, _, hOl', hs.sub (by repeat (first | exact Sub.refl _ | constructor | apply Sub.weaken))⟩, by omega⟩
        · refine .skip ?_
          refine nB (nT ?_)
          refine .region ?_
          refine .q hs (q_move rfl) ?_
          first | refine .q hs (q_addF rfl rfl (by omega)) ?_ | refine .q hs (q_addU rfl rfl ⟨by omega, by omega⟩) ?_ | refine .q hs (q_add rfl rfl) ?_
          refine .q hs (q_assign rfl) ?_
          refine .nil ?_
          refine nT ?_
          rw [show moreLims r k = moreLims r (k + 1) by rw [moreLims_succ hx]; unfold moreOne; rw [if_pos hc118]; simp] at hOl
          exact ⟨k + 1, .consI rfl (by push_cast; omega) (by repeat (first | exact .nil rfl rfl | refine .cons rfl ?_)), ⟨by omega, _, _, hOl, hs.sub (by repeat (first | exact Sub.refl _ | constructor | apply Sub.weaken))⟩, by omega⟩
      · refine .exit ?_
        refine xT (xT (xB (nT ?_)))
        refine .regSeq ?_
        first | refine .q hs (q_loads (vs := [_, _, _, _]) rfl Try.isAgg34 Try.sizeOf34) ?_ | refine .q hs (q_loadsR (vs := [_, _, _, _]) rfl Try.isAgg34 Try.sizeOf34 (by assumption)) ?_
        refine .o (.stores (vs := [_, _, _, _]) hs rfl rfl Try.sizeOf34 ?_); intro w hs
        refine .nil ?_
        refine .ret ?_
        obtain rfl : k = min r.lims.length 8 := by omega
        obtain ⟨H2, g1, g2, hs⟩ := OwnS.publish (cs := (madeQ r).sys.lims.map Lim.c) hOl (fun c hc => by simp only [List.mem_map] at hc; obtain ⟨x, _, rfl⟩ := hc; rfl) (by omega) (by have := (madeQ_made r).lims; rw [List.length_map]; omega) hs (by repeat constructor)
        obtain ⟨H3, g3, g4, hs⟩ := hOw.publishI (by rw [mWs_length]; omega) hs (by repeat constructor)
        exact Fin.retD [] [] hs fun w hs => ⟨_, results1 Try.results94 (rcells (vs := [_, _, _, _]) hs rfl Try.isAgg34 Try.sizeOf34), H3, hle1.trans (g1.trans g3), ⟨_, _, rfl, RS.mono g2 g3, g4⟩, hs.out⟩
    · refine .gFs 2 5 true rfl rfl rfl ?_
      refine .q hs (q_pickF rfl rfl) ?_
      refine .nil ?_
      refine (.condF rfl rfl ?_)
      refine .exit ?_
      refine xT (xT (xB (nT ?_)))
      refine .regSeq ?_
      first | refine .q hs (q_loads (vs := [_, _, _, _]) rfl Try.isAgg34 Try.sizeOf34) ?_ | refine .q hs (q_loadsR (vs := [_, _, _, _]) rfl Try.isAgg34 Try.sizeOf34 (by assumption)) ?_
      refine .o (.stores (vs := [_, _, _, _]) hs rfl rfl Try.sizeOf34 ?_); intro w hs
      refine .nil ?_
      refine .ret ?_
      obtain rfl : k = min r.lims.length 8 := by omega
      obtain ⟨H2, g1, g2, hs⟩ := OwnS.publish (cs := (madeQ r).sys.lims.map Lim.c) hOl (fun c hc => by simp only [List.mem_map] at hc; obtain ⟨x, _, rfl⟩ := hc; rfl) (by omega) (by have := (madeQ_made r).lims; rw [List.length_map]; omega) hs (by repeat constructor)
      obtain ⟨H3, g3, g4, hs⟩ := hOw.publishI (by rw [mWs_length]; omega) hs (by repeat constructor)
      exact Fin.retD [] [] hs fun w hs => ⟨_, results1 Try.results94 (rcells (vs := [_, _, _, _]) hs rfl Try.isAgg34 Try.sizeOf34), H3, hle1.trans (g1.trans g3), ⟨_, _, rfl, RS.mono g2 g3, g4⟩, hs.out⟩
end Go.Proofs.Ytiiokdeehlfeeaa

/-
  Walks: made questions with their probes; the statement ProbeMore.
-/
namespace Go.Proofs.Ytiiokdeehlfeeaa
open Go.MW
theorem ref09_Probes_spec {H : Heap} {w : World} {σ : List Ent} {v vl : Value} {a : Quest} {l : List Two} {most : Nat} (hs : St H w σ) (hr : RAsk H v a) (hl : RS H 2 vl (l.map Two.v)) (hm : 1 ≤ a.sys.many ∧ a.sys.many ≤ 1000) (h8 : most ≤ 100) :
    Cl Try.prog 95 [v, vl, I (most : Int)] w fun u w' => ∃ H1, HLe H H1 ∧ RPs H1 u (prbsOf a.sys.many l most) ∧ St H1 w' σ := by
  obtain ⟨ul, uw, rfl, h1, h2⟩ := hr
  obtain ⟨al, cl, e2⟩ := hl.shape
  rw [List.length_map] at e2
  subst e2
  refine Cl.of Try.func95 rfl Try.ntmps95 (by simp) (args_cons (k := 0) rfl (args_cons (k := 1) rfl (args_cons (k := 2) rfl (args0)))) ?_
  refine .regSeq ?_
  refine .o (.box hs rfl rfl ?_); intro b3 w hs
  refine .q hs (q_assign rfl) ?_
  refine .nil ?_
  refine .regSeq ?_
  refine .q hs (q_assign rfl) ?_
  refine .nil ?_
  refine .seq ?_
  refine .regSeq ?_
  refine .q hs (q_assign rfl) ?_
  refine .nil ?_
  refine .block ?_
  refine .loop (fun p : Nat × Value => ⟨41, [], [(8, I (p.1 : Int)), (7, p.2), (1, .slice al l.length cl), (2, I (most : Int)), (3, .pointer (some ⟨b3, 0, none⟩))]⟩)
    (fun p w => p.1 ≤ min most l.length ∧ ∃ en, OwnS 2 p.2 (Prbs (prbsOf a.sys.many l p.1)) en ∧ St H w (en :: .blk b3 [I a.sys.many, ul, uw, I a.width] :: σ))
    (fun p => 100 - p.1) (0, .slice none 0 0) (by repeat (first | exact .nil rfl rfl | refine .cons rfl ?_))
    ⟨by omega, _, .nil 2 none, hs.nul⟩ ?_
  rintro ⟨k, v7⟩ w ⟨hk, en, hO, hs⟩
  dsimp only at hk hO ⊢
  refine .seq ?_
  refine .regSeq ?_
  refine .q hs (q_move rfl) ?_
  refine .q hs (q_move rfl) ?_
  first | refine .q hs (q_len rfl Try.runUnderlying26) ?_ | refine .q hs (q_lenR (by assumption) rfl Try.runUnderlying26) ?_ | refine .q hs (q_lenI (by assumption) rfl Try.runUnderlying26) ?_
  refine .q hs (q_lss rfl rfl) ?_
  refine .q hs (q_move rfl) ?_
  refine .bifD (t' := 13) rfl (fun hb13 => ?_) (fun hb13 => ?_)
  · refine .gT rfl rfl ?_
    refine .q hs (q_move rfl) ?_
    refine .gT rfl rfl ?_
    refine .q hs (q_move rfl) ?_
    refine .gT rfl rfl ?_
    refine .q hs (q_lss rfl rfl) ?_
    refine .q hs (q_pickT rfl rfl) ?_
    refine .nil ?_
    refine (.condD rfl (fun hc17 => ?_) (fun hc17 => ?_))
    · refine .skip ?_
      refine nT ?_
      refine .seq ?_
      refine .block ?_
      refine .draw mix rfl hs ?_; intro w hs
      refine .p (i := 0) rfl (by kernel_rfl) .none (q_move rfl) ?_
      refine .p (i := 1) rfl (by kernel_rfl) .none (q_move rfl) ?_
      refine .p (i := 2) rfl (by kernel_rfl) .none (q_move rfl) ?_
      obtain ⟨x, hx⟩ := nth (l := l) (k := k) (by omega)
      have hb0 := Int.emod_nonneg x.a (b := a.sys.many) (by omega)
      have hb1 := Int.emod_lt_of_pos x.a (b := a.sys.many) (by omega)
      refine .ixX (enc := Two.v) (i := 3) hs rfl (by kernel_rfl) .none hl rfl rfl Try.runUnderlying26 Try.sizeOf29 hx rfl ?_; intro b23 o23 hc23
      first | refine .p (i := 4) rfl (by kernel_rfl) .none (q_ixA0 (k := 0) rfl rfl Try.runUnderlying29 Try.sizeOf3 rfl (by decide)) ?_ | refine .p (i := 4) rfl (by kernel_rfl) .none (q_ixA (k := 0) rfl rfl Try.runUnderlying29 Try.sizeOf3 rfl (by decide)) ?_
      refine .r (i := 5) hs rfl (by kernel_rfl) .none (q_loadR rfl Try.isAgg3 (hc23.get 0 rfl)) ?_
      first | refine .p (i := 6) rfl (by kernel_rfl) .none (q_fa0 rfl fa_api_Ask_0) ?_ | refine .p (i := 6) rfl (by kernel_rfl) .none (q_fa rfl fa_api_Ask_0) ?_
      first | refine .p (i := 7) rfl (by kernel_rfl) .none (q_fa0 rfl fa_api_System_0) ?_ | refine .p (i := 7) rfl (by kernel_rfl) .none (q_fa rfl fa_api_System_0) ?_
      first | refine .load (i := 8) hs rfl (by kernel_rfl) .none rfl Try.isAgg3 ?_ | refine .r (i := 8) hs rfl (by kernel_rfl) .none (q_loadR rfl Try.isAgg3 (by assumption)) ?_
      refine .p (i := 11) rfl (by kernel_rfl) .none (q_move rfl) ?_
      refine .p (i := 12) rfl (by kernel_rfl) .none (q_move rfl) ?_
      refine .ixX (enc := Two.v) (i := 13) hs rfl (by kernel_rfl) .none hl rfl rfl Try.runUnderlying26 Try.sizeOf29 hx rfl ?_; intro b33 o33 hc33
      first | refine .p (i := 14) rfl (by kernel_rfl) .none (q_ixA0 (k := 1) rfl rfl Try.runUnderlying29 Try.sizeOf3 rfl (by decide)) ?_ | refine .p (i := 14) rfl (by kernel_rfl) .none (q_ixA (k := 1) rfl rfl Try.runUnderlying29 Try.sizeOf3 rfl (by decide)) ?_
      refine .r (i := 15) hs rfl (by kernel_rfl) .none (q_loadR rfl Try.isAgg3 (hc33.get 1 rfl)) ?_
      refine .e1 (i := 9) (by kernel_rfl) rfl rfl .none hs ?_
      refine .call Try.call129 rfl (ref09_mod_spec hs (by omega)) ?_; rintro _ w ⟨rfl, hs⟩
      refine .go ?_
      first | refine .p (i := 10) rfl (by kernel_rfl) .none (q_addF rfl rfl (by omega)) ?_ | refine .p (i := 10) rfl (by kernel_rfl) .none (q_addU rfl rfl ⟨by omega, by omega⟩) ?_ | refine .p (i := 10) rfl (by kernel_rfl) .none (q_add rfl rfl) ?_
      refine .e1 (i := 16) (by kernel_rfl) rfl rfl .none hs ?_
      refine .call Try.call129 rfl (ref09_mod_spec hs (by decide)) ?_; rintro _ w ⟨rfl, hs⟩
      refine .go ?_
      refine .p (i := 17) rfl (by kernel_rfl) .none (q_build (cells := [_, _]) bld_api_Probe rfl) ?_
      refine .e1 (i := 18) (by kernel_rfl) rfl rfl .none hs ?_
      refine .buildSlice (cells := (prbOf a.sys.many x).c) hs bls_sl_api_Probe_1 rfl rfl ?_; intro b38 w hs
      refine .go ?_
      refine .e1 (i := 19) (by kernel_rfl) rfl rfl .none hs ?_
      refine .append (ys := (prbOf a.sys.many x).c) hs app_sl_api_Probe_api_Probe rfl rfl hO (.own .here rfl rfl) (by simp [Prb.c, Value.oneCell']) (fun l' h => by rw [Prbs_length, prbsOf_len] at h; omega) ?_; intro v39 en39 w hO' hs
      refine .go ?_
      refine .p (i := 20) rfl (by kernel_rfl) .none (q_assign rfl) ?_
      refine .done (by kernel_rfl) hs ?_
      refine nB (nT ?_)
      refine .region ?_
      refine .q hs (q_move rfl) ?_
      first | refine .q hs (q_addF rfl rfl (by omega)) ?_ | refine .q hs (q_addU rfl rfl ⟨by omega, by omega⟩) ?_ | refine .q hs (q_add rfl rfl) ?_
      refine .q hs (q_assign rfl) ?_
      refine .nil ?_
      refine nT ?_
      exact ⟨(k + 1, v39), .consI rfl (by push_cast; omega) (by repeat (first | exact .nil rfl rfl | refine .cons rfl ?_)), ⟨by dsimp only; omega, en39, by rw [prbsOf_snoc hx, Prbs_append]; simpa [Prbs] using hO', hs.sub (by repeat (first | exact Sub.refl _ | constructor | apply Sub.weaken))⟩, by dsimp only; omega⟩
    · refine .exit ?_
      refine xT (xT (xB (nT ?_)))
      refine .regSeq ?_
      refine .q hs (q_move rfl) ?_
      refine .q hs (q_assign rfl) ?_
      refine .nil ?_
      refine .ret (Fin.ret1 Try.results95 rfl ?_)
      have e : prbsOf a.sys.many l k = prbsOf a.sys.many l most := by
        unfold prbsOf
        congr 1
        by_cases h : most ≤ l.length
        · rw [show k = most by omega]
        · rw [List.take_of_length_le (by omega), List.take_of_length_le (by omega)]
      rw [e] at hO
      obtain ⟨H2, g1, g2, hs⟩ := OwnS.publish (cs := (prbsOf a.sys.many l most).map Prb.c) hO (fun c hc => by simp only [List.mem_map] at hc; obtain ⟨x, _, rfl⟩ := hc; rfl) (by omega) (by rw [List.length_map, prbsOf_len]; omega) hs (by repeat constructor)
      exact ⟨H2, g1, g2, hs.out⟩
  · refine .gFs 3 4 true rfl rfl rfl ?_
    refine .q hs (q_pickF rfl rfl) ?_
    refine .nil ?_
    refine (.condF rfl rfl ?_)
    refine .exit ?_
    refine xT (xT (xB (nT ?_)))
    refine .regSeq ?_
    refine .q hs (q_move rfl) ?_
    refine .q hs (q_assign rfl) ?_
    refine .nil ?_
    refine .ret (Fin.ret1 Try.results95 rfl ?_)
    have e : prbsOf a.sys.many l k = prbsOf a.sys.many l most := by
      unfold prbsOf
      congr 1
      by_cases h : most ≤ l.length
      · rw [show k = most by omega]
      · rw [List.take_of_length_le (by omega), List.take_of_length_le (by omega)]
    rw [e] at hO
    obtain ⟨H2, g1, g2, hs⟩ := OwnS.publish (cs := (prbsOf a.sys.many l most).map Prb.c) hO (fun c hc => by simp only [List.mem_map] at hc; obtain ⟨x, _, rfl⟩ := hc; rfl) (by omega) (by rw [List.length_map, prbsOf_len]; omega) hs (by repeat constructor)
    exact ⟨H2, g1, g2, hs.out⟩
theorem law09_made_spec {H : Heap} {w : World} {σ : List Ent} {cs : List Value} {c : Case} {most : Nat} (hs : St H w σ) (hr : RCase H cs c) (hin : c.raw.In) (h8 : most ≤ 100) :
    Cl Try.prog 22 [.agg cs.toArray, I (most : Int)] w fun u w' => ∃ H1 va vl, HLe H H1 ∧ u = .tuple #[va, vl] ∧ RAsk H1 va (madeQ c.raw) ∧ RPs H1 vl (prbsOf (mN c.raw) c.prbs most) ∧ St H1 w' σ := by
  obtain ⟨rs, vp, rfl, hrr, hp⟩ := hr
  have hrr' := hrr
  obtain ⟨vh, vl, vw, rfl, h1, h2, h3⟩ := hrr'
  have hN := mN_bd c.raw
  refine Cl.of Try.func22 rfl Try.ntmps22 (by simp) (args_cons (k := 0) rfl (args_cons (k := 1) rfl (args0))) ?_
  refine .regSeq ?_
  refine .o (.box hs rfl rfl ?_); intro b2 w hs
  refine .o (.alloc hs Try.zeroValue34 rfl ?_); intro b4 w hs
  refine .q hs (q_assign rfl) ?_
  refine .nil ?_
  refine .regSeq ?_
  first | refine .q hs (q_fa0 rfl fa_moorsomlaw09_Case_0) ?_ | refine .q hs (q_fa rfl fa_moorsomlaw09_Case_0) ?_
  first | refine .q hs (q_loads (vs := [_, _, _, _]) rfl Try.isAgg25 Try.sizeOf25) ?_ | refine .q hs (q_loadsR (vs := [_, _, _, _]) rfl Try.isAgg25 Try.sizeOf25 (by assumption)) ?_
  refine .o (.call Try.call94 rfl (ref09_Made_spec hs hrr hin) ?_); rintro _ w ⟨H1, hle1, ⟨ul, uw, rfl, g1, g2⟩, hs⟩
  obtain ⟨aul, cul, rfl⟩ := RL.shape g1
  obtain ⟨auw, cuw, rfl⟩ := RI.shape g2
  refine .o (.alloc hs Try.zeroValue34 rfl ?_); intro b6 w hs
  refine .o (.stores (vs := [_, _, _, _]) hs rfl rfl Try.sizeOf34 ?_); intro w hs
  refine .nil ?_
  refine .seq (.draw mix rfl hs ?_); intro w hs
  first | refine .loads (i := 0) (vs := [_, _, _, _]) hs rfl (by kernel_rfl) .none rfl Try.isAgg34 Try.sizeOf34 ?_ | refine .r (i := 0) hs rfl (by kernel_rfl) .none (q_loadsR (vs := [_, _, _, _]) rfl Try.isAgg34 Try.sizeOf34 (by assumption)) ?_
  first | refine .loads (i := 1) (vs := [_, _, _, _]) hs rfl (by kernel_rfl) .none rfl Try.isAgg34 Try.sizeOf34 ?_ | refine .r (i := 1) hs rfl (by kernel_rfl) .none (q_loadsR (vs := [_, _, _, _]) rfl Try.isAgg34 Try.sizeOf34 (by assumption)) ?_
  first | refine .p (i := 2) rfl (by kernel_rfl) .none (q_fa0 rfl fa_moorsomlaw09_Case_1) ?_ | refine .p (i := 2) rfl (by kernel_rfl) .none (q_fa rfl fa_moorsomlaw09_Case_1) ?_
  first | refine .load (i := 3) hs rfl (by kernel_rfl) .none rfl Try.isAgg26 ?_ | refine .r (i := 3) hs rfl (by kernel_rfl) .none (q_loadR rfl Try.isAgg26 (by assumption)) ?_
  refine .p (i := 4) rfl (by kernel_rfl) .none (q_move rfl) ?_
  refine .e1 (i := 5) (by kernel_rfl) rfl rfl .none hs ?_
  refine .call Try.call95 rfl (ref09_Probes_spec (a := madeQ c.raw) hs ⟨_, _, rfl, g1, g2⟩ (hp.mono hle1) (by show (1 : Int) ≤ (mN c.raw : Int) ∧ (mN c.raw : Int) ≤ 1000; omega) h8) ?_; rintro _ w ⟨H2, hle2, hP, hs⟩
  refine .go ?_
  refine .e1 (i := 6) (by kernel_rfl) rfl rfl .none hs ?_
  refine .stores (vs := [_, _, _, _]) hs rfl rfl Try.sizeOf34 ?_; intro w hs
  refine .go ?_
  refine .p (i := 7) rfl (by kernel_rfl) .none (q_assign rfl) ?_
  refine .done (by kernel_rfl) hs ?_
  refine .ret ?_
  exact Fin.retD [] [] hs fun w hs => ⟨_, results2 Try.results22 (rcells (vs := [_, _, _, _]) hs rfl Try.isAgg34 Try.sizeOf34) rfl, H2, _, _, hle1.trans hle2, rfl, ⟨_, _, rfl, g1.mono hle2, g2.mono hle2⟩, hP, hs.out⟩
end Go.Proofs.Ytiiokdeehlfeeaa
