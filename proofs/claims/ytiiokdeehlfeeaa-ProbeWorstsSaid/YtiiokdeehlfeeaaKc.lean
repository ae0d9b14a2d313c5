/-
  Texts of this claim, joined: Wo Wp.
-/
import Derived.Test.YtiiokdeehlfeeaaKn
import Derived.Test.YtiiokdeehlfeeaaKb
/-
  Walks: the example of layer 9; equal lists.
-/
namespace Go.Proofs.Ytiiokdeehlfeeaa
open Go.MW
theorem ref02_Same_spec {H : Heap} {w : World} {σ : List Ent} {va vb : Value} {A B : List Int} (hs : St H w σ) (hA : RI H va A) (hB : RI H vb B) :
    Cl Try.prog 31 [va, vb] w fun v w' => v = .bool (decide (A = B)) ∧ St H w' σ := by
  obtain ⟨aA, cA, rfl⟩ := RI.shape hA
  obtain ⟨aB, cB, rfl⟩ := RI.shape hB
  have hlA := (RI.len hA).2.2
  have hlB := (RI.len hB).2.2
  refine Cl.of Try.func31 rfl Try.ntmps31 (by simp) (args_cons (k := 0) rfl (args_cons (k := 1) rfl (args0))) ?_
  refine .regSeq ?_
  refine .q hs (q_assign rfl) ?_
  refine .nil ?_
  refine .seq ?_
  refine .regSeq ?_
  refine .q hs (q_move rfl) ?_
  first | refine .q hs (q_len rfl Try.runUnderlying22) ?_ | refine .q hs (q_lenR (by assumption) rfl Try.runUnderlying22) ?_ | refine .q hs (q_lenI (by assumption) rfl Try.runUnderlying22) ?_
  refine .q hs (q_move rfl) ?_
  first | refine .q hs (q_len rfl Try.runUnderlying22) ?_ | refine .q hs (q_lenR (by assumption) rfl Try.runUnderlying22) ?_ | refine .q hs (q_lenI (by assumption) rfl Try.runUnderlying22) ?_
  refine .q hs (q_neq rfl rfl) ?_
  refine .nil ?_
  refine (.condN rfl (fun hc10 => ?_) (fun hc10 => ?_))
  · refine .regSeq ?_
    refine .q hs (q_assign rfl) ?_
    refine .nil ?_
    refine .ret (rT (Fin.ret1 Try.results31 rfl ?_))
    exact ⟨by rw [decide_eq_false (by intro h; subst h; exact hc10 rfl)], hs⟩
  · refine .skip ?_
    refine nT ?_
    refine .seq ?_
    refine .regSeq ?_
    refine .q hs (q_move rfl) ?_
    first | refine .q hs (q_len rfl Try.runUnderlying22) ?_ | refine .q hs (q_lenR (by assumption) rfl Try.runUnderlying22) ?_ | refine .q hs (q_lenI (by assumption) rfl Try.runUnderlying22) ?_
    refine .q hs (q_move rfl) ?_
    refine .nil ?_
    refine .for (N := A.length) (J := fun k fr w => fr = [(0, .slice aA A.length cA), (1, .slice aB B.length cB)] ∧ (∀ j < k, A[j]? = B[j]?) ∧ St H w σ) (by omega) ?_ ?_ ?_
    · exact .mk ⟨rfl, fun j h => by omega, hs⟩
    · rintro k fr w hk ⟨rfl, h0, hs⟩
      obtain ⟨xA, hxA⟩ := nth hk
      obtain ⟨xB, hxB⟩ := nth (l := B) (k := k) (by omega)
      refine .block ?_
      refine .regSeq ?_
      refine .q hs (q_move rfl) ?_
      refine .q hs (q_assign rfl) ?_
      refine .nil ?_
      refine .seq (.draw mix rfl hs ?_); intro w hs
      refine .p (i := 0) rfl (by kernel_rfl) .none (q_move rfl) ?_
      refine .p (i := 1) rfl (by kernel_rfl) .none (q_move rfl) ?_
      refine .ixX (enc := fun x => [I x]) (i := 2) hs rfl (by kernel_rfl) .none hA rfl rfl Try.runUnderlying22 Try.sizeOf3 hxA rfl ?_; intro b18 o18 hc18; replace hc18 := CellsAt.one hc18
      refine .r (i := 3) hs rfl (by kernel_rfl) .none (q_loadR rfl Try.isAgg3 hc18) ?_
      refine .p (i := 4) rfl (by kernel_rfl) .none (q_move rfl) ?_
      refine .p (i := 5) rfl (by kernel_rfl) .none (q_move rfl) ?_
      refine .ixX (enc := fun x => [I x]) (i := 6) hs rfl (by kernel_rfl) .none hB rfl rfl Try.runUnderlying22 Try.sizeOf3 hxB rfl ?_; intro b22 o22 hc22; replace hc22 := CellsAt.one hc22
      refine .r (i := 7) hs rfl (by kernel_rfl) .none (q_loadR rfl Try.isAgg3 hc22) ?_
      refine .p (i := 8) rfl (by kernel_rfl) .none (q_neq rfl rfl) ?_
      refine .done (by kernel_rfl) hs ?_
      refine (.condN rfl (fun hc24 => ?_) (fun hc24 => ?_))
      · refine .regSeq ?_
        refine .q hs (q_assign rfl) ?_
        refine .nil ?_
        refine .ret (rB (rT (rB (rT (Fin.ret1 Try.results31 rfl ?_)))))
        exact ⟨by rw [decide_eq_false (by intro h; subst h; rw [hxA] at hxB; cases hxB; exact hc24 rfl)], hs⟩
      · refine .skip ?_
        refine nB (nT ?_)
        exact .mk ⟨rfl, fun j hj => by
          by_cases e : j = k
          · subst e; rw [hxA, hxB, hc24]
          · exact h0 j (by omega), hs⟩
    · rintro fr w ⟨rfl, h0, hs⟩
      refine nT ?_
      refine .regSeq ?_
      refine .q hs (q_assign rfl) ?_
      refine .nil ?_
      refine .ret (Fin.ret1 Try.results31 rfl ?_)
      exact ⟨by rw [decide_eq_true (List.ext_getElem? fun j => by
        by_cases e : j < A.length
        · exact h0 j e
        · rw [List.getElem?_eq_none (by omega), List.getElem?_eq_none (by omega)])], hs⟩
theorem law09_example_spec {H : Heap} {w : World} {σ : List Ent} (hs : St H w σ) : Cl Try.prog 101 [] w fun v w' => ∃ H1, HLe H H1 ∧ RAsk H1 v exQ ∧ St H1 w' σ := by
  refine Cl.of Try.func101 rfl Try.ntmps101 (by simp) (args0) ?_
  refine .regSeq ?_
  refine .o (.alloc hs Try.zeroValue34 rfl ?_); intro b0 w hs
  refine .nil ?_
  refine .regSeq ?_
  refine .q hs (q_build (cells := [_, _, _, _]) bld_api_Limit rfl) ?_
  refine .q hs (q_build (cells := [_, _, _, _]) bld_api_Limit rfl) ?_
  refine .q hs (q_build (cells := [_, _, _, _]) bld_api_Limit rfl) ?_
  refine .q hs (q_build (cells := [_, _, _, _]) bld_api_Limit rfl) ?_
  refine .o (.buildSlice (cells := Lims exS.lims) hs bls_sl_api_Limit_4 rfl (by kernel_rfl) ?_); intro b6 w hs
  refine .q hs (q_build (cells := [_, _]) bld_api_System rfl) ?_
  refine .o (.alloc hs Try.zeroValue32 rfl ?_); intro b1 w hs
  refine .o (.stores (vs := [_, _]) hs rfl rfl Try.sizeOf32 ?_); intro w hs
  refine .nil ?_
  refine .regSeq ?_
  first | refine .q hs (q_loads (vs := [_, _]) rfl Try.isAgg32 Try.sizeOf32) ?_ | refine .q hs (q_loadsR (vs := [_, _]) rfl Try.isAgg32 Try.sizeOf32 (by assumption)) ?_
  refine .o (.buildSlice (cells := Is [0, 1, 1]) hs bls_sl_int_3 rfl (by kernel_rfl) ?_); intro b9 w hs
  refine .q hs (q_build (cells := [_, _, _, _]) bld_api_Ask rfl) ?_
  refine .o (.stores (vs := [_, _, _, _]) hs rfl rfl Try.sizeOf34 ?_); intro w hs
  refine .nil ?_
  refine .ret ?_
  obtain ⟨H1, g1, r1, hs⟩ := OwnS.publish (m := 4) (v := .slice (some ⟨b6, 0, none⟩) 4 4) (cs := exS.lims.map Lim.c) (.full rfl) (by decide) (by decide) (by decide) hs (by repeat constructor)
  obtain ⟨H2, g2, r2, hs⟩ := OwnS.publishI (v := .slice (some ⟨b9, 0, none⟩) 3 3) (xs := [0, 1, 1]) (.full rfl) (by decide) hs (by repeat constructor)
  exact Fin.retD [] [] hs fun w hs => ⟨_, results1 Try.results101 (rcells (vs := [_, _, _, _]) hs rfl Try.isAgg34 Try.sizeOf34), H2, g1.trans g2, ⟨_, _, rfl, RS.mono r1 g2, r2⟩, hs.out⟩
theorem law09_three_spec {H : Heap} {w : World} {σ : List Ent} (hs : St H w σ) : Cl Try.prog 102 [] w fun v w' => ∃ H1 b, HLe H H1 ∧ v = .slice (some ⟨b, 0, none⟩) 3 3 ∧ RPs H1 v exL ∧ St H1 w' σ := by
  refine Cl.of Try.func102 rfl Try.ntmps102 (by simp) (args0) ?_
  refine .regSeq ?_
  refine .q hs (q_assign rfl) ?_
  refine .nil ?_
  refine .regSeq ?_
  refine .q hs (q_build (cells := [_, _]) bld_api_Probe rfl) ?_
  refine .q hs (q_build (cells := [_, _]) bld_api_Probe rfl) ?_
  refine .q hs (q_build (cells := [_, _]) bld_api_Probe rfl) ?_
  refine .o (.buildSlice (cells := Prbs exL) hs bls_sl_api_Probe_3 rfl (by kernel_rfl) ?_); intro b4 w hs
  refine .q hs (q_assign rfl) ?_
  refine .nil ?_
  refine .ret (Fin.ret1 Try.results102 rfl ?_)
  obtain ⟨H1, g1, r1, hs⟩ := OwnS.publish (m := 2) (v := .slice (some ⟨b4, 0, none⟩) 3 3) (cs := exL.map Prb.c) (.full rfl) (by decide) (by decide) (by decide) hs (by repeat constructor)
  exact ⟨H1, b4, g1, rfl, r1, hs⟩
theorem ex_few {p : Pck} {e : Int} (h : FewP exQ exL p e) : e = 0 ∧ p.probes = [0] ∧ p.width = 7 := by
  rcases h with ⟨-, -, h⟩ | ⟨rfl, k, h1, h2, h3, h4, h5, h6⟩
  · have := h [0] (by decide) 7 ex_worst1
    exact absurd this (by decide)
  · match k, h1, h6 with
    | 0, h1, h6 =>
      have e1 : p.probes = [] := by have : (choicesL exL.length)[0]? = some [] := by decide
                                    rw [this] at h1; exact (Option.some.inj h1).symm
      rw [e1] at h2
      have h7 := ex_worst0 h2.1
      have h8 : exQ.width = 8 := rfl
      omega
    | 1, h1, _ =>
      have e1 : p.probes = [0] := by have : (choicesL exL.length)[1]? = some [0] := by decide
                                     rw [this] at h1; exact (Option.some.inj h1).symm
      rw [e1] at h2
      exact ⟨rfl, e1, h2.1.uniq ex_worst1⟩
    | k + 2, _, h6 =>
      have := (h6 1 [0] (by omega) (by decide)).1 7 ex_worst1
      exact absurd this (by decide)
theorem ex_shown {l : List Prb} {n e : Int} {us : List Use} (hl : ∀ p ∈ l, p ∈ exL) (hn : l.length ≤ 8) (h : (CPrbR exQ l e ∧ e ≠ 0 ∧ n = 0 ∧ us = []) ∨ (CPrbR exQ l 0 ∧ e = 0 ∧ ShownR exQ l n us)) : e = 0 ∧ PairS exQ l n := by
  rcases h with ⟨h1, h2, _⟩ | ⟨_, h1, h2⟩
  · exact (h2 (h1.uniq (ex_prbs hl hn))).elim
  · exact ⟨h1, h2.1⟩
theorem law09_sane_spec {H : Heap} {w : World} {σ : List Ent} (hs : St H w σ) : Cl Try.prog 26 [] w fun v w' => v = .bool true ∧ ∃ H1, HLe H H1 ∧ St H1 w' σ := by
  refine Cl.of Try.func26 rfl Try.ntmps26 (by simp) (args0) ?_
  refine .regSeq ?_
  refine .q hs (q_assign rfl) ?_
  refine .nil ?_
  refine .regSeq ?_
  refine .o (.call Try.call101 rfl (law09_example_spec hs) ?_); rintro _ w ⟨H1, hle1, ⟨ul, uw, rfl, hl, hw⟩, hs⟩
  obtain ⟨al, cl, rfl⟩ := RL.shape hl; obtain ⟨aw, cw, rfl⟩ := RI.shape hw
  refine .o (.alloc hs Try.zeroValue34 rfl ?_); intro b1 w hs
  refine .o (.stores (vs := [_, _, _, _]) hs rfl rfl Try.sizeOf34 ?_); intro w hs
  refine .nil ?_
  refine .regSeq ?_
  first | refine .q hs (q_loads (vs := [_, _, _, _]) rfl Try.isAgg34 Try.sizeOf34) ?_ | refine .q hs (q_loadsR (vs := [_, _, _, _]) rfl Try.isAgg34 Try.sizeOf34 (by assumption)) ?_
  refine .o (.call Try.call24 rfl (probe_Width_spec (a := exQ) hs ⟨_, _, rfl, hl, hw⟩) ?_); rintro _ w ⟨H2, n, e, hle2, rfl, hW, hs⟩
  obtain ⟨rfl, rfl⟩ : n = 23 ∧ e = 0 := by
    rcases hW with ⟨h1, h2, _⟩ | ⟨_, rfl, lo, hi, h3, rfl⟩
    · exact (h2 (h1.uniq (CAskR.zero.2 exQ_ok))).elim
    · obtain ⟨rfl, rfl, _⟩ := h3.uniq ex_range; exact ⟨rfl, rfl⟩
  replace hl := hl.mono hle2; replace hw := hw.mono hle2
  refine .q hs (q_move rfl) ?_
  refine .q hs (q_extract rfl rfl) ?_
  refine .q hs (q_extract rfl rfl) ?_
  refine .q hs (q_assign rfl) ?_
  refine .q hs (q_assign rfl) ?_
  refine .nil ?_
  refine .cut (fun fs w => ∃ H3, FSub fs ⟨116, [], [(1, .pointer (some ⟨b1, 0, none⟩)), (2, I 23), (3, I 0), (4, I 7), (6, I 0)]⟩ ∧ HLe H2 H3 ∧ St H3 w (.blk b1 [I exQ.sys.many, .slice al exQ.sys.lims.length cl, .slice aw exQ.ws.length cw, I exQ.width] :: σ)) ?_ ?_
  · refine .draw mix rfl hs ?_; intro w hs
    first | refine .loads (i := 0) (vs := [_, _, _, _]) hs rfl (by kernel_rfl) .none rfl Try.isAgg34 Try.sizeOf34 ?_ | refine .r (i := 0) hs rfl (by kernel_rfl) .none (q_loadsR (vs := [_, _, _, _]) rfl Try.isAgg34 Try.sizeOf34 (by assumption)) ?_
    refine .e2 (i := 1) (j := 8) (by kernel_rfl) rfl rfl rfl rfl .none .none hs ?_ ?_  -- UP: 1: CALL F<moorsomlaw09.three>(), 8: alloc <api.Proof>
    · refine .call Try.call102 rfl (law09_three_spec hs) ?_; rintro _ w ⟨H3, bt, hle3, rfl, hR, hs⟩
      refine .go ?_
      refine .p (i := 2) rfl (by kernel_rfl) .none (q_sliceHM (hi := 1) (mx := 1) rfl rfl rfl Try.runUnderlying35 Try.sizeOf48 (by omega) (by omega)) ?_
      refine .e2 (i := 3) (j := 8) (by kernel_rfl) rfl rfl rfl rfl .none .none hs ?_ ?_  -- UP: 3: CALL F<probe.Worst>(t24, t26), 8: alloc <api.Proof>
      · refine .call Try.call23 rfl (probe_Worst_spec (a := exQ) hs ⟨_, _, rfl, hl.mono hle3, hw.mono hle3⟩ (ex_first hR)) ?_; rintro _ w ⟨H4, _, n, us, e, hle4, rfl, ⟨vu, rfl, hU⟩, hcase, hs⟩
        obtain ⟨rfl, hPS⟩ := ex_shown (by simp [exL]) (by decide) hcase
        obtain rfl := hPS.uniq ex_worst1
        obtain ⟨au, cu, rfl⟩ := RU.shape hU
        refine .go ?_
        refine .p (i := 4) rfl (by kernel_rfl) .none (q_move rfl) ?_
        refine .p (i := 5) rfl (by kernel_rfl) .none (q_extract rfl rfl) ?_
        refine .p (i := 6) rfl (by kernel_rfl) .none (q_extract rfl rfl) ?_
        refine .p (i := 7) rfl (by kernel_rfl) .none (q_extract rfl rfl) ?_
        refine .e1 (i := 8) (by kernel_rfl) rfl rfl .none hs ?_
        refine .alloc hs Try.zeroValue40 rfl ?_; intro b5 w hs
        refine .go ?_
        refine .p (i := 9) rfl (by kernel_rfl) .none (q_assign rfl) ?_
        refine .e1 (i := 10) (by kernel_rfl) rfl rfl .none hs ?_
        refine .stores (vs := [_, _]) hs rfl rfl Try.sizeOf40 ?_; intro w hs
        refine .go ?_
        refine .p (i := 11) rfl (by kernel_rfl) .none (q_assign rfl) ?_
        refine .done (by kernel_rfl) hs ?_
        exact nT ⟨H4, by repeat (first | exact .nil rfl rfl | refine .cons rfl ?_), hle3.trans hle4, hs.sub (by repeat (first | exact Sub.refl _ | constructor | apply Sub.weaken))⟩
      · refine .alloc hs Try.zeroValue40 rfl ?_; intro b5 w hs
        refine .go ?_
        refine .e1 (i := 3) (by kernel_rfl) rfl rfl .none hs ?_
        refine .call Try.call23 rfl (probe_Worst_spec (a := exQ) hs ⟨_, _, rfl, hl.mono hle3, hw.mono hle3⟩ (ex_first hR)) ?_; rintro _ w ⟨H4, _, n, us, e, hle4, rfl, ⟨vu, rfl, hU⟩, hcase, hs⟩
        obtain ⟨rfl, hPS⟩ := ex_shown (by simp [exL]) (by decide) hcase
        obtain rfl := hPS.uniq ex_worst1
        obtain ⟨au, cu, rfl⟩ := RU.shape hU
        refine .go ?_
        refine .p (i := 4) rfl (by kernel_rfl) .none (q_move rfl) ?_
        refine .p (i := 5) rfl (by kernel_rfl) .none (q_extract rfl rfl) ?_
        refine .p (i := 6) rfl (by kernel_rfl) .none (q_extract rfl rfl) ?_
        refine .p (i := 7) rfl (by kernel_rfl) .none (q_extract rfl rfl) ?_
        refine .p (i := 9) rfl (by kernel_rfl) .none (q_assign rfl) ?_
        refine .e1 (i := 10) (by kernel_rfl) rfl rfl .none hs ?_
        refine .stores (vs := [_, _]) hs rfl rfl Try.sizeOf40 ?_; intro w hs
        refine .go ?_
        refine .p (i := 11) rfl (by kernel_rfl) .none (q_assign rfl) ?_
        refine .done (by kernel_rfl) hs ?_
        exact nT ⟨H4, by repeat (first | exact .nil rfl rfl | refine .cons rfl ?_), hle3.trans hle4, hs.sub (by repeat (first | exact Sub.refl _ | constructor | apply Sub.weaken))⟩
    · refine .alloc hs Try.zeroValue40 rfl ?_; intro b5 w hs
      refine .go ?_
      refine .e1 (i := 1) (by kernel_rfl) rfl rfl .none hs ?_
      refine .call Try.call102 rfl (law09_three_spec hs) ?_; rintro _ w ⟨H3, bt, hle3, rfl, hR, hs⟩
      refine .go ?_
      refine .p (i := 2) rfl (by kernel_rfl) .none (q_sliceHM (hi := 1) (mx := 1) rfl rfl rfl Try.runUnderlying35 Try.sizeOf48 (by omega) (by omega)) ?_
      refine .e1 (i := 3) (by kernel_rfl) rfl rfl .none hs ?_
      refine .call Try.call23 rfl (probe_Worst_spec (a := exQ) hs ⟨_, _, rfl, hl.mono hle3, hw.mono hle3⟩ (ex_first hR)) ?_; rintro _ w ⟨H4, _, n, us, e, hle4, rfl, ⟨vu, rfl, hU⟩, hcase, hs⟩
      obtain ⟨rfl, hPS⟩ := ex_shown (by simp [exL]) (by decide) hcase
      obtain rfl := hPS.uniq ex_worst1
      obtain ⟨au, cu, rfl⟩ := RU.shape hU
      refine .go ?_
      refine .p (i := 4) rfl (by kernel_rfl) .none (q_move rfl) ?_
      refine .p (i := 5) rfl (by kernel_rfl) .none (q_extract rfl rfl) ?_
      refine .p (i := 6) rfl (by kernel_rfl) .none (q_extract rfl rfl) ?_
      refine .p (i := 7) rfl (by kernel_rfl) .none (q_extract rfl rfl) ?_
      refine .p (i := 9) rfl (by kernel_rfl) .none (q_assign rfl) ?_
      refine .e1 (i := 10) (by kernel_rfl) rfl rfl .none hs ?_
      refine .stores (vs := [_, _]) hs rfl rfl Try.sizeOf40 ?_; intro w hs
      refine .go ?_
      refine .p (i := 11) rfl (by kernel_rfl) .none (q_assign rfl) ?_
      refine .done (by kernel_rfl) hs ?_
      exact nT ⟨H4, by repeat (first | exact .nil rfl rfl | refine .cons rfl ?_), hle3.trans hle4, hs.sub (by repeat (first | exact Sub.refl _ | constructor | apply Sub.weaken))⟩
  · rintro fs w ⟨H3, hfs, hle3, hs⟩
    refine WE.sub ?_ hfs
    replace hl := hl.mono hle3; replace hw := hw.mono hle3
    refine .regSeq ?_
    first | refine .q hs (q_loads (vs := [_, _, _, _]) rfl Try.isAgg34 Try.sizeOf34) ?_ | refine .q hs (q_loadsR (vs := [_, _, _, _]) rfl Try.isAgg34 Try.sizeOf34 (by assumption)) ?_
    refine .q hs (q_build (cells := [_, _]) bld_api_Probe rfl) ?_
    refine .o (.buildSlice (cells := Prbs [⟨2, 0⟩]) hs bls_sl_api_Probe_1 rfl (by kernel_rfl) ?_); intro b34 w hs
    obtain ⟨H4, hle4, r4, hs⟩ := OwnS.publish (m := 2) (v := .slice (some ⟨b34, 0, none⟩) 1 1) (cs := [(⟨2, 0⟩ : Prb)].map Prb.c) (.full rfl) (by decide) (by decide) (by decide) hs (by repeat constructor)
    refine .o (.call Try.call23 rfl (probe_Worst_spec (a := exQ) (l := [⟨2, 0⟩]) hs ⟨_, _, rfl, hl.mono hle4, hw.mono hle4⟩ r4) ?_); rintro _ w ⟨H5, _, n, us, e, hle5, rfl, ⟨vu, rfl, hU⟩, hcase, hs⟩
    obtain ⟨rfl, hPS⟩ := ex_shown (by simp [exL]) (by decide) hcase
    obtain rfl := hPS.uniq ex_worst3
    obtain ⟨au, cu, rfl⟩ := RU.shape hU
    replace hl := hl.mono (hle4.trans hle5); replace hw := hw.mono (hle4.trans hle5)
    refine .q hs (q_move rfl) ?_
    refine .q hs (q_extract rfl rfl) ?_
    refine .q hs (q_extract rfl rfl) ?_
    refine .q hs (q_extract rfl rfl) ?_
    refine .o (.alloc hs Try.zeroValue40 rfl ?_); intro b8 w hs
    refine .q hs (q_assign rfl) ?_
    refine .o (.stores (vs := [_, _]) hs rfl rfl Try.sizeOf40 ?_); intro w hs
    refine .q hs (q_assign rfl) ?_
    refine .nil ?_
    refine .cut (fun fs w => ∃ H6 b10 ap lp cp, FSub fs ⟨116, [], [(1, .pointer (some ⟨b1, 0, none⟩)), (2, I 23), (3, I 0), (4, I 7), (6, I 0), (7, I 3), (9, I 0), (10, .pointer (some ⟨b10, 0, none⟩)), (11, I 0)]⟩ ∧ HLe H5 H6 ∧ RI H6 (.slice ap lp cp) [0] ∧ ∃ bd vu vf, St H6 w (.blk b10 [.slice ap lp cp, I 7, bd, vu, vf] :: .blk b1 [I exQ.sys.many, .slice al exQ.sys.lims.length cl, .slice aw exQ.ws.length cw, I exQ.width] :: σ)) ?_ ?_
    · refine .draw mix rfl hs ?_; intro w hs
      first | refine .loads (i := 0) (vs := [_, _, _, _]) hs rfl (by kernel_rfl) .none rfl Try.isAgg34 Try.sizeOf34 ?_ | refine .r (i := 0) hs rfl (by kernel_rfl) .none (q_loadsR (vs := [_, _, _, _]) rfl Try.isAgg34 Try.sizeOf34 (by assumption)) ?_
      refine .e2 (i := 1) (j := 6) (by kernel_rfl) rfl rfl rfl rfl .none .none hs ?_ ?_  -- UP: 1: CALL F<moorsomlaw09.three>(), 6: alloc <api.Pick>
      · refine .call Try.call102 rfl (law09_three_spec hs) ?_; rintro _ w ⟨H6, bt, hle6, rfl, hR, hs⟩
        refine .go ?_
        refine .e2 (i := 2) (j := 6) (by kernel_rfl) rfl rfl rfl rfl .none .none hs ?_ ?_  -- UP: 2: CALL F<probe.Fewest>(t40, t41), 6: alloc <api.Pick>
        · refine .call Try.call103 rfl (probe_Fewest_spec (a := exQ) hs ⟨_, _, rfl, hl.mono hle6, hw.mono hle6⟩ hR) ?_; rintro _ w ⟨H7, _, p, e, hle7, rfl, ⟨vp, vu, vf, css, rfl, k1, k2, k3, k4⟩, hcase, hs⟩
          obtain ⟨rfl, hp1, hp2⟩ : e = 0 ∧ p.probes = [0] ∧ p.width = 7 := by
            rcases hcase with ⟨h1, h2, _⟩ | ⟨_, h⟩
            · exact (h2 (h1.uniq (ex_prbs (fun _ h => h) (by decide)))).elim
            · exact ex_few h
          rw [hp1] at k1
          rw [hp2] at *
          obtain ⟨ap, cp, rfl⟩ := RI.shape k1; obtain ⟨au, cu, rfl⟩ := RU.shape k2; obtain ⟨af, cf, rfl⟩ := RS.shape k3
          refine .go ?_
          refine .p (i := 3) rfl (by kernel_rfl) .none (q_move rfl) ?_
          refine .p (i := 4) rfl (by kernel_rfl) .none (q_extract rfl rfl) ?_
          refine .p (i := 5) rfl (by kernel_rfl) .none (q_extract rfl rfl) ?_
          refine .e1 (i := 6) (by kernel_rfl) rfl rfl .none hs ?_
          refine .alloc hs Try.zeroValue140 rfl ?_; intro b10 w hs
          refine .go ?_
          refine .e1 (i := 7) (by kernel_rfl) rfl rfl .none hs ?_
          refine .stores (vs := [_, _, _, _, _]) hs rfl rfl Try.sizeOf140 ?_; intro w hs
          refine .go ?_
          refine .p (i := 8) rfl (by kernel_rfl) .none (q_assign rfl) ?_
          refine .done (by kernel_rfl) hs ?_
          exact nT ⟨H7, _, _, _, _, by repeat (first | exact .nil rfl rfl | refine .cons rfl ?_), hle6.trans hle7, k1, _, _, _, hs.sub (by repeat (first | exact Sub.refl _ | constructor | apply Sub.weaken))⟩
        · refine .alloc hs Try.zeroValue140 rfl ?_; intro b10 w hs
          refine .go ?_
          refine .e1 (i := 2) (by kernel_rfl) rfl rfl .none hs ?_
          refine .call Try.call103 rfl (probe_Fewest_spec (a := exQ) hs ⟨_, _, rfl, hl.mono hle6, hw.mono hle6⟩ hR) ?_; rintro _ w ⟨H7, _, p, e, hle7, rfl, ⟨vp, vu, vf, css, rfl, k1, k2, k3, k4⟩, hcase, hs⟩
          obtain ⟨rfl, hp1, hp2⟩ : e = 0 ∧ p.probes = [0] ∧ p.width = 7 := by
            rcases hcase with ⟨h1, h2, _⟩ | ⟨_, h⟩
            · exact (h2 (h1.uniq (ex_prbs (fun _ h => h) (by decide)))).elim
            · exact ex_few h
          rw [hp1] at k1
          rw [hp2] at *
          obtain ⟨ap, cp, rfl⟩ := RI.shape k1; obtain ⟨au, cu, rfl⟩ := RU.shape k2; obtain ⟨af, cf, rfl⟩ := RS.shape k3
          refine .go ?_
          refine .p (i := 3) rfl (by kernel_rfl) .none (q_move rfl) ?_
          refine .p (i := 4) rfl (by kernel_rfl) .none (q_extract rfl rfl) ?_
          refine .p (i := 5) rfl (by kernel_rfl) .none (q_extract rfl rfl) ?_
          refine .e1 (i := 7) (by kernel_rfl) rfl rfl .none hs ?_
          refine .stores (vs := [_, _, _, _, _]) hs rfl rfl Try.sizeOf140 ?_; intro w hs
          refine .go ?_
          refine .p (i := 8) rfl (by kernel_rfl) .none (q_assign rfl) ?_
          refine .done (by kernel_rfl) hs ?_
          exact nT ⟨H7, _, _, _, _, by repeat (first | exact .nil rfl rfl | refine .cons rfl ?_), hle6.trans hle7, k1, _, _, _, hs.sub (by repeat (first | exact Sub.refl _ | constructor | apply Sub.weaken))⟩
      · refine .alloc hs Try.zeroValue140 rfl ?_; intro b10 w hs
        refine .go ?_
        refine .e1 (i := 1) (by kernel_rfl) rfl rfl .none hs ?_
        refine .call Try.call102 rfl (law09_three_spec hs) ?_; rintro _ w ⟨H6, bt, hle6, rfl, hR, hs⟩
        refine .go ?_
        refine .e1 (i := 2) (by kernel_rfl) rfl rfl .none hs ?_
        refine .call Try.call103 rfl (probe_Fewest_spec (a := exQ) hs ⟨_, _, rfl, hl.mono hle6, hw.mono hle6⟩ hR) ?_; rintro _ w ⟨H7, _, p, e, hle7, rfl, ⟨vp, vu, vf, css, rfl, k1, k2, k3, k4⟩, hcase, hs⟩
        obtain ⟨rfl, hp1, hp2⟩ : e = 0 ∧ p.probes = [0] ∧ p.width = 7 := by
          rcases hcase with ⟨h1, h2, _⟩ | ⟨_, h⟩
          · exact (h2 (h1.uniq (ex_prbs (fun _ h => h) (by decide)))).elim
          · exact ex_few h
        rw [hp1] at k1
        rw [hp2] at *
        obtain ⟨ap, cp, rfl⟩ := RI.shape k1; obtain ⟨au, cu, rfl⟩ := RU.shape k2; obtain ⟨af, cf, rfl⟩ := RS.shape k3
        refine .go ?_
        refine .p (i := 3) rfl (by kernel_rfl) .none (q_move rfl) ?_
        refine .p (i := 4) rfl (by kernel_rfl) .none (q_extract rfl rfl) ?_
        refine .p (i := 5) rfl (by kernel_rfl) .none (q_extract rfl rfl) ?_
        refine .e1 (i := 7) (by kernel_rfl) rfl rfl .none hs ?_
        refine .stores (vs := [_, _, _, _, _]) hs rfl rfl Try.sizeOf140 ?_; intro w hs
        refine .go ?_
        refine .p (i := 8) rfl (by kernel_rfl) .none (q_assign rfl) ?_
        refine .done (by kernel_rfl) hs ?_
        exact nT ⟨H7, _, _, _, _, by repeat (first | exact .nil rfl rfl | refine .cons rfl ?_), hle6.trans hle7, k1, _, _, _, hs.sub (by repeat (first | exact Sub.refl _ | constructor | apply Sub.weaken))⟩
    · rintro fs w ⟨H6, b10, ap, lp, cp, hfs, hle6, hk1, bd, vu, vf, hs⟩
      refine WE.sub ?_ hfs
      replace hl := hl.mono hle6; replace hw := hw.mono hle6
      refine .regSeq ?_
      refine .o (.call Try.call102 rfl (law09_three_spec hs) ?_); rintro _ w ⟨H7, bt, hle7, rfl, hR, hs⟩
      refine .q hs (q_sliceHM (hi := 1) (mx := 1) rfl rfl rfl Try.runUnderlying35 Try.sizeOf48 (by omega) (by omega)) ?_
      refine .o (.buildSlice (cells := Is [0, 4, 4]) hs bls_sl_int_3 rfl (by kernel_rfl) ?_); intro b48 w hs
      refine .o (.buildSlice (cells := Is [0, 6, 9]) hs bls_sl_int_3 rfl (by kernel_rfl) ?_); intro b49 w hs
      obtain ⟨H8, hle8, r8, hs⟩ := OwnS.publishI (v := .slice (some ⟨b48, 0, none⟩) 3 3) (xs := [0, 4, 4]) (.full rfl) (by decide) hs (by repeat constructor)
      obtain ⟨H9, hle9, r9, hs⟩ := OwnS.publishI (v := .slice (some ⟨b49, 0, none⟩) 3 3) (xs := [0, 6, 9]) (.full rfl) (by decide) hs (by repeat constructor)
      refine .q hs (q_build (cells := [_, _]) bld_api_Twins rfl) ?_
      refine .o (.call Try.call104 rfl (probe_Meeting_spec hs ((ex_first hR).mono (hle8.trans hle9)) (r8.mono hle9) r9 (by decide)) ?_); rintro _ w ⟨H10, vo, e, hle10, rfl, rfl, hV, hs⟩
      rw [show meetErr [0, 4, 4] [0, 6, 9] [⟨1, 1⟩] = 0 by decide] at *
      replace hV : RI H10 vo [5] := by simpa [meetVals, gi] using hV
      obtain ⟨ao, co, rfl⟩ := RI.shape hV
      have hle610 := hle7.trans (hle8.trans (hle9.trans hle10))
      replace hl := hl.mono hle610; replace hw := hw.mono hle610
      refine .q hs (q_move rfl) ?_
      refine .q hs (q_extract rfl rfl) ?_
      refine .q hs (q_extract rfl rfl) ?_
      refine .o (.alloc hs Try.zeroValue71 rfl ?_); intro b12 w hs
      refine .o (.stores (vs := [_]) hs rfl rfl Try.sizeOf71 ?_); intro w hs
      refine .q hs (q_assign rfl) ?_
      refine .nil ?_
      refine .seq (.draw mix rfl hs ?_); intro w hs
      first | refine .loads (i := 0) (vs := [_, _, _, _]) hs rfl (by kernel_rfl) .none rfl Try.isAgg34 Try.sizeOf34 ?_ | refine .r (i := 0) hs rfl (by kernel_rfl) .none (q_loadsR (vs := [_, _, _, _]) rfl Try.isAgg34 Try.sizeOf34 (by assumption)) ?_
      refine .e1 (i := 1) (by kernel_rfl) rfl rfl .none hs ?_
      refine .call Try.call102 rfl (law09_three_spec hs) ?_; rintro _ w ⟨H11, bt2, hle11, rfl, hR, hs⟩
      refine .go ?_
      refine .e1 (i := 2) (by kernel_rfl) rfl rfl .none hs ?_
      refine .call Try.call105 rfl (probe_Best_spec (a := exQ) hs ⟨_, _, rfl, hl.mono hle11, hw.mono hle11⟩ hR) ?_; rintro _ w ⟨H12, x, e, hle12, rfl, hcase, hs⟩
      obtain ⟨rfl, rfl⟩ : x = 2 ∧ e = 0 := by
        rcases hcase with ⟨h1, h2, _⟩ | ⟨_, h⟩
        · exact (h2 (h1.uniq (ex_prbs (fun _ h => h) (by decide)))).elim
        · exact ex_bestP h
      have hle612 := hle610.trans (hle11.trans hle12)
      refine .go ?_
      refine .p (i := 3) rfl (by kernel_rfl) .none (q_move rfl) ?_
      refine .p (i := 4) rfl (by kernel_rfl) .none (q_extract rfl rfl) ?_
      refine .p (i := 5) rfl (by kernel_rfl) .none (q_extract rfl rfl) ?_
      refine .p (i := 6) rfl (by kernel_rfl) .none (q_assign rfl) ?_
      refine .p (i := 7) rfl (by kernel_rfl) .none (q_assign rfl) ?_
      refine .done (by kernel_rfl) hs ?_
      refine .regSeq ?_
      refine .q hs (q_move rfl) ?_
      refine .q hs (q_eql rfl rfl) ?_
      refine .q hs (q_move rfl) ?_
      refine .bifD (t' := 62) rfl (fun hb62 => ?_) (fun hb62 => ?_)
      · refine .gT rfl rfl ?_
        refine .q hs (q_move rfl) ?_
        refine .gT rfl rfl ?_
        refine .q hs (q_eql rfl rfl) ?_
        refine .q hs (q_pickT rfl rfl) ?_
        refine .q hs (q_move rfl) ?_
        refine .bifD (t' := 66) rfl (fun hb66 => ?_) (fun hb66 => ?_)
        · refine .gT rfl rfl ?_
          refine .q hs (q_move rfl) ?_
          refine .gT rfl rfl ?_
          refine .q hs (q_eql rfl rfl) ?_
          refine .q hs (q_pickT rfl rfl) ?_
          refine .q hs (q_move rfl) ?_
          refine .bifD (t' := 70) rfl (fun hb70 => ?_) (fun hb70 => ?_)
          · refine .gT rfl rfl ?_
            refine .q hs (q_move rfl) ?_
            refine .gT rfl rfl ?_
            refine .q hs (q_eql rfl rfl) ?_
            refine .q hs (q_pickT rfl rfl) ?_
            refine .q hs (q_move rfl) ?_
            refine .bifD (t' := 74) rfl (fun hb74 => ?_) (fun hb74 => ?_)
            · refine .gT rfl rfl ?_
              refine .q hs (q_move rfl) ?_
              refine .gT rfl rfl ?_
              refine .q hs (q_eql rfl rfl) ?_
              refine .q hs (q_pickT rfl rfl) ?_
              refine .q hs (q_move rfl) ?_
              refine .bifD (t' := 78) rfl (fun hb78 => ?_) (fun hb78 => ?_)
              · refine .gT rfl rfl ?_
                refine .q hs (q_move rfl) ?_
                refine .gT rfl rfl ?_
                refine .q hs (q_eql rfl rfl) ?_
                refine .q hs (q_pickT rfl rfl) ?_
                refine .q hs (q_assign rfl) ?_
                refine .nil ?_
                refine .regSeq ?_
                refine .q hs (q_move rfl) ?_
                refine .q hs (q_move rfl) ?_
                refine .bifD (t' := 83) rfl (fun hb83 => ?_) (fun hb83 => ?_)
                · refine .gT rfl rfl ?_
                  refine .q hs (q_move rfl) ?_
                  refine .gT rfl rfl ?_
                  refine .q hs (q_eql rfl rfl) ?_
                  refine .q hs (q_pickT rfl rfl) ?_
                  refine .q hs (q_move rfl) ?_
                  refine .bifD (t' := 87) rfl (fun hb87 => ?_) (fun hb87 => ?_)
                  · refine .gT rfl rfl ?_
                    refine .q hs (q_move rfl) ?_
                    refine .gT rfl rfl ?_
                    refine .q hs (q_eql rfl rfl) ?_
                    refine .q hs (q_pickT rfl rfl) ?_
                    refine .q hs (q_move rfl) ?_
                    refine .bifD (t' := 91) rfl (fun hb91 => ?_) (fun hb91 => ?_)
                    · refine .gT rfl rfl ?_
                      refine .q hs (q_move rfl) ?_
                      refine .gT rfl rfl ?_
                      refine .q hs (q_eql rfl rfl) ?_
                      refine .q hs (q_pickT rfl rfl) ?_
                      refine .q hs (q_move rfl) ?_
                      refine .bifD (t' := 95) rfl (fun hb95 => ?_) (fun hb95 => ?_)
                      · refine .gT rfl rfl ?_
                        first | refine .q hs (q_fa0 rfl fa_api_Pick_1) ?_ | refine .q hs (q_fa rfl fa_api_Pick_1) ?_
                        refine .gT rfl rfl ?_
                        first | refine .q hs (q_load rfl Try.isAgg3) ?_ | refine .q hs (q_loadR rfl Try.isAgg3 (by assumption)) ?_
                        refine .gT rfl rfl ?_
                        refine .q hs (q_eql rfl rfl) ?_
                        refine .q hs (q_pickT rfl rfl) ?_
                        refine .q hs (q_move rfl) ?_
                        refine .bifD (t' := 100) rfl (fun hb100 => ?_) (fun hb100 => ?_)
                        · refine .gT rfl rfl ?_
                          first | refine .q hs (q_fa0 rfl fa_api_Pick_0) ?_ | refine .q hs (q_fa rfl fa_api_Pick_0) ?_
                          refine .gT rfl rfl ?_
                          first | refine .q hs (q_load rfl Try.isAgg22) ?_ | refine .q hs (q_loadR rfl Try.isAgg22 (by assumption)) ?_
                          refine .gT rfl rfl ?_
                          refine .o (.buildSlice (cells := [_]) hs bls_sl_int_1 rfl rfl ?_); intro b103 w hs
                          refine .gT rfl rfl ?_
                          obtain ⟨H13, hle13, r13, hs⟩ := OwnS.publishI (v := .slice (some ⟨b103, 0, none⟩) 1 1) (xs := [0]) (.full rfl) (by decide) hs (by repeat constructor)
                          refine .o (.call Try.call31 rfl (ref02_Same_spec hs (hk1.mono (hle612.trans hle13)) r13) ?_); rintro _ w ⟨rfl, hs⟩
                          refine .q hs (q_pickT rfl rfl) ?_
                          refine .q hs (q_move rfl) ?_
                          refine .bif (t' := 106) rfl (fun hb106 => ?_) (fun hb106 => ?_)
                          · refine .gT rfl rfl ?_
                            first | refine .q hs (q_fa0 rfl fa_api_Outcome_0) ?_ | refine .q hs (q_fa rfl fa_api_Outcome_0) ?_
                            refine .gT rfl rfl ?_
                            first | refine .q hs (q_load rfl Try.isAgg22) ?_ | refine .q hs (q_loadR rfl Try.isAgg22 (by assumption)) ?_
                            refine .gT rfl rfl ?_
                            refine .o (.buildSlice (cells := [_]) hs bls_sl_int_1 rfl rfl ?_); intro b109 w hs
                            refine .gT rfl rfl ?_
                            obtain ⟨H14, hle14, r14, hs⟩ := OwnS.publishI (v := .slice (some ⟨b109, 0, none⟩) 1 1) (xs := [5]) (.full rfl) (by decide) hs (by repeat constructor)
                            refine .o (.call Try.call31 rfl (ref02_Same_spec hs (hV.mono ((hle11.trans hle12).trans (hle13.trans hle14))) r14) ?_); rintro _ w ⟨rfl, hs⟩
                            refine .q hs (q_pickT rfl rfl) ?_
                            refine .q hs (q_move rfl) ?_
                            refine .bif (t' := 112) rfl (fun hb112 => ?_) (fun hb112 => ?_)
                            · refine .gT rfl rfl ?_
                              refine .q hs (q_move rfl) ?_
                              refine .gT rfl rfl ?_
                              refine .q hs (q_eql rfl rfl) ?_
                              refine .q hs (q_pickT rfl rfl) ?_
                              refine .q hs (q_assign rfl) ?_
                              refine .nil ?_
                              refine .ret (Fin.ret1 Try.results26 rfl ?_)
                              first | (exfalso; first | omega | simp_all; done) | exact ⟨rfl, H14, ((hle1.trans hle2).trans (hle3.trans (hle4.trans hle5))).trans (hle6.trans (hle612.trans (hle13.trans hle14))), hs.out⟩
                            · refine .gFs 2 30 true rfl rfl rfl ?_
                              refine .q hs (q_pickF rfl rfl) ?_
                              refine .q hs (q_assign rfl) ?_
                              refine .nil ?_
                              refine .ret (Fin.ret1 Try.results26 rfl ?_)
                              first | (exfalso; first | omega | simp_all; done) | exact ⟨rfl, H14, ((hle1.trans hle2).trans (hle3.trans (hle4.trans hle5))).trans (hle6.trans (hle612.trans (hle13.trans hle14))), hs.out⟩
                          · refine .gFs 4 24 true rfl rfl rfl ?_
                            refine .q hs (q_pickF rfl rfl) ?_
                            refine .q hs (q_move rfl) ?_
                            refine .gFs 2 30 true rfl rfl rfl ?_
                            refine .q hs (q_pickF rfl rfl) ?_
                            refine .q hs (q_assign rfl) ?_
                            refine .nil ?_
                            refine .ret (Fin.ret1 Try.results26 rfl ?_)
                            first | (exfalso; first | omega | simp_all; done) | exact ⟨rfl, H14, ((hle1.trans hle2).trans (hle3.trans (hle4.trans hle5))).trans (hle6.trans (hle612.trans (hle13.trans hle14))), hs.out⟩
                        · refine .gFs 4 18 true rfl rfl rfl ?_
                          refine .q hs (q_pickF rfl rfl) ?_
                          refine .q hs (q_move rfl) ?_
                          refine .gFs 4 24 true rfl rfl rfl ?_
                          refine .q hs (q_pickF rfl rfl) ?_
                          refine .q hs (q_move rfl) ?_
                          refine .gFs 2 30 true rfl rfl rfl ?_
                          refine .q hs (q_pickF rfl rfl) ?_
                          refine .q hs (q_assign rfl) ?_
                          refine .nil ?_
                          refine .ret (Fin.ret1 Try.results26 rfl ?_)
                          first | (exfalso; first | omega | simp_all; done) | exact ⟨rfl, H14, ((hle1.trans hle2).trans (hle3.trans (hle4.trans hle5))).trans (hle6.trans (hle612.trans (hle13.trans hle14))), hs.out⟩
                      · refine .gFs 3 13 true rfl rfl rfl ?_
                        refine .q hs (q_pickF rfl rfl) ?_
                        refine .q hs (q_move rfl) ?_
                        refine .gFs 4 18 true rfl rfl rfl ?_
                        refine .q hs (q_pickF rfl rfl) ?_
                        refine .q hs (q_move rfl) ?_
                        refine .gFs 4 24 true rfl rfl rfl ?_
                        refine .q hs (q_pickF rfl rfl) ?_
                        refine .q hs (q_move rfl) ?_
                        refine .gFs 2 30 true rfl rfl rfl ?_
                        refine .q hs (q_pickF rfl rfl) ?_
                        refine .q hs (q_assign rfl) ?_
                        refine .nil ?_
                        refine .ret (Fin.ret1 Try.results26 rfl ?_)
                        first | (exfalso; first | omega | simp_all; done) | exact ⟨rfl, H14, ((hle1.trans hle2).trans (hle3.trans (hle4.trans hle5))).trans (hle6.trans (hle612.trans (hle13.trans hle14))), hs.out⟩
                    · refine .gFs 2 9 true rfl rfl rfl ?_
                      refine .q hs (q_pickF rfl rfl) ?_
                      refine .q hs (q_move rfl) ?_
                      refine .gFs 3 13 true rfl rfl rfl ?_
                      refine .q hs (q_pickF rfl rfl) ?_
                      refine .q hs (q_move rfl) ?_
                      refine .gFs 4 18 true rfl rfl rfl ?_
                      refine .q hs (q_pickF rfl rfl) ?_
                      refine .q hs (q_move rfl) ?_
                      refine .gFs 4 24 true rfl rfl rfl ?_
                      refine .q hs (q_pickF rfl rfl) ?_
                      refine .q hs (q_move rfl) ?_
                      refine .gFs 2 30 true rfl rfl rfl ?_
                      refine .q hs (q_pickF rfl rfl) ?_
                      refine .q hs (q_assign rfl) ?_
                      refine .nil ?_
                      refine .ret (Fin.ret1 Try.results26 rfl ?_)
                      first | (exfalso; first | omega | simp_all; done) | exact ⟨rfl, H14, ((hle1.trans hle2).trans (hle3.trans (hle4.trans hle5))).trans (hle6.trans (hle612.trans (hle13.trans hle14))), hs.out⟩
                  · refine .gFs 2 5 true rfl rfl rfl ?_
                    refine .q hs (q_pickF rfl rfl) ?_
                    refine .q hs (q_move rfl) ?_
                    refine .gFs 2 9 true rfl rfl rfl ?_
                    refine .q hs (q_pickF rfl rfl) ?_
                    refine .q hs (q_move rfl) ?_
                    refine .gFs 3 13 true rfl rfl rfl ?_
                    refine .q hs (q_pickF rfl rfl) ?_
                    refine .q hs (q_move rfl) ?_
                    refine .gFs 4 18 true rfl rfl rfl ?_
                    refine .q hs (q_pickF rfl rfl) ?_
                    refine .q hs (q_move rfl) ?_
                    refine .gFs 4 24 true rfl rfl rfl ?_
                    refine .q hs (q_pickF rfl rfl) ?_
                    refine .q hs (q_move rfl) ?_
                    refine .gFs 2 30 true rfl rfl rfl ?_
                    refine .q hs (q_pickF rfl rfl) ?_
                    refine .q hs (q_assign rfl) ?_
                    refine .nil ?_
                    refine .ret (Fin.ret1 Try.results26 rfl ?_)
                    first | (exfalso; first | omega | simp_all; done) | exact ⟨rfl, H14, ((hle1.trans hle2).trans (hle3.trans (hle4.trans hle5))).trans (hle6.trans (hle612.trans (hle13.trans hle14))), hs.out⟩
                · refine .gFs 2 1 true rfl rfl rfl ?_
                  refine .q hs (q_pickF rfl rfl) ?_
                  refine .q hs (q_move rfl) ?_
                  refine .gFs 2 5 true rfl rfl rfl ?_
                  refine .q hs (q_pickF rfl rfl) ?_
                  refine .q hs (q_move rfl) ?_
                  refine .gFs 2 9 true rfl rfl rfl ?_
                  refine .q hs (q_pickF rfl rfl) ?_
                  refine .q hs (q_move rfl) ?_
                  refine .gFs 3 13 true rfl rfl rfl ?_
                  refine .q hs (q_pickF rfl rfl) ?_
                  refine .q hs (q_move rfl) ?_
                  refine .gFs 4 18 true rfl rfl rfl ?_
                  refine .q hs (q_pickF rfl rfl) ?_
                  refine .q hs (q_move rfl) ?_
                  refine .gFs 4 24 true rfl rfl rfl ?_
                  refine .q hs (q_pickF rfl rfl) ?_
                  refine .q hs (q_move rfl) ?_
                  refine .gFs 2 30 true rfl rfl rfl ?_
                  refine .q hs (q_pickF rfl rfl) ?_
                  refine .q hs (q_assign rfl) ?_
                  refine .nil ?_
                  refine .ret (Fin.ret1 Try.results26 rfl ?_)
                  first | (exfalso; first | omega | simp_all; done) | exact ⟨rfl, H14, ((hle1.trans hle2).trans (hle3.trans (hle4.trans hle5))).trans (hle6.trans (hle612.trans (hle13.trans hle14))), hs.out⟩
              · refine .gFs 2 18 true rfl rfl rfl ?_
                refine .q hs (q_pickF rfl rfl) ?_
                refine .q hs (q_assign rfl) ?_
                refine .nil ?_
                refine .regSeq ?_
                refine .q hs (q_move rfl) ?_
                refine .q hs (q_move rfl) ?_
                refine .gFs 2 1 true rfl rfl rfl ?_
                refine .q hs (q_pickF rfl rfl) ?_
                refine .q hs (q_move rfl) ?_
                refine .gFs 2 5 true rfl rfl rfl ?_
                refine .q hs (q_pickF rfl rfl) ?_
                refine .q hs (q_move rfl) ?_
                refine .gFs 2 9 true rfl rfl rfl ?_
                refine .q hs (q_pickF rfl rfl) ?_
                refine .q hs (q_move rfl) ?_
                refine .gFs 3 13 true rfl rfl rfl ?_
                refine .q hs (q_pickF rfl rfl) ?_
                refine .q hs (q_move rfl) ?_
                refine .gFs 4 18 true rfl rfl rfl ?_
                refine .q hs (q_pickF rfl rfl) ?_
                refine .q hs (q_move rfl) ?_
                refine .gFs 4 24 true rfl rfl rfl ?_
                refine .q hs (q_pickF rfl rfl) ?_
                refine .q hs (q_move rfl) ?_
                refine .gFs 2 30 true rfl rfl rfl ?_
                refine .q hs (q_pickF rfl rfl) ?_
                refine .q hs (q_assign rfl) ?_
                refine .nil ?_
                refine .ret (Fin.ret1 Try.results26 rfl ?_)
                first | (exfalso; first | omega | simp_all; done) | exact ⟨rfl, H14, ((hle1.trans hle2).trans (hle3.trans (hle4.trans hle5))).trans (hle6.trans (hle612.trans (hle13.trans hle14))), hs.out⟩
            · refine .gFs 2 14 true rfl rfl rfl ?_
              refine .q hs (q_pickF rfl rfl) ?_
              refine .q hs (q_move rfl) ?_
              refine .gFs 2 18 true rfl rfl rfl ?_
              refine .q hs (q_pickF rfl rfl) ?_
              refine .q hs (q_assign rfl) ?_
              refine .nil ?_
              refine .regSeq ?_
              refine .q hs (q_move rfl) ?_
              refine .q hs (q_move rfl) ?_
              refine .gFs 2 1 true rfl rfl rfl ?_
              refine .q hs (q_pickF rfl rfl) ?_
              refine .q hs (q_move rfl) ?_
              refine .gFs 2 5 true rfl rfl rfl ?_
              refine .q hs (q_pickF rfl rfl) ?_
              refine .q hs (q_move rfl) ?_
              refine .gFs 2 9 true rfl rfl rfl ?_
              refine .q hs (q_pickF rfl rfl) ?_
              refine .q hs (q_move rfl) ?_
              refine .gFs 3 13 true rfl rfl rfl ?_
              refine .q hs (q_pickF rfl rfl) ?_
              refine .q hs (q_move rfl) ?_
              refine .gFs 4 18 true rfl rfl rfl ?_
              refine .q hs (q_pickF rfl rfl) ?_
              refine .q hs (q_move rfl) ?_
              refine .gFs 4 24 true rfl rfl rfl ?_
              refine .q hs (q_pickF rfl rfl) ?_
              refine .q hs (q_move rfl) ?_
              refine .gFs 2 30 true rfl rfl rfl ?_
              refine .q hs (q_pickF rfl rfl) ?_
              refine .q hs (q_assign rfl) ?_
              refine .nil ?_
              refine .ret (Fin.ret1 Try.results26 rfl ?_)
              first | (exfalso; first | omega | simp_all; done) | exact ⟨rfl, H14, ((hle1.trans hle2).trans (hle3.trans (hle4.trans hle5))).trans (hle6.trans (hle612.trans (hle13.trans hle14))), hs.out⟩
          · refine .gFs 2 10 true rfl rfl rfl ?_
            refine .q hs (q_pickF rfl rfl) ?_
            refine .q hs (q_move rfl) ?_
            refine .gFs 2 14 true rfl rfl rfl ?_
            refine .q hs (q_pickF rfl rfl) ?_
            refine .q hs (q_move rfl) ?_
            refine .gFs 2 18 true rfl rfl rfl ?_
            refine .q hs (q_pickF rfl rfl) ?_
            refine .q hs (q_assign rfl) ?_
            refine .nil ?_
            refine .regSeq ?_
            refine .q hs (q_move rfl) ?_
            refine .q hs (q_move rfl) ?_
            refine .gFs 2 1 true rfl rfl rfl ?_
            refine .q hs (q_pickF rfl rfl) ?_
            refine .q hs (q_move rfl) ?_
            refine .gFs 2 5 true rfl rfl rfl ?_
            refine .q hs (q_pickF rfl rfl) ?_
            refine .q hs (q_move rfl) ?_
            refine .gFs 2 9 true rfl rfl rfl ?_
            refine .q hs (q_pickF rfl rfl) ?_
            refine .q hs (q_move rfl) ?_
            refine .gFs 3 13 true rfl rfl rfl ?_
            refine .q hs (q_pickF rfl rfl) ?_
            refine .q hs (q_move rfl) ?_
            refine .gFs 4 18 true rfl rfl rfl ?_
            refine .q hs (q_pickF rfl rfl) ?_
            refine .q hs (q_move rfl) ?_
            refine .gFs 4 24 true rfl rfl rfl ?_
            refine .q hs (q_pickF rfl rfl) ?_
            refine .q hs (q_move rfl) ?_
            refine .gFs 2 30 true rfl rfl rfl ?_
            refine .q hs (q_pickF rfl rfl) ?_
            refine .q hs (q_assign rfl) ?_
            refine .nil ?_
            refine .ret (Fin.ret1 Try.results26 rfl ?_)
            first | (exfalso; first | omega | simp_all; done) | exact ⟨rfl, H14, ((hle1.trans hle2).trans (hle3.trans (hle4.trans hle5))).trans (hle6.trans (hle612.trans (hle13.trans hle14))), hs.out⟩
        · refine .gFs 2 6 true rfl rfl rfl ?_
          refine .q hs (q_pickF rfl rfl) ?_
          refine .q hs (q_move rfl) ?_
          refine .gFs 2 10 true rfl rfl rfl ?_
          refine .q hs (q_pickF rfl rfl) ?_
          refine .q hs (q_move rfl) ?_
          refine .gFs 2 14 true rfl rfl rfl ?_
          refine .q hs (q_pickF rfl rfl) ?_
          refine .q hs (q_move rfl) ?_
          refine .gFs 2 18 true rfl rfl rfl ?_
          refine .q hs (q_pickF rfl rfl) ?_
          refine .q hs (q_assign rfl) ?_
          refine .nil ?_
          refine .regSeq ?_
          refine .q hs (q_move rfl) ?_
          refine .q hs (q_move rfl) ?_
          refine .gFs 2 1 true rfl rfl rfl ?_
          refine .q hs (q_pickF rfl rfl) ?_
          refine .q hs (q_move rfl) ?_
          refine .gFs 2 5 true rfl rfl rfl ?_
          refine .q hs (q_pickF rfl rfl) ?_
          refine .q hs (q_move rfl) ?_
          refine .gFs 2 9 true rfl rfl rfl ?_
          refine .q hs (q_pickF rfl rfl) ?_
          refine .q hs (q_move rfl) ?_
          refine .gFs 3 13 true rfl rfl rfl ?_
          refine .q hs (q_pickF rfl rfl) ?_
          refine .q hs (q_move rfl) ?_
          refine .gFs 4 18 true rfl rfl rfl ?_
          refine .q hs (q_pickF rfl rfl) ?_
          refine .q hs (q_move rfl) ?_
          refine .gFs 4 24 true rfl rfl rfl ?_
          refine .q hs (q_pickF rfl rfl) ?_
          refine .q hs (q_move rfl) ?_
          refine .gFs 2 30 true rfl rfl rfl ?_
          refine .q hs (q_pickF rfl rfl) ?_
          refine .q hs (q_assign rfl) ?_
          refine .nil ?_
          refine .ret (Fin.ret1 Try.results26 rfl ?_)
          first | (exfalso; first | omega | simp_all; done) | exact ⟨rfl, H14, ((hle1.trans hle2).trans (hle3.trans (hle4.trans hle5))).trans (hle6.trans (hle612.trans (hle13.trans hle14))), hs.out⟩
      · refine .gFs 2 2 true rfl rfl rfl ?_
        refine .q hs (q_pickF rfl rfl) ?_
        refine .q hs (q_move rfl) ?_
        refine .gFs 2 6 true rfl rfl rfl ?_
        refine .q hs (q_pickF rfl rfl) ?_
        refine .q hs (q_move rfl) ?_
        refine .gFs 2 10 true rfl rfl rfl ?_
        refine .q hs (q_pickF rfl rfl) ?_
        refine .q hs (q_move rfl) ?_
        refine .gFs 2 14 true rfl rfl rfl ?_
        refine .q hs (q_pickF rfl rfl) ?_
        refine .q hs (q_move rfl) ?_
        refine .gFs 2 18 true rfl rfl rfl ?_
        refine .q hs (q_pickF rfl rfl) ?_
        refine .q hs (q_assign rfl) ?_
        refine .nil ?_
        refine .regSeq ?_
        refine .q hs (q_move rfl) ?_
        refine .q hs (q_move rfl) ?_
        refine .gFs 2 1 true rfl rfl rfl ?_
        refine .q hs (q_pickF rfl rfl) ?_
        refine .q hs (q_move rfl) ?_
        refine .gFs 2 5 true rfl rfl rfl ?_
        refine .q hs (q_pickF rfl rfl) ?_
        refine .q hs (q_move rfl) ?_
        refine .gFs 2 9 true rfl rfl rfl ?_
        refine .q hs (q_pickF rfl rfl) ?_
        refine .q hs (q_move rfl) ?_
        refine .gFs 3 13 true rfl rfl rfl ?_
        refine .q hs (q_pickF rfl rfl) ?_
        refine .q hs (q_move rfl) ?_
        refine .gFs 4 18 true rfl rfl rfl ?_
        refine .q hs (q_pickF rfl rfl) ?_
        refine .q hs (q_move rfl) ?_
        refine .gFs 4 24 true rfl rfl rfl ?_
        refine .q hs (q_pickF rfl rfl) ?_
        refine .q hs (q_move rfl) ?_
        refine .gFs 2 30 true rfl rfl rfl ?_
        refine .q hs (q_pickF rfl rfl) ?_
        refine .q hs (q_assign rfl) ?_
        refine .nil ?_
        refine .ret (Fin.ret1 Try.results26 rfl ?_)
        first | (exfalso; first | omega | simp_all; done) | exact ⟨rfl, H14, ((hle1.trans hle2).trans (hle3.trans (hle4.trans hle5))).trans (hle6.trans (hle612.trans (hle13.trans hle14))), hs.out⟩
end Go.Proofs.Ytiiokdeehlfeeaa

/-
  Walks: how numbers make questions and probes.
-/
namespace Go.Proofs.Ytiiokdeehlfeeaa
open Go.MW
theorem rem_emod {n m : Int} (hm : 0 < m) : (n.tmod m + m).tmod m = n % m := by
  have h2 := Int.lt_tmod_of_pos n hm
  rw [Int.tmod_eq_emod_of_nonneg (by omega), Int.tmod_def, show n - m * n.tdiv m + m = n + m * (1 - n.tdiv m) by rw [Int.mul_sub]; omega, Int.add_mul_emod_self_left]
theorem ref09_mod_spec {H : Heap} {w : World} {σ : List Ent} {n m : Int} (hs : St H w σ) (hm : 0 < m ∧ m ≤ 4611686018427387904) : Cl Try.prog 129 [I n, I m] w fun v w' => v = I (n % m) ∧ St H w' σ := by
  have h1 := Int.tmod_lt_of_pos n hm.1
  have h2 := Int.lt_tmod_of_pos n hm.1
  have e : (n.tmod m + m).tmod m = n % m := by
    rw [Int.tmod_eq_emod_of_nonneg (by omega), Int.tmod_def, show n - m * n.tdiv m + m = n + m * (1 - n.tdiv m) by rw [Int.mul_sub]; omega, Int.add_mul_emod_self_left]
  refine Cl.of Try.func129 rfl Try.ntmps129 (by simp) (args_cons (k := 0) rfl (args_cons (k := 1) rfl (args0))) ?_
  refine .regSeq ?_
  refine .q hs (q_assign rfl) ?_
  refine .nil ?_
  refine .regSeq ?_
  refine .q hs (q_move rfl) ?_
  refine .q hs (q_move rfl) ?_
  refine .q hs (q_rem rfl rfl (by omega)) ?_
  refine .q hs (q_move rfl) ?_
  first | refine .q hs (q_addF rfl rfl (by omega)) ?_ | refine .q hs (q_addU rfl rfl ⟨by omega, by omega⟩) ?_ | refine .q hs (q_add rfl rfl) ?_
  refine .q hs (q_move rfl) ?_
  refine .q hs (q_rem rfl rfl (by omega)) ?_
  refine .q hs (q_assign rfl) ?_
  refine .nil ?_
  refine .ret (Fin.ret1 Try.results129 rfl ?_)
  exact ⟨congrArg I e, hs⟩
theorem ref09_at_spec {H : Heap} {w : World} {σ : List Ent} {v : Value} {l : List Int} {i : Int} (hs : St H w σ) (hr : RI H v l) (hl : l.length ≤ 4611686018427387904) : Cl Try.prog 130 [v, I i] w fun v w' => v = I (atI l i) ∧ St H w' σ := by
  obtain ⟨a, c, rfl⟩ := RI.shape hr
  refine Cl.of Try.func130 rfl Try.ntmps130 (by simp) (args_cons (k := 0) rfl (args_cons (k := 1) rfl (args0))) ?_
  refine .regSeq ?_
  refine .q hs (q_assign rfl) ?_
  refine .nil ?_
  refine .seq ?_
  refine .regSeq ?_
  refine .q hs (q_move rfl) ?_
  first | refine .q hs (q_len rfl Try.runUnderlying22) ?_ | refine .q hs (q_lenR (by assumption) rfl Try.runUnderlying22) ?_ | refine .q hs (q_lenI (by assumption) rfl Try.runUnderlying22) ?_
  refine .q hs (q_eql rfl rfl) ?_
  refine .nil ?_
  refine (.condD rfl (fun hc7 => ?_) (fun hc7 => ?_))
  · refine .regSeq ?_
    refine .q hs (q_assign rfl) ?_
    refine .nil ?_
    refine .ret (rT (Fin.ret1 Try.results130 rfl ?_))
    exact ⟨by rw [show atI l i = 0 by unfold atI; rw [if_pos (List.length_eq_zero_iff.1 (by omega))]], hs⟩
  · refine .skip ?_
    refine nT ?_
    refine .regSeq ?_
    refine .q hs (q_move rfl) ?_
    refine .q hs (q_move rfl) ?_
    refine .q hs (q_move rfl) ?_
    first | refine .q hs (q_len rfl Try.runUnderlying22) ?_ | refine .q hs (q_lenR (by assumption) rfl Try.runUnderlying22) ?_ | refine .q hs (q_lenI (by assumption) rfl Try.runUnderlying22) ?_
    refine .o (.call Try.call129 rfl (ref09_mod_spec hs (by omega)) ?_); rintro _ w ⟨rfl, hs⟩
    have h1 := Int.emod_nonneg i (b := (l.length : Int)) (by omega)
    have h2 := Int.emod_lt_of_pos i (b := (l.length : Int)) (by omega)
    have hx := gi_get (l := l) (i := (i % (l.length : Int)).toNat) (by omega)
    refine .ixY hs hr rfl rfl Try.runUnderlying22 Try.sizeOf3 hx (by omega) ?_; intro b13 o13 hc13
    refine .q hs (q_loadR rfl Try.isAgg3 hc13) ?_
    refine .q hs (q_assign rfl) ?_
    refine .nil ?_
    refine .ret (Fin.ret1 Try.results130 rfl ?_)
    exact ⟨by unfold atI; rw [if_neg (fun h => by rw [h] at hc7; exact hc7 rfl)], hs⟩
theorem ref02_Pick_spec {H : Heap} {w : World} {σ : List Ent} {v : Value} {l : List Int} {i n : Int} (hs : St H w σ) (hr : RI H v l) (hi : 0 ≤ i) (hn : n ≤ 4611686018427387904) : Cl Try.prog 25 [v, I i, I n] w fun v w' => v = I (pickI l i n) ∧ St H w' σ := by
  obtain ⟨a, c, rfl⟩ := RI.shape hr
  have hlen := (RI.len hr).2.2
  refine Cl.of Try.func25 rfl Try.ntmps25 (by simp) (args_cons (k := 0) rfl (args_cons (k := 1) rfl (args_cons (k := 2) rfl (args0)))) ?_
  refine .regSeq ?_
  refine .q hs (q_assign rfl) ?_
  refine .nil ?_
  refine .seq ?_
  refine .regSeq ?_
  refine .q hs (q_move rfl) ?_
  first | refine .q hs (q_len rfl Try.runUnderlying22) ?_ | refine .q hs (q_lenR (by assumption) rfl Try.runUnderlying22) ?_ | refine .q hs (q_lenI (by assumption) rfl Try.runUnderlying22) ?_
  refine .q hs (q_eql rfl rfl) ?_
  refine .q hs (q_move rfl) ?_
  refine .bifD (t' := 10) rfl (fun hb10 => ?_) (fun hb10 => ?_)
  · refine .gFs 2 3 false rfl rfl rfl ?_
    refine .q hs (q_pickT rfl rfl) ?_
    refine .nil ?_
    refine (.condT rfl rfl ?_)
    refine .regSeq ?_
    refine .q hs (q_assign rfl) ?_
    refine .nil ?_
    refine .ret (rT (Fin.ret1 Try.results25 rfl ?_))
    exact ⟨by rw [show pickI l i n = 0 by unfold pickI; rw [if_pos (.inl (List.length_eq_zero_iff.1 (by omega)))]], hs⟩
  · refine .gT rfl rfl ?_
    refine .q hs (q_move rfl) ?_
    refine .gT rfl rfl ?_
    refine .q hs (q_lss rfl rfl) ?_
    refine .q hs (q_pickF rfl rfl) ?_
    refine .nil ?_
    refine (.condD rfl (fun hc13 => ?_) (fun hc13 => ?_))
    · refine .regSeq ?_
      refine .q hs (q_assign rfl) ?_
      refine .nil ?_
      refine .ret (rT (Fin.ret1 Try.results25 rfl ?_))
      exact ⟨by rw [show pickI l i n = 0 by unfold pickI; rw [if_pos (.inr (by omega))]], hs⟩
    · refine .skip ?_
      refine nT ?_
      refine .regSeq ?_
      refine .q hs (q_move rfl) ?_
      refine .q hs (q_move rfl) ?_
      refine .q hs (q_move rfl) ?_
      first | refine .q hs (q_len rfl Try.runUnderlying22) ?_ | refine .q hs (q_lenR (by assumption) rfl Try.runUnderlying22) ?_ | refine .q hs (q_lenI (by assumption) rfl Try.runUnderlying22) ?_
      have hl0 : 0 < l.length := by omega
      have h1 := Int.tmod_nonneg (a := i) (l.length : Int) hi
      have h2 := Int.tmod_lt_of_pos i (b := (l.length : Int)) (by omega)
      have hx := gi_get (l := l) (i := (i.tmod (l.length : Int)).toNat) (by omega)
      have h3 := Int.tmod_lt_of_pos (gi l (i.tmod (l.length : Int)).toNat) (b := n) (by omega)
      have h4 := Int.lt_tmod_of_pos (gi l (i.tmod (l.length : Int)).toNat) (b := n) (by omega)
      have e := rem_emod (n := gi l (i.tmod (l.length : Int)).toNat) (m := n) (by omega)
      refine .q hs (q_rem rfl rfl (by omega)) ?_
      refine .ixY hs hr rfl rfl Try.runUnderlying22 Try.sizeOf3 hx (by omega) ?_; intro b19 o19 hc19
      refine .q hs (q_loadR rfl Try.isAgg3 hc19) ?_
      refine .q hs (q_move rfl) ?_
      refine .q hs (q_rem rfl rfl (by omega)) ?_
      refine .q hs (q_move rfl) ?_
      first | refine .q hs (q_addF rfl rfl (by omega)) ?_ | refine .q hs (q_addU rfl rfl ⟨by omega, by omega⟩) ?_ | refine .q hs (q_add rfl rfl) ?_
      refine .q hs (q_move rfl) ?_
      refine .q hs (q_rem rfl rfl (by omega)) ?_
      refine .q hs (q_assign rfl) ?_
      refine .nil ?_
      refine .ret (Fin.ret1 Try.results25 rfl ?_)
      exact ⟨by unfold pickI; rw [if_neg (fun h => h.elim (fun h => by rw [h] at hl0; exact Nat.lt_irrefl _ hl0) (fun h => by omega)), ← e], hs⟩
end Go.Proofs.Ytiiokdeehlfeeaa
