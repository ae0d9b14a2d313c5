/-
  Texts of this claim, joined: Wi Wj Wk Wl Wm Wn.
-/
import Derived.Test.YtiiokdeehlfeeaaKn
import Derived.Test.YtiiokdeehlfeeaaKa
/-
  Walks: questions and probes are checked.
-/
namespace Go.Proofs.Ytiiokdeehlfeeaa
open Go.MW
theorem probe_isWithin_spec {H : Heap} {w : World} {σ : List Ent} {a0 a1 a2 : Int} (hs : St H w σ) : Cl Try.prog 116 [I a0, I a1, I a2] w fun v w' => v = .bool (decide (a1 ≤ a0 ∧ a0 ≤ a2)) ∧ St H w' σ := by
  refine Cl.of Try.func116 rfl Try.ntmps116 (by simp) (args_cons (k := 0) rfl (args_cons (k := 1) rfl (args_cons (k := 2) rfl (args0)))) ?_
  refine .regSeq ?_
  refine .q hs (q_assign rfl) ?_
  refine .nil ?_
  refine .regSeq ?_
  refine .q hs (q_move rfl) ?_
  refine .q hs (q_move rfl) ?_
  refine .q hs (q_leq rfl rfl) ?_
  refine .q hs (q_move rfl) ?_
  refine .bifD (t' := 10) rfl (fun hb10 => ?_) (fun hb10 => ?_)
  · refine .gT rfl rfl ?_
    refine .q hs (q_move rfl) ?_
    refine .gT rfl rfl ?_
    refine .q hs (q_move rfl) ?_
    refine .gT rfl rfl ?_
    refine .q hs (q_leq rfl rfl) ?_
    refine .q hs (q_pickT rfl rfl) ?_
    refine .q hs (q_assign rfl) ?_
    refine .nil ?_
    refine .ret (Fin.ret1 Try.results116 rfl ?_)
    exact ⟨by simp [*], hs.out⟩
  · refine .gFs 3 3 true rfl rfl rfl ?_
    refine .q hs (q_pickF rfl rfl) ?_
    refine .q hs (q_assign rfl) ?_
    refine .nil ?_
    refine .ret (Fin.ret1 Try.results116 rfl ?_)
    exact ⟨by simp [*], hs.out⟩
theorem probe_areWeights_spec {H : Heap} {w : World} {σ : List Ent} {v : Value} {ws : List Int} {many : Int} (hs : St H w σ) (hr : RI H v ws) (hm : 0 ≤ many ∧ many ≤ 64) : Cl Try.prog 115 [v, I many] w fun v w' => ∃ b, v = .bool b ∧ (b = true ↔ AWts ws many) ∧ St H w' σ := by
  obtain ⟨a, c, rfl⟩ := RI.shape hr
  have hl := (RI.len hr).2.2
  have over : ∀ k, k ≤ ws.length → 1800000000000 < sizesTo ws k → ¬ AWts ws many := fun k hk h ha => by
    have h1 := sumTo_mono (f := fun v => max (gi ws v) (-gi ws v)) (fun v => by omega) hk
    have h2 := ha.1
    unfold sizesTo at *
    omega
  refine Cl.of Try.func115 rfl Try.ntmps115 (by simp) (args_cons (k := 0) rfl (args_cons (k := 1) rfl (args0))) ?_
  refine .regSeq ?_
  refine .q hs (q_assign rfl) ?_
  refine .nil ?_
  refine .regSeq ?_
  refine .q hs (q_assign rfl) ?_
  refine .nil ?_
  refine .seq ?_
  refine .regSeq ?_
  refine .q hs (q_move rfl) ?_
  first | refine .q hs (q_len rfl Try.runUnderlying22) ?_ | refine .q hs (q_lenR (by assumption) rfl Try.runUnderlying22) ?_ | refine .q hs (q_lenI (by assumption) rfl Try.runUnderlying22) ?_
  refine .q hs (q_move rfl) ?_
  refine .nil ?_
  refine .for (N := ws.length) (J := fun k fr w => fr = [(8, .slice a ws.length c), (5, I (sizesTo ws k)), (0, .slice a ws.length c), (1, I many)] ∧ sizesTo ws k ≤ 1800000000000 ∧ St H w σ) (by omega) ?_ ?_ ?_
  · exact .mk ⟨rfl, by simp [sizesTo, sumTo], hs⟩
  · rintro k fr w hk ⟨rfl, hle, hs⟩
    have hx := gi_get hk
    have h0 : 0 ≤ sizesTo ws k := sumTo_nonneg fun v _ => by omega
    have h1 : sizesTo ws (k + 1) = sizesTo ws k + max (gi ws k) (-gi ws k) := rfl
    refine .block ?_
    refine .regSeq ?_
    first | (refine .ixY hs (by assumption) rfl rfl Try.runUnderlying22 Try.sizeOf3 (by assumption) (by first | rfl | omega) ?_; intro b12 o12 hc12) | refine .q hs (q_ixO rfl rfl Try.runUnderlying22 Try.sizeOf3 (by first | rfl | omega) (by first | assumption | omega)) ?_  -- indexAddr <[]int> t8 t10
    first | refine .q hs (q_load rfl Try.isAgg3) ?_ | refine .q hs (q_loadR rfl Try.isAgg3 (by assumption)) ?_
    refine .q hs (q_assign rfl) ?_
    refine .nil ?_
    refine .seq ?_
    refine .regSeq ?_
    refine .q hs (q_move rfl) ?_
    refine .o (.call Try.call116 rfl (probe_isWithin_spec hs) ?_); rintro _ w ⟨rfl, hs⟩
    refine .q hs (q_not rfl) ?_
    refine .nil ?_
    refine (.cond rfl (fun hc16 => ?_) (fun hc16 => ?_))
    · refine .regSeq ?_
      refine .q hs (q_assign rfl) ?_
      refine .nil ?_
      refine .ret (rT (rB (rT (rB (rT (Fin.ret1 Try.results115 rfl ?_))))))
      exact ⟨false, rfl, ⟨fun h => (by cases h), fun h => (over (k + 1) hk (by simp at hc16; omega) h).elim⟩, hs⟩
    · refine .skip ?_
      refine nT ?_
      refine .regSeq ?_
      simp only [Bool.not_eq_false', decide_eq_true_eq] at hc16
      refine .q hs (q_move rfl) ?_
      refine .q hs (q_move rfl) ?_
      refine .q hs (q_move rfl) ?_
      first | refine .q hs (q_negF rfl (by omega)) ?_ | refine .q hs (q_neg rfl) ?_
      first | refine .q hs (q_maxI rfl rfl) ?_ | refine .q hs (q_max rfl rfl) ?_
      first | refine .q hs (q_addF rfl rfl (by omega)) ?_ | refine .q hs (q_addU rfl rfl ⟨by omega, by omega⟩) ?_ | refine .q hs (q_add rfl rfl) ?_
      refine .q hs (q_assign rfl) ?_
      refine .nil ?_
      refine .regSeq ?_
      refine .q hs (q_move rfl) ?_
      refine .q hs (q_gtr rfl rfl) ?_
      refine .nil ?_
      refine (.condD rfl (fun hc24 => ?_) (fun hc24 => ?_))
      · refine .regSeq ?_
        refine .q hs (q_assign rfl) ?_
        refine .nil ?_
        refine .ret (rB (rT (rB (rT (Fin.ret1 Try.results115 rfl ?_)))))
        exact ⟨false, rfl, ⟨fun h => (by cases h), fun h => (over (k + 1) hk (by omega) h).elim⟩, hs⟩
      · refine .skip ?_
        refine nB (nT ?_)
        exact .mk ⟨rfl, by omega, hs⟩ (hs := .cons rfl (.cons rfl (.cons rfl (.consI rfl (by omega) (.cons rfl (.cons rfl (.nil rfl rfl)))))))
  · rintro fr w ⟨rfl, hle, hs⟩
    refine nT ?_
    refine .regSeq ?_
    refine .q hs (q_move rfl) ?_
    first | refine .q hs (q_len rfl Try.runUnderlying22) ?_ | refine .q hs (q_lenR (by assumption) rfl Try.runUnderlying22) ?_ | refine .q hs (q_lenI (by assumption) rfl Try.runUnderlying22) ?_
    refine .q hs (q_move rfl) ?_
    first | refine .q hs (q_addF rfl rfl (by omega)) ?_ | refine .q hs (q_addU rfl rfl ⟨by omega, by omega⟩) ?_ | refine .q hs (q_add rfl rfl) ?_
    refine .q hs (q_eql rfl rfl) ?_
    refine .q hs (q_assign rfl) ?_
    refine .nil ?_
    refine .ret (Fin.ret1 Try.results115 rfl ?_)
    exact ⟨_, rfl, by simp only [decide_eq_true_eq]; exact ⟨fun h => ⟨hle, h⟩, fun h => h.2⟩, hs⟩
theorem probe_CheckAsk_spec {H : Heap} {w : World} {σ : List Ent} {v : Value} {a : Quest} (hs : St H w σ) (hr : RAsk H v a) : Cl Try.prog 38 [v] w fun v w' => ∃ H1 e, HLe H H1 ∧ v = I e ∧ CAskR a e ∧ St H1 w' σ := by
  obtain ⟨ul, uw, rfl, hl, hw⟩ := hr
  obtain ⟨al, cpl, rfl⟩ := RL.shape hl
  have hm : a.sys.check = 0 → 0 ≤ a.sys.many ∧ a.sys.many ≤ 64 := fun h => by
    have h1 := a.sys.ok_iff.1 h
    exact ⟨h1.m0, h1.m1⟩
  refine Cl.of Try.func38 rfl Try.ntmps38 (by simp) (args_cons (k := 0) rfl (args0)) ?_
  refine .regSeq ?_
  refine .o (.box hs rfl rfl ?_); intro b1 w hs
  refine .q hs (q_assign rfl) ?_
  refine .nil ?_
  refine .seq ?_
  refine .regSeq ?_
  first | refine .q hs (q_fa0 rfl fa_api_Ask_0) ?_ | refine .q hs (q_fa rfl fa_api_Ask_0) ?_
  first | refine .q hs (q_loads (vs := [_, _]) rfl Try.isAgg32 Try.sizeOf32) ?_ | refine .q hs (q_loadsR (vs := [_, _]) rfl Try.isAgg32 Try.sizeOf32 (by assumption)) ?_
  refine .o (.call Try.call72 rfl (bound_Check_spec (s := a.sys) hs ⟨_, rfl, hl⟩) ?_); rintro _ w ⟨rfl, hs⟩
  refine .q hs (q_assign rfl) ?_
  refine .nil ?_
  refine .regSeq ?_
  refine .q hs (q_move rfl) ?_
  refine .q hs (q_neq rfl rfl) ?_
  refine .nil ?_
  refine (.condN rfl (fun hc11 => ?_) (fun hc11 => ?_))
  · refine .regSeq ?_
    refine .q hs (q_move rfl) ?_
    refine .q hs (q_assign rfl) ?_
    refine .nil ?_
    refine .ret (rT (Fin.ret1 Try.results38 rfl ?_))
    exact ⟨H, _, HLe.refl _, rfl, .sys hc11, hs.tail⟩
  · refine .skip ?_
    refine nT ?_
    refine .seq ?_
    refine .block ?_
    refine .regSeq ?_
    first | refine .q hs (q_fa0 rfl fa_api_Ask_0) ?_ | refine .q hs (q_fa rfl fa_api_Ask_0) ?_
    first | refine .q hs (q_fa0 rfl fa_api_System_0) ?_ | refine .q hs (q_fa rfl fa_api_System_0) ?_
    first | refine .q hs (q_load rfl Try.isAgg3) ?_ | refine .q hs (q_loadR rfl Try.isAgg3 (by assumption)) ?_
    refine .q hs (q_gtr rfl rfl) ?_
    refine .q hs (q_move rfl) ?_
    refine .bifD (t' := 18) rfl (fun hb18 => ?_) (fun hb18 => ?_)
    · refine .gFs 5 4 false rfl rfl rfl ?_
      refine .q hs (q_pickT rfl rfl) ?_
      refine .q hs (q_assign rfl) ?_
      refine .nil ?_
      refine (.condT rfl rfl ?_)
      refine .regSeq ?_
      refine .q hs (q_assign rfl) ?_
      refine .nil ?_
      refine .ret (rB (rT (Fin.ret1 Try.results38 rfl ?_)))
      exact ⟨H, _, HLe.refl _, rfl, .long hc11 (by omega), hs.tail⟩
    · refine .gT rfl rfl ?_
      first | refine .q hs (q_fa0 rfl fa_api_Ask_0) ?_ | refine .q hs (q_fa rfl fa_api_Ask_0) ?_
      refine .gT rfl rfl ?_
      first | refine .q hs (q_fa0 rfl fa_api_System_1) ?_ | refine .q hs (q_fa rfl fa_api_System_1) ?_
      refine .gT rfl rfl ?_
      first | refine .q hs (q_load rfl Try.isAgg30) ?_ | refine .q hs (q_loadR rfl Try.isAgg30 (by assumption)) ?_
      refine .gT rfl rfl ?_
      first | refine .q hs (q_len rfl Try.runUnderlying30) ?_ | refine .q hs (q_lenR (by assumption) rfl Try.runUnderlying30) ?_ | refine .q hs (q_lenI (by assumption) rfl Try.runUnderlying30) ?_
      refine .gT rfl rfl ?_
      refine .q hs (q_gtr rfl rfl) ?_
      refine .q hs (q_pickF rfl rfl) ?_
      refine .q hs (q_assign rfl) ?_
      refine .nil ?_
      refine (.condD rfl (fun hc13 => ?_) (fun hc13 => ?_))
      · refine .regSeq ?_
        refine .q hs (q_assign rfl) ?_
        refine .nil ?_
        refine .ret (rB (rT (Fin.ret1 Try.results38 rfl ?_)))
        exact ⟨H, _, HLe.refl _, rfl, .long hc11 (by omega), hs.tail⟩
      · refine .regSeq ?_
        first | refine .q hs (q_fa0 rfl fa_api_Ask_1) ?_ | refine .q hs (q_fa rfl fa_api_Ask_1) ?_
        first | refine .q hs (q_load rfl Try.isAgg22) ?_ | refine .q hs (q_loadR rfl Try.isAgg22 (by assumption)) ?_
        first | refine .q hs (q_fa0 rfl fa_api_Ask_0) ?_ | refine .q hs (q_fa rfl fa_api_Ask_0) ?_
        first | refine .q hs (q_fa0 rfl fa_api_System_0) ?_ | refine .q hs (q_fa rfl fa_api_System_0) ?_
        first | refine .q hs (q_load rfl Try.isAgg3) ?_ | refine .q hs (q_loadR rfl Try.isAgg3 (by assumption)) ?_
        refine .o (.call Try.call115 rfl (probe_areWeights_spec hs hw (hm hc11)) ?_); rintro _ w ⟨bw, rfl, hbw, hs⟩
        refine .q hs (q_not rfl) ?_
        refine .q hs (q_assign rfl) ?_
        refine .nil ?_
        refine (.cond rfl (fun hc25 => ?_) (fun hc25 => ?_))
        · refine .regSeq ?_
          refine .q hs (q_assign rfl) ?_
          refine .nil ?_
          refine .ret (rB (rT (Fin.ret1 Try.results38 rfl ?_)))
          exact ⟨H, _, HLe.refl _, rfl, .weight hc11 (by omega) (fun h => by rw [hbw.2 h] at hc25; cases hc25), hs.tail⟩
        · refine .regSeq ?_
          first | refine .q hs (q_fa0 rfl fa_api_Ask_2) ?_ | refine .q hs (q_fa rfl fa_api_Ask_2) ?_
          first | refine .q hs (q_load rfl Try.isAgg3) ?_ | refine .q hs (q_loadR rfl Try.isAgg3 (by assumption)) ?_
          refine .o (.call Try.call116 rfl (probe_isWithin_spec hs) ?_); rintro _ w ⟨rfl, hs⟩
          refine .q hs (q_not rfl) ?_
          refine .q hs (q_assign rfl) ?_
          refine .nil ?_
          refine (.cond rfl (fun hc33 => ?_) (fun hc33 => ?_))
          · refine .regSeq ?_
            refine .q hs (q_assign rfl) ?_
            refine .nil ?_
            refine .ret (rB (rT (Fin.ret1 Try.results38 rfl ?_)))
            exact ⟨H, _, HLe.refl _, rfl, .width hc11 (by omega) (hbw.1 (by simpa using hc25)) (fun h => by simp [h] at hc33), hs.tail⟩
          · refine .skip ?_
            refine nB (nT ?_)
            refine .regSeq ?_
            first | refine .q hs (q_fa0 rfl fa_api_Ask_0) ?_ | refine .q hs (q_fa rfl fa_api_Ask_0) ?_
            first | refine .q hs (q_loads (vs := [_, _]) rfl Try.isAgg32 Try.sizeOf32) ?_ | refine .q hs (q_loadsR (vs := [_, _]) rfl Try.isAgg32 Try.sizeOf32 (by assumption)) ?_
            first | refine .q hs (q_fa0 rfl fa_api_Ask_1) ?_ | refine .q hs (q_fa rfl fa_api_Ask_1) ?_
            first | refine .q hs (q_load rfl Try.isAgg22) ?_ | refine .q hs (q_loadR rfl Try.isAgg22 (by assumption)) ?_
            refine .o (.call Try.call60 rfl (bound_Range_spec (s := a.sys) hs ⟨_, rfl, hl⟩ hw) ?_); rintro _ w ⟨H1, lo, hi, e, hle1, rfl, hR, hs⟩
            refine .q hs (q_move rfl) ?_
            refine .q hs (q_extract rfl rfl) ?_
            refine .q hs (q_extract rfl rfl) ?_
            refine .q hs (q_extract rfl rfl) ?_
            refine .q hs (q_assign rfl) ?_
            refine .q hs (q_assign rfl) ?_
            refine .q hs (q_assign rfl) ?_
            refine .nil ?_
            refine .regSeq ?_
            refine .q hs (q_move rfl) ?_
            refine .q hs (q_assign rfl) ?_
            refine .nil ?_
            refine .ret (Fin.ret1 Try.results38 rfl ?_)
            exact ⟨H1, _, hle1, rfl, .range hc11 (by omega) (hbw.1 (by simpa using hc25)) (by simpa using hc33) hR, hs.tail⟩
theorem probe_one_spec {H : Heap} {w : World} {σ : List Ent} {v : Value} {a : Quest} {u : Int} (hs : St H w σ) (hr : RAsk H v a) (hm : a.sys.many ≤ 64) (hu : 0 ≤ u ∧ u ≤ a.sys.many) : Cl Try.prog 133 [v, I u] w fun v w' => ∃ H1, HLe H H1 ∧ RI H1 v (oneW a.sys.many u) ∧ St H1 w' σ := by
  obtain ⟨ul, uw, rfl, hl, hw⟩ := hr
  have e1 : a.sys.many + 1 = ((a.sys.many.toNat + 1 : Nat) : Int) := by omega
  refine Cl.of Try.func133 rfl Try.ntmps133 (by simp) (args_cons (k := 0) rfl (args_cons (k := 1) rfl (args0))) ?_
  refine .regSeq ?_
  refine .o (.box hs rfl rfl ?_); intro b2 w hs
  refine .q hs (q_assign rfl) ?_
  refine .nil ?_
  refine .regSeq ?_
  first | refine .q hs (q_fa0 rfl fa_api_Ask_0) ?_ | refine .q hs (q_fa rfl fa_api_Ask_0) ?_
  first | refine .q hs (q_fa0 rfl fa_api_System_0) ?_ | refine .q hs (q_fa rfl fa_api_System_0) ?_
  first | refine .q hs (q_load rfl Try.isAgg3) ?_ | refine .q hs (q_loadR rfl Try.isAgg3 (by assumption)) ?_
  first | refine .q hs (q_addF rfl rfl (by omega)) ?_ | refine .q hs (q_addU rfl rfl ⟨by omega, by omega⟩) ?_ | refine .q hs (q_add rfl rfl) ?_
  rw [e1]
  refine .o (.makeI (a.sys.many.toNat + 1) hs rfl rfl Try.runUnderlying22 Try.typeInfo3 rfl Try.sizeOf3 Try.zeroValue3 (by omega) ?_); intro b10 w hs
  refine .q hs (q_assign rfl) ?_
  refine .nil ?_
  refine .regSeq ?_
  refine .q hs (q_move rfl) ?_
  refine .q hs (q_move rfl) ?_
  refine .q hs (q_ixO (k := u.toNat) rfl rfl Try.runUnderlying22 Try.sizeOf3 (by omega) (by omega)) ?_
  refine .o (.store hs rfl rfl Try.sizeOf3 ?_ (by repeat constructor) (blt_Is (by simp; omega)) (Is_set _ _ _)); intro w hs
  refine .nil ?_
  refine .regSeq ?_
  refine .q hs (q_move rfl) ?_
  refine .q hs (q_assign rfl) ?_
  refine .nil ?_
  refine .ret (Fin.ret1 Try.results133 rfl ?_)
  obtain ⟨H1, g1, g2, hs⟩ := hs.publish .here
  refine ⟨H1, g1, ?_, hs.out⟩
  have := Row.RI (xs := oneW a.sys.many u) (spare := []) (by simpa [oneW] using g2) (a.sys.many.toNat + 1) (by simp [oneW]) (by simp [oneW]; omega)
  simpa [oneW] using this
theorem probe_isProbe_spec {H : Heap} {w : World} {σ : List Ent} {v : Value} {a : Quest} {p : Prb} (hs : St H w σ) (hr : RAsk H v a) (hm : a.sys.many ≤ 64) : Cl Try.prog 122 [v, .agg p.c.toArray] w fun v w' => ∃ H1 b, HLe H H1 ∧ v = .bool b ∧ (b = true ↔ PrbOk a p) ∧ St H1 w' σ := by
  obtain ⟨ul, uw, rfl, hl, hw⟩ := hr
  refine Cl.of Try.func122 rfl Try.ntmps122 (by simp) (args_cons (k := 0) rfl (args_cons (k := 1) rfl (args0))) ?_
  refine .regSeq ?_
  refine .o (.box hs rfl rfl ?_); intro b2 w hs
  refine .o (.box hs rfl rfl ?_); intro b3 w hs
  refine .q hs (q_assign rfl) ?_
  refine .nil ?_
  refine .seq ?_
  refine .regSeq ?_
  first | refine .q hs (q_fa0 rfl fa_api_Probe_0) ?_ | refine .q hs (q_fa rfl fa_api_Probe_0) ?_
  first | refine .q hs (q_load rfl Try.isAgg3) ?_ | refine .q hs (q_loadR rfl Try.isAgg3 (by assumption)) ?_
  first | refine .q hs (q_fa0 rfl fa_api_Ask_0) ?_ | refine .q hs (q_fa rfl fa_api_Ask_0) ?_
  first | refine .q hs (q_fa0 rfl fa_api_System_0) ?_ | refine .q hs (q_fa rfl fa_api_System_0) ?_
  first | refine .q hs (q_load rfl Try.isAgg3) ?_ | refine .q hs (q_loadR rfl Try.isAgg3 (by assumption)) ?_
  refine .o (.call Try.call116 rfl (probe_isWithin_spec hs) ?_); rintro _ w ⟨rfl, hs⟩
  refine .q hs (q_not rfl) ?_
  refine .q hs (q_move rfl) ?_
  refine .bif (t' := 15) rfl (fun hb15 => ?_) (fun hb15 => ?_)
  · refine .gFs 4 7 false rfl rfl rfl ?_
    refine .q hs (q_pickT rfl rfl) ?_
    refine .nil ?_
    refine (.condT rfl rfl ?_)
    refine .regSeq ?_
    refine .q hs (q_assign rfl) ?_
    refine .nil ?_
    refine .ret (rT (Fin.ret1 Try.results122 rfl ?_))
    exact ⟨H, false, HLe.refl _, rfl, ⟨fun h => (by cases h), fun h => by simp [h.1] at hb15⟩, hs.out⟩
  · refine .gT rfl rfl ?_
    first | refine .q hs (q_fa0 rfl fa_api_Probe_1) ?_ | refine .q hs (q_fa rfl fa_api_Probe_1) ?_
    refine .gT rfl rfl ?_
    first | refine .q hs (q_load rfl Try.isAgg3) ?_ | refine .q hs (q_loadR rfl Try.isAgg3 (by assumption)) ?_
    refine .gT rfl rfl ?_
    refine .o (.call Try.call116 rfl (probe_isWithin_spec hs) ?_); rintro _ w ⟨rfl, hs⟩
    refine .gT rfl rfl ?_
    refine .q hs (q_not rfl) ?_
    refine .q hs (q_pickF rfl rfl) ?_
    refine .nil ?_
    refine (.cond rfl (fun hc20 => ?_) (fun hc20 => ?_))
    · refine .regSeq ?_
      refine .q hs (q_assign rfl) ?_
      refine .nil ?_
      refine .ret (rT (Fin.ret1 Try.results122 rfl ?_))
      exact ⟨H, false, HLe.refl _, rfl, ⟨fun h => (by cases h), fun h => by simp [h.2.1] at hc20⟩, hs.out⟩
    · refine .skip ?_
      refine nT ?_
      refine .seq (.draw mix rfl hs ?_); intro w hs
      first | refine .p (i := 0) rfl (by kernel_rfl) .none (q_fa0 rfl fa_api_Ask_0) ?_ | refine .p (i := 0) rfl (by kernel_rfl) .none (q_fa rfl fa_api_Ask_0) ?_
      first | refine .loads (i := 1) (vs := [_, _]) hs rfl (by kernel_rfl) .none rfl Try.isAgg32 Try.sizeOf32 ?_ | refine .r (i := 1) hs rfl (by kernel_rfl) .none (q_loadsR (vs := [_, _]) rfl Try.isAgg32 Try.sizeOf32 (by assumption)) ?_
      first | refine .loads (i := 2) (vs := [_, _, _, _]) hs rfl (by kernel_rfl) .none rfl Try.isAgg34 Try.sizeOf34 ?_ | refine .r (i := 2) hs rfl (by kernel_rfl) .none (q_loadsR (vs := [_, _, _, _]) rfl Try.isAgg34 Try.sizeOf34 (by assumption)) ?_
      first | refine .p (i := 3) rfl (by kernel_rfl) .none (q_fa0 rfl fa_api_Probe_0) ?_ | refine .p (i := 3) rfl (by kernel_rfl) .none (q_fa rfl fa_api_Probe_0) ?_
      first | refine .load (i := 4) hs rfl (by kernel_rfl) .none rfl Try.isAgg3 ?_ | refine .r (i := 4) hs rfl (by kernel_rfl) .none (q_loadR rfl Try.isAgg3 (by assumption)) ?_
      refine .e1 (i := 5) (by kernel_rfl) rfl rfl .none hs ?_
      simp only [Bool.not_eq_false', decide_eq_true_eq] at hb15 hc20
      refine .call Try.call133 rfl (probe_one_spec (a := a) hs ⟨_, _, rfl, hl, hw⟩ hm (by omega)) ?_; rintro v27 w ⟨H1, hle1, hr27, hs⟩
      refine .go ?_
      refine .e1 (i := 6) (by kernel_rfl) rfl rfl .none hs ?_
      refine .call Try.call60 rfl (bound_Range_spec (s := a.sys) hs ⟨_, rfl, hl.mono hle1⟩ hr27) ?_; rintro _ w ⟨H2, lo, hi, e, hle2, rfl, hR, hs⟩
      refine .go ?_
      refine .p (i := 7) rfl (by kernel_rfl) .none (q_move rfl) ?_
      refine .p (i := 8) rfl (by kernel_rfl) .none (q_extract rfl rfl) ?_
      refine .p (i := 9) rfl (by kernel_rfl) .none (q_extract rfl rfl) ?_
      refine .p (i := 10) rfl (by kernel_rfl) .none (q_extract rfl rfl) ?_
      refine .p (i := 11) rfl (by kernel_rfl) .none (q_assign rfl) ?_
      refine .p (i := 12) rfl (by kernel_rfl) .none (q_assign rfl) ?_
      refine .p (i := 13) rfl (by kernel_rfl) .none (q_assign rfl) ?_
      refine .done (by kernel_rfl) hs ?_
      refine .regSeq ?_
      refine .q hs (q_move rfl) ?_
      refine .q hs (q_eql rfl rfl) ?_
      refine .q hs (q_move rfl) ?_
      refine .bifD (t' := 34) rfl (fun hb34 => ?_) (fun hb34 => ?_)
      · refine .gT rfl rfl ?_
        refine .q hs (q_move rfl) ?_
        refine .gT rfl rfl ?_
        refine .q hs (q_geq rfl rfl) ?_
        refine .q hs (q_pickT rfl rfl) ?_
        refine .q hs (q_move rfl) ?_
        refine .bifD (t' := 38) rfl (fun hb38 => ?_) (fun hb38 => ?_)
        · refine .gT rfl rfl ?_
          refine .q hs (q_move rfl) ?_
          refine .gT rfl rfl ?_
          refine .q hs (q_leq rfl rfl) ?_
          refine .q hs (q_pickT rfl rfl) ?_
          refine .q hs (q_assign rfl) ?_
          refine .nil ?_
          refine .ret (Fin.ret1 Try.results122 rfl ?_)
          exact ⟨H2, _, hle1.trans hle2, rfl, by
            first
              | exact ⟨fun h => (by cases h), fun ⟨_, _, lo', hi', h1, h2, h3⟩ => by
                  obtain ⟨rfl, rfl, rfl⟩ := hR.uniq h1
                  first | exact (hb34 rfl).elim | exact (hb38 h2).elim⟩
              | (simp only [decide_eq_true_eq]
                 subst hb34
                 exact ⟨fun h => ⟨hb15, hc20, lo, hi, hR, by omega, h⟩, fun ⟨_, _, lo', hi', h1, h2, h3⟩ => by
                  obtain ⟨rfl, rfl, -⟩ := hR.uniq h1
                  exact h3⟩), hs.out⟩
        · refine .gFs 2 6 true rfl rfl rfl ?_
          refine .q hs (q_pickF rfl rfl) ?_
          refine .q hs (q_assign rfl) ?_
          refine .nil ?_
          refine .ret (Fin.ret1 Try.results122 rfl ?_)
          exact ⟨H2, _, hle1.trans hle2, rfl, by
            first
              | exact ⟨fun h => (by cases h), fun ⟨_, _, lo', hi', h1, h2, h3⟩ => by
                  obtain ⟨rfl, rfl, rfl⟩ := hR.uniq h1
                  first | exact (hb34 rfl).elim | exact (hb38 h2).elim⟩
              | (simp only [decide_eq_true_eq]
                 subst hb34
                 exact ⟨fun h => ⟨hb15, hc20, lo, hi, hR, by omega, h⟩, fun ⟨_, _, lo', hi', h1, h2, h3⟩ => by
                  obtain ⟨rfl, rfl, -⟩ := hR.uniq h1
                  exact h3⟩), hs.out⟩
      · refine .gFs 2 2 true rfl rfl rfl ?_
        refine .q hs (q_pickF rfl rfl) ?_
        refine .q hs (q_move rfl) ?_
        refine .gFs 2 6 true rfl rfl rfl ?_
        refine .q hs (q_pickF rfl rfl) ?_
        refine .q hs (q_assign rfl) ?_
        refine .nil ?_
        refine .ret (Fin.ret1 Try.results122 rfl ?_)
        exact ⟨H2, _, hle1.trans hle2, rfl, by
          first
            | exact ⟨fun h => (by cases h), fun ⟨_, _, lo', hi', h1, h2, h3⟩ => by
                obtain ⟨rfl, rfl, rfl⟩ := hR.uniq h1
                first | exact (hb34 rfl).elim | exact (hb38 h2).elim⟩
            | (simp only [decide_eq_true_eq]
               subst hb34
               exact ⟨fun h => ⟨hb15, hc20, lo, hi, hR, by omega, h⟩, fun ⟨_, _, lo', hi', h1, h2, h3⟩ => by
                obtain ⟨rfl, rfl, -⟩ := hR.uniq h1
                exact h3⟩), hs.out⟩
theorem IndexFunc_Prb {H : Heap} {w : World} {σ : List Ent} {v : Value} {ls : List Prb} {g : Nat} {cap : List Value} {q : Prb → Prop} (hs : St H w σ) (hr : RPs H v ls)
    (hc : ∀ args w, (callFunc g args).run Try.prog w = .ok (.enter g args) w) (hp : ∀ w l, St H w σ → Cl Try.prog g ([.agg l.c.toArray] ++ cap) w fun u w' => ∃ b, u = .bool b ∧ (b = true ↔ q l) ∧ St H w' σ) :
    Cl Try.prog 189 [v, .func (.func g) #[] cap.toArray] w fun u w' => ∃ i, u = I i ∧ (0 ≤ i ↔ ∃ p ∈ ls, q p) ∧ St H w' σ := by
  obtain ⟨a, c, rfl⟩ := RPs.shape hr
  have hl := (RPs.len hr).2.2
  refine Cl.of Try.func189 rfl Try.ntmps189 (by simp) (args_cons (k := 0) rfl (args_cons (k := 1) rfl (args0))) ?_
  refine .regSeq ?_
  refine .q hs (q_assign rfl) ?_
  refine .nil ?_
  refine .seq ?_
  refine .regSeq ?_
  refine .q hs (q_move rfl) ?_
  first | refine .q hs (q_len rfl Try.runUnderlying35) ?_ | refine .q hs (q_lenR (by assumption) rfl Try.runUnderlying35) ?_ | refine .q hs (q_lenI (by assumption) rfl Try.runUnderlying35) ?_
  refine .q hs (q_move rfl) ?_
  refine .nil ?_
  refine .for (N := ls.length) (J := fun k fr w => fr = [(1, .func (.func g) #[] cap.toArray), (0, .slice a ls.length c)] ∧ St H w σ ∧ ∀ j < k, ∀ l, ls[j]? = some l → ¬ q l) (by omega) ?_ ?_ ?_
  · exact .mk ⟨rfl, hs, fun j hj => by omega⟩
  · rintro k fr w hk ⟨rfl, hs, hno⟩
    obtain ⟨l, hl⟩ := nth hk
    refine .block ?_
    refine .regSeq ?_
    refine .q hs (q_move rfl) ?_
    refine .q hs (q_assign rfl) ?_
    refine .nil ?_
    refine .regSeq ?_
    refine .q hs (q_move rfl) ?_
    refine .q hs (q_move rfl) ?_
    refine .q hs (q_move rfl) ?_
    refine .ixX hs hr rfl rfl Try.runUnderlying35 Try.sizeOf48 hl rfl ?_; intro b14 o14 hc14
    first | refine .q hs (q_loads (vs := [_, _]) rfl Try.isAgg48 Try.sizeOf48) ?_ | refine .q hs (q_loadsR (vs := [_, _]) rfl Try.isAgg48 Try.sizeOf48 (by assumption)) ?_
    refine .o (.callG (first := []) rfl rfl hc (hp _ _ hs) ?_); rintro _ w ⟨b16, rfl, hb16, hs⟩
    refine .nil ?_
    refine (.cond rfl (fun hc16 => ?_) (fun hc16 => ?_))
    · refine .regSeq ?_
      refine .q hs (q_move rfl) ?_
      refine .q hs (q_assign rfl) ?_
      refine .nil ?_
      refine .ret (rB (rT (rB (rT (Fin.ret1 Try.results189 rfl ?_)))))
      exact ⟨_, rfl, ⟨fun _ => ⟨l, List.mem_of_getElem? hl, hb16.1 hc16⟩, fun _ => by omega⟩, hs⟩
    · refine .skip ?_
      refine nB (nT ?_)
      exact .mk ⟨rfl, hs, upto_succ hno hl (fun h => by rw [hb16.2 h] at hc16; cases hc16)⟩
  · rintro fr w ⟨rfl, hs, hno⟩
    refine nT ?_
    refine .regSeq ?_
    refine .q hs (q_assign rfl) ?_
    refine .nil ?_
    refine .ret (Fin.ret1 Try.results189 rfl ?_)
    exact ⟨_, rfl, ⟨fun h => by omega, fun ⟨p, h1, h2⟩ => by
      obtain ⟨j, hj⟩ := List.getElem?_of_mem h1
      exact (hno j (List.getElem?_eq_some_iff.1 hj).1 p hj h2).elim⟩, hs⟩
theorem ContainsFunc_Prb {H : Heap} {w : World} {σ : List Ent} {v : Value} {ls : List Prb} {g : Nat} {cap : List Value} {q : Prb → Prop} (hs : St H w σ) (hr : RPs H v ls)
    (hc : ∀ args w, (callFunc g args).run Try.prog w = .ok (.enter g args) w) (hp : ∀ w l, St H w σ → Cl Try.prog g ([.agg l.c.toArray] ++ cap) w fun u w' => ∃ b, u = .bool b ∧ (b = true ↔ q l) ∧ St H w' σ) :
    Cl Try.prog 120 [v, .func (.func g) #[] cap.toArray] w fun u w' => ∃ b, u = .bool b ∧ (b = true ↔ ∃ p ∈ ls, q p) ∧ St H w' σ := by
  refine Cl.of Try.func120 rfl Try.ntmps120 (by simp) (args_cons (k := 0) rfl (args_cons (k := 1) rfl (args0))) ?_
  refine .regSeq ?_
  refine .q hs (q_assign rfl) ?_
  refine .nil ?_
  refine .regSeq ?_
  refine .q hs (q_move rfl) ?_
  refine .q hs (q_move rfl) ?_
  refine .o (.call Try.call189 rfl (IndexFunc_Prb hs hr hc hp) ?_); rintro _ w ⟨i, rfl, hi, hs⟩
  refine .q hs (q_geq rfl rfl) ?_
  refine .q hs (q_assign rfl) ?_
  refine .nil ?_
  refine .ret (Fin.ret1 Try.results120 rfl ?_)
  exact ⟨_, rfl, by simp only [decide_eq_true_eq]; exact hi, hs⟩
theorem probe_CheckProbes_1 {H : Heap} {w : World} {σ : List Ent} {b : Nat} {a : Quest} {ul uw : Value} {p : Prb} (hs : St H w σ) (hb : Row H b [I a.sys.many, ul, uw, I a.width]) (hl : RL H ul a.sys.lims) (hw : RI H uw a.ws) (hm : a.sys.many ≤ 64) :
    Cl Try.prog 121 [.agg p.c.toArray, .pointer (some ⟨b, 0, none⟩)] w fun v w' => ∃ b, v = .bool b ∧ (b = true ↔ ¬ PrbOk a p) ∧ St H w' σ := by
  have hba := hb.cells 0 [I a.sys.many, ul, uw, I a.width]
  refine Cl.of Try.func121 rfl Try.ntmps121 (by simp) (args_cons (k := 0) rfl (args_cons (k := 1) rfl (args0))) ?_
  refine .regSeq ?_
  refine .o (.box hs rfl rfl ?_); intro b2 w hs
  refine .q hs (q_assign rfl) ?_
  refine .nil ?_
  refine .regSeq ?_
  refine .q hs (q_loadsR (vs := [I a.sys.many, ul, uw, I a.width]) rfl Try.isAgg34 Try.sizeOf34 hba) ?_
  refine .q hs (q_loads (vs := p.c) rfl Try.isAgg48 Try.sizeOf48) ?_
  refine .o (.call Try.call122 rfl (probe_isProbe_spec (a := a) hs ⟨_, _, rfl, hl, hw⟩ hm) ?_); rintro _ w ⟨H1, b6, hle1, rfl, hb6, hs⟩
  refine .q hs (q_not rfl) ?_
  refine .q hs (q_assign rfl) ?_
  refine .nil ?_
  refine .ret (Fin.ret1 Try.results121 rfl ?_)
  exact ⟨_, rfl, by rw [← hb6]; cases b6 <;> simp, (hs.le hle1).out⟩
theorem probe_CheckProbes_spec {H : Heap} {w : World} {σ : List Ent} {v vl : Value} {a : Quest} {l : List Prb} (hs : St H w σ) (hr : RAsk H v a) (hp : RPs H vl l) : Cl Try.prog 40 [v, vl] w fun v w' => ∃ H1 e, HLe H H1 ∧ v = I e ∧ CPrbR a l e ∧ St H1 w' σ := by
  obtain ⟨ul, uw, rfl, hl, hw⟩ := hr
  obtain ⟨al, cpl, rfl⟩ := RPs.shape hp
  refine Cl.of Try.func40 rfl Try.ntmps40 (by simp) (args_cons (k := 0) rfl (args_cons (k := 1) rfl (args0))) ?_
  refine .regSeq ?_
  refine .o (.box hs rfl rfl ?_); intro b2 w hs
  refine .q hs (q_assign rfl) ?_
  refine .nil ?_
  refine .seq ?_
  refine .regSeq ?_
  first | refine .q hs (q_loads (vs := [_, _, _, _]) rfl Try.isAgg34 Try.sizeOf34) ?_ | refine .q hs (q_loadsR (vs := [_, _, _, _]) rfl Try.isAgg34 Try.sizeOf34 (by assumption)) ?_
  refine .o (.call Try.call38 rfl (probe_CheckAsk_spec (a := a) hs ⟨_, _, rfl, hl, hw⟩) ?_); rintro _ w ⟨H1, e, hle1, rfl, hA, hs⟩
  refine .q hs (q_assign rfl) ?_
  refine .nil ?_
  refine .regSeq ?_
  refine .q hs (q_move rfl) ?_
  refine .q hs (q_neq rfl rfl) ?_
  refine .nil ?_
  refine (.condN rfl (fun hc9 => ?_) (fun hc9 => ?_))
  · refine .regSeq ?_
    refine .q hs (q_move rfl) ?_
    refine .q hs (q_assign rfl) ?_
    refine .nil ?_
    refine .ret (rT (Fin.ret1 Try.results40 rfl ?_))
    exact ⟨H1, _, hle1, rfl, .ask hA hc9, hs.tail⟩
  · refine .skip ?_
    refine nT ?_
    refine .seq ?_
    refine .regSeq ?_
    refine .q hs (q_move rfl) ?_
    first | refine .q hs (q_len rfl Try.runUnderlying35) ?_ | refine .q hs (q_lenR (by assumption) rfl Try.runUnderlying35) ?_ | refine .q hs (q_lenI (by assumption) rfl Try.runUnderlying35) ?_
    refine .q hs (q_gtr rfl rfl) ?_
    refine .nil ?_
    refine (.condD rfl (fun hc13 => ?_) (fun hc13 => ?_))
    · refine .regSeq ?_
      refine .q hs (q_assign rfl) ?_
      refine .nil ?_
      refine .ret (rT (Fin.ret1 Try.results40 rfl ?_))
      exact ⟨H1, _, hle1, rfl, .long (CAskR.zero.1 (by rw [hc9] at hA; exact hA)) (by omega), hs.tail⟩
    · refine .skip ?_
      refine nT ?_
      refine .seq ?_
      refine .regSeq ?_
      refine .q hs (q_move rfl) ?_
      refine .q hs (q_makeFunc (f := []) (c := [_]) rfl rfl) ?_
      obtain ⟨H2, hle2, hR2, hs⟩ := hs.publish .here
      have hok := CAskR.zero.1 (by rw [hc9] at hA; exact hA)
      have hm1 := hok.ok.m1
      refine .o (.call Try.call120 rfl (ContainsFunc_Prb (q := fun p => ¬ PrbOk a p) (cap := [.pointer (some ⟨b2, 0, none⟩)]) hs (hp.mono (hle1.trans hle2)) Try.call121 (fun w p hs => probe_CheckProbes_1 hs hR2 (hl.mono (hle1.trans hle2)) (hw.mono (hle1.trans hle2)) hm1)) ?_); rintro _ w ⟨b16, rfl, hb16, hs⟩
      refine .nil ?_
      refine (.cond rfl (fun hc16 => ?_) (fun hc16 => ?_))
      · refine .regSeq ?_
        refine .q hs (q_assign rfl) ?_
        refine .nil ?_
        refine .ret (rT (Fin.ret1 Try.results40 rfl ?_))
        exact ⟨H2, _, hle1.trans hle2, rfl, .bad hok (by omega) (fun h => by obtain ⟨p, h1, h2⟩ := hb16.1 hc16; exact h2 (h p h1)), hs⟩
      · refine .skip ?_
        refine nT ?_
        refine .regSeq ?_
        refine .q hs (q_assign rfl) ?_
        refine .nil ?_
        refine .ret (Fin.ret1 Try.results40 rfl ?_)
        exact ⟨H2, _, hle1.trans hle2, rfl, .ok hok (by omega) (fun p h1 => Classical.byContradiction fun h2 => by rw [hb16.2 ⟨p, h1, h2⟩] at hc16; cases hc16), hs⟩
end Go.Proofs.Ytiiokdeehlfeeaa

/-
  Walks: what is told; pairs of hulls.
-/
namespace Go.Proofs.Ytiiokdeehlfeeaa
open Go.MW
theorem probe_told_int {R : Int → Int → Prop} {H : Heap} {w : World} {σ : List Ent} {v vl : Value} {a : Quest} {l : List Prb} {g : Nat} {cap : List Value} (hs : St H w σ) (hr : RAsk H v a) (hp : RPs H vl l) (hc : ∀ args w, (callFunc g args).run Try.prog w = .ok (.enter g args) w)
    (hg : ∀ H' w σ', HLe H H' → CPrbR a l 0 → St H' w σ' → Cl Try.prog g ([v] ++ cap) w fun u w' => ∃ H'' x e, HLe H' H'' ∧ u = .tuple #[I x, I e] ∧ R x e ∧ St H'' w' σ') :
    Cl Try.prog 99 [v, vl, .func (.func g) #[] cap.toArray] w fun u w' => ∃ H1 x e, HLe H H1 ∧ u = .tuple #[I x, I e] ∧ ((CPrbR a l e ∧ e ≠ 0 ∧ x = 0) ∨ (CPrbR a l 0 ∧ R x e)) ∧ St H1 w' σ := by
  obtain ⟨ul, uw, rfl, hl, hw⟩ := hr
  refine Cl.of Try.func99 rfl Try.ntmps99 (by simp) (args_cons (k := 0) rfl (args_cons (k := 1) rfl (args_cons (k := 2) rfl (args0)))) ?_
  refine .regSeq ?_
  refine .o (.box hs rfl rfl ?_); intro b3 w hs
  refine .q hs (q_assign rfl) ?_
  refine .q hs (q_assign rfl) ?_
  refine .nil ?_
  refine .seq ?_
  refine .regSeq ?_
  first | refine .q hs (q_loads (vs := [_, _, _, _]) rfl Try.isAgg34 Try.sizeOf34) ?_ | refine .q hs (q_loadsR (vs := [_, _, _, _]) rfl Try.isAgg34 Try.sizeOf34 (by assumption)) ?_
  refine .q hs (q_move rfl) ?_
  refine .o (.call Try.call40 rfl (probe_CheckProbes_spec (a := a) hs ⟨_, _, rfl, hl, hw⟩ hp) ?_); rintro _ w ⟨H1, e, hle1, rfl, hC, hs⟩
  refine .q hs (q_assign rfl) ?_
  refine .nil ?_
  refine .regSeq ?_
  refine .q hs (q_move rfl) ?_
  refine .q hs (q_neq rfl rfl) ?_
  refine .nil ?_
  refine (.condN rfl (fun hc14 => ?_) (fun hc14 => ?_))
  · refine .regSeq ?_
    refine .q hs (q_assign rfl) ?_
    refine .nil ?_
    refine .regSeq ?_
    refine .q hs (q_move rfl) ?_
    refine .q hs (q_move rfl) ?_
    refine .q hs (q_assign rfl) ?_
    refine .q hs (q_assign rfl) ?_
    refine .nil ?_
    refine .ret (rT (Fin.ret2 Try.results99 rfl rfl ?_))
    exact ⟨H1, 0, e, hle1, rfl, .inl ⟨hC, hc14, rfl⟩, hs.tail⟩
  · refine .skip ?_
    refine nT ?_
    refine .regSeq ?_
    refine .q hs (q_move rfl) ?_
    first | refine .q hs (q_loads (vs := [_, _, _, _]) rfl Try.isAgg34 Try.sizeOf34) ?_ | refine .q hs (q_loadsR (vs := [_, _, _, _]) rfl Try.isAgg34 Try.sizeOf34 (by assumption)) ?_
    rw [hc14] at hC
    refine .o (.callG (first := []) rfl rfl hc (hg _ _ _ hle1 hC hs) ?_); rintro _ w ⟨H2, x, e2, hle2, rfl, hR, hs⟩
    refine .q hs (q_extract rfl rfl) ?_
    refine .q hs (q_extract rfl rfl) ?_
    refine .q hs (q_assign rfl) ?_
    refine .q hs (q_assign rfl) ?_
    refine .nil ?_
    refine .ret (Fin.ret2 Try.results99 rfl rfl ?_)
    exact ⟨H2, x, e2, hle1.trans hle2, rfl, .inr ⟨hC, hR⟩, hs.tail⟩
theorem probe_told_Proof {R : Heap → Int → List Use → Int → Prop} {H : Heap} {w : World} {σ : List Ent} {v vl : Value} {a : Quest} {l : List Prb} {g : Nat} {cap : List Value} (hs : St H w σ) (hr : RAsk H v a) (hp : RPs H vl l) (hc : ∀ args w, (callFunc g args).run Try.prog w = .ok (.enter g args) w)
    (hg : ∀ H' w σ', HLe H H' → CPrbR a l 0 → St H' w σ' → Cl Try.prog g ([v] ++ cap) w fun u w' => ∃ H'' vp n us e, HLe H' H'' ∧ u = .tuple #[vp, I e] ∧ RPf H'' vp n us ∧ R H'' n us e ∧ St H'' w' σ') :
    Cl Try.prog 96 [v, vl, .func (.func g) #[] cap.toArray] w fun u w' => ∃ H1 vp n us e, HLe H H1 ∧ u = .tuple #[vp, I e] ∧ RPf H1 vp n us ∧ ((CPrbR a l e ∧ e ≠ 0 ∧ n = 0 ∧ us = []) ∨ (CPrbR a l 0 ∧ R H1 n us e)) ∧ St H1 w' σ := by
  obtain ⟨ul, uw, rfl, hl, hw⟩ := hr
  refine Cl.of Try.func96 rfl Try.ntmps96 (by simp) (args_cons (k := 0) rfl (args_cons (k := 1) rfl (args_cons (k := 2) rfl (args0)))) ?_
  refine .regSeq ?_
  refine .o (.box hs rfl rfl ?_); intro b3 w hs
  refine .o (.alloc hs Try.zeroValue40 rfl ?_); intro b6 w hs
  refine .q hs (q_assign rfl) ?_
  refine .nil ?_
  refine .seq ?_
  refine .regSeq ?_
  first | refine .q hs (q_loads (vs := [_, _, _, _]) rfl Try.isAgg34 Try.sizeOf34) ?_ | refine .q hs (q_loadsR (vs := [_, _, _, _]) rfl Try.isAgg34 Try.sizeOf34 (by assumption)) ?_
  refine .q hs (q_move rfl) ?_
  refine .o (.call Try.call40 rfl (probe_CheckProbes_spec (a := a) hs ⟨_, _, rfl, hl, hw⟩ hp) ?_); rintro _ w ⟨H1, e, hle1, rfl, hC, hs⟩
  refine .q hs (q_assign rfl) ?_
  refine .nil ?_
  refine .regSeq ?_
  refine .q hs (q_move rfl) ?_
  refine .q hs (q_neq rfl rfl) ?_
  refine .nil ?_
  refine (.condN rfl (fun hc14 => ?_) (fun hc14 => ?_))
  · refine .regSeq ?_
    refine .o (.alloc hs Try.zeroValue40 rfl ?_); intro b9 w hs
    refine .nil ?_
    refine .regSeq ?_
    first | refine .q hs (q_loads (vs := [_, _]) rfl Try.isAgg40 Try.sizeOf40) ?_ | refine .q hs (q_loadsR (vs := [_, _]) rfl Try.isAgg40 Try.sizeOf40 (by assumption)) ?_
    refine .q hs (q_move rfl) ?_
    refine .o (.stores (vs := [_, _]) hs rfl rfl Try.sizeOf40 ?_); intro w hs
    refine .q hs (q_assign rfl) ?_
    refine .nil ?_
    refine .ret (rT (?_))
    exact Fin.retD [] [] hs fun w hs => ⟨_, results2 Try.results96 (rcells (vs := [_, _]) hs rfl Try.isAgg40 Try.sizeOf40) rfl, H1, _, 0, [], e, hle1, rfl, ⟨_, rfl, RS.nil H1 2 none 0⟩, .inl ⟨hC, hc14, rfl, rfl⟩, hs.out⟩
  · refine .skip ?_
    refine nT ?_
    refine .regSeq ?_
    refine .q hs (q_move rfl) ?_
    first | refine .q hs (q_loads (vs := [_, _, _, _]) rfl Try.isAgg34 Try.sizeOf34) ?_ | refine .q hs (q_loadsR (vs := [_, _, _, _]) rfl Try.isAgg34 Try.sizeOf34 (by assumption)) ?_
    rw [hc14] at hC
    refine .o (.callG (first := []) rfl rfl hc (hg _ _ _ hle1 hC hs) ?_); rintro _ w ⟨H2, vp, n, us, e2, hle2, rfl, ⟨vu, rfl, hU⟩, hR, hs⟩
    obtain ⟨au, cu, rfl⟩ := RU.shape hU
    refine .q hs (q_extract rfl rfl) ?_
    refine .q hs (q_extract rfl rfl) ?_
    refine .o (.stores (vs := [_, _]) hs rfl rfl Try.sizeOf40 ?_); intro w hs
    refine .q hs (q_assign rfl) ?_
    refine .nil ?_
    refine .ret ?_
    exact Fin.retD [] [] hs fun w hs => ⟨_, results2 Try.results96 (rcells (vs := [_, _]) hs rfl Try.isAgg40 Try.sizeOf40) rfl, H2, _, n, us, e2, hle1.trans hle2, rfl, ⟨_, rfl, hU⟩, .inr ⟨hC, hR⟩, hs.out⟩
theorem probe_width_spec {H : Heap} {w : World} {σ : List Ent} {v : Value} {a : Quest} (hs : St H w σ) (hr : RAsk H v a) : Cl Try.prog 100 [v] w fun u w' => ∃ H'' x e, HLe H H'' ∧ u = .tuple #[I x, I e] ∧ (∃ lo hi, RangeR a.sys a.ws lo hi e ∧ x = hi - lo) ∧ St H'' w' σ := by
  obtain ⟨ul, uw, rfl, hl, hw⟩ := hr
  refine Cl.of Try.func100 rfl Try.ntmps100 (by simp) (args_cons (k := 0) rfl (args0)) ?_
  refine .regSeq ?_
  refine .o (.box hs rfl rfl ?_); intro b1 w hs
  refine .q hs (q_assign rfl) ?_
  refine .q hs (q_assign rfl) ?_
  refine .nil ?_
  refine .regSeq ?_
  first | refine .q hs (q_fa0 rfl fa_api_Ask_0) ?_ | refine .q hs (q_fa rfl fa_api_Ask_0) ?_
  first | refine .q hs (q_loads (vs := [_, _]) rfl Try.isAgg32 Try.sizeOf32) ?_ | refine .q hs (q_loadsR (vs := [_, _]) rfl Try.isAgg32 Try.sizeOf32 (by assumption)) ?_
  first | refine .q hs (q_fa0 rfl fa_api_Ask_1) ?_ | refine .q hs (q_fa rfl fa_api_Ask_1) ?_
  first | refine .q hs (q_load rfl Try.isAgg22) ?_ | refine .q hs (q_loadR rfl Try.isAgg22 (by assumption)) ?_
  refine .o (.call Try.call60 rfl (bound_Range_spec (s := a.sys) hs ⟨_, rfl, hl⟩ hw) ?_); rintro _ w ⟨H1, lo, hi, e, hle1, rfl, hR, hs⟩
  have hbd := hR.bd
  refine .q hs (q_move rfl) ?_
  refine .q hs (q_extract rfl rfl) ?_
  refine .q hs (q_extract rfl rfl) ?_
  refine .q hs (q_extract rfl rfl) ?_
  refine .q hs (q_assign rfl) ?_
  refine .q hs (q_assign rfl) ?_
  refine .q hs (q_assign rfl) ?_
  refine .nil ?_
  refine .regSeq ?_
  refine .q hs (q_move rfl) ?_
  refine .q hs (q_move rfl) ?_
  first | refine .q hs (q_subF rfl rfl (by omega)) ?_ | refine .q hs (q_sub rfl rfl) ?_
  refine .q hs (q_move rfl) ?_
  refine .q hs (q_assign rfl) ?_
  refine .q hs (q_assign rfl) ?_
  refine .nil ?_
  refine .ret (Fin.ret2 Try.results100 rfl rfl ?_)
  exact ⟨H1, _, e, hle1, rfl, ⟨lo, hi, hR, rfl⟩, hs.tail⟩
theorem probe_Width_spec {H : Heap} {w : World} {σ : List Ent} {v : Value} {a : Quest} (hs : St H w σ) (hr : RAsk H v a) : Cl Try.prog 24 [v] w fun u w' => ∃ H1 n e, HLe H H1 ∧ u = .tuple #[I n, I e] ∧ WidthR a n e ∧ St H1 w' σ := by
  obtain ⟨ul, uw, rfl, hl, hw⟩ := hr
  refine Cl.of Try.func24 rfl Try.ntmps24 (by simp) (args_cons (k := 0) rfl (args0)) ?_
  refine .regSeq ?_
  refine .o (.box hs rfl rfl ?_); intro b1 w hs
  refine .q hs (q_assign rfl) ?_
  refine .q hs (q_assign rfl) ?_
  refine .nil ?_
  refine .regSeq ?_
  first | refine .q hs (q_loads (vs := [_, _, _, _]) rfl Try.isAgg34 Try.sizeOf34) ?_ | refine .q hs (q_loadsR (vs := [_, _, _, _]) rfl Try.isAgg34 Try.sizeOf34 (by assumption)) ?_
  refine .o (.call Try.call99 rfl (probe_told_int (a := a) (l := []) (cap := []) hs ⟨_, _, rfl, hl, hw⟩ (RS.nil _ 2 none 0) Try.call100 (fun H' w σ' hle _ hs => probe_width_spec (a := a) hs ⟨_, _, rfl, hl.mono hle, hw.mono hle⟩)) ?_); rintro _ w ⟨H1, x, e, hle1, rfl, hcase, hs⟩
  refine .q hs (q_extract rfl rfl) ?_
  refine .q hs (q_extract rfl rfl) ?_
  refine .q hs (q_assign rfl) ?_
  refine .q hs (q_assign rfl) ?_
  refine .nil ?_
  refine .ret (Fin.ret2 Try.results24 rfl rfl ?_)
  refine ⟨H1, x, e, hle1, rfl, ?_, hs.tail⟩
  rcases hcase with ⟨h1, h2, h3⟩ | ⟨h1, lo, hi, h2, h3⟩
  · exact .inl ⟨h1.nil, h2, h3⟩
  · have hok := CAskR.zero.1 h1.nil
    obtain ⟨lo', hi', h4⟩ := hok.range
    obtain ⟨rfl, rfl, rfl⟩ := h2.uniq h4
    exact .inr ⟨hok, rfl, lo, hi, h4, h3⟩
theorem slices_Clone_Lim {H : Heap} {w : World} {σ : List Ent} {v : Value} {xs : List Lim} (hs : St H w σ) (hr : RL H v xs) (hx : xs.length ≤ 1000000) : Cl Try.prog 143 [v] w fun v w' => ∃ en, OwnS 4 v (Lims xs) en ∧ St H w' (en :: σ) := by
  obtain ⟨a, c, rfl⟩ := RL.shape hr
  refine Cl.of Try.func143 rfl Try.ntmps143 (by simp) (args_cons (k := 0) rfl (args0)) ?_
  refine .regSeq ?_
  refine .q hs (q_assign rfl) ?_
  refine .nil ?_
  refine .seq ?_
  refine .regSeq ?_
  refine .q hs (q_move rfl) ?_
  refine .q hs (q_eqSN rfl rfl Try.runUnderlying30) ?_
  refine .nil ?_
  refine (.cond rfl (fun hc4 => ?_) (fun hc4 => ?_))
  · refine .regSeq ?_
    refine .q hs (q_assign rfl) ?_
    refine .nil ?_
    refine .ret (rT (Fin.ret1 Try.results143 rfl ?_))
    obtain rfl : a = none := by simpa using hc4
    obtain rfl := RL.nilOf hr
    exact ⟨.nul, .nil 4 none, hs.nul⟩
  · refine .skip ?_
    refine nT ?_
    refine .regSeq ?_
    refine .o (.buildSlice (cells := []) hs bls_sl_api_Limit_0 rfl rfl ?_); intro b5 w hs
    refine .q hs (q_move rfl) ?_
    refine .o (.append (xs := []) (ys := Lims xs) hs app_sl_api_Limit_api_Limit rfl rfl (.full rfl) (by have := Src.rs (P := Try.prog) (σ := .blk b5 [] :: σ) hr; rw [List.length_map] at this; exact this) (Lims_cell xs) (fun l h => by simp at h; omega) ?_); intro v7 en7 w hO hs
    refine .q hs (q_assign rfl) ?_
    refine .nil ?_
    refine .ret (Fin.ret1 Try.results143 rfl ?_)
    exact ⟨en7, hO, hs⟩
theorem probe_double_1 {H : Heap} {w : World} {σ : List Ent} {b : Nat} {n x : Int} (hs : St H w σ) (hb : cellAt H b 0 = some (I n)) (hn : 0 ≤ n ∧ n ≤ 64) (hx : 0 ≤ x ∧ x ≤ 64) : Cl Try.prog 180 [I x, .pointer (some ⟨b, 0, none⟩)] w fun v w' => v = I (movedI n x) ∧ St H w' σ := by
  refine Cl.of Try.func180 rfl Try.ntmps180 (by simp) (args_cons (k := 0) rfl (args_cons (k := 1) rfl (args0))) ?_
  refine .regSeq ?_
  refine .q hs (q_assign rfl) ?_
  refine .nil ?_
  refine .seq ?_
  refine .regSeq ?_
  refine .q hs (q_move rfl) ?_
  refine .q hs (q_eql rfl rfl) ?_
  refine .nil ?_
  refine (.condD rfl (fun hc5 => ?_) (fun hc5 => ?_))
  · refine .regSeq ?_
    refine .q hs (q_assign rfl) ?_
    refine .nil ?_
    refine .ret (rT (Fin.ret1 Try.results180 rfl ?_))
    exact ⟨by unfold movedI; rw [if_pos hc5], hs⟩
  · refine .skip ?_
    refine nT ?_
    refine .regSeq ?_
    refine .q hs (q_move rfl) ?_
    first | refine .q hs (q_load rfl Try.isAgg3) ?_ | refine .q hs (q_loadR rfl Try.isAgg3 (by assumption)) ?_
    first | refine .q hs (q_addF rfl rfl (by omega)) ?_ | refine .q hs (q_addU rfl rfl ⟨by omega, by omega⟩) ?_ | refine .q hs (q_add rfl rfl) ?_
    refine .q hs (q_assign rfl) ?_
    refine .nil ?_
    refine .ret (Fin.ret1 Try.results180 rfl ?_)
    exact ⟨by unfold movedI; rw [if_neg hc5], hs⟩
theorem probe_double_spec {H : Heap} {w : World} {σ : List Ent} {v vl : Value} {a : Quest} {l : List Prb} (hs : St H w σ) (hr : RAsk H v a) (hp : RPs H vl l) (hok : AskOk a) (hlen : l.length ≤ 8) (hin : ∀ p ∈ l, PrbIn a p) :
    Cl Try.prog 98 [v, vl] w fun u w' => ∃ H1 ul uw vp vw, HLe H H1 ∧ u = .agg #[I a.sys.many, ul, uw, I a.width, I (2 * a.sys.many), vp, vw] ∧ RL H1 ul a.sys.lims ∧ RI H1 uw a.ws ∧ RL H1 vp (dblS a l).lims ∧ RI H1 vw (dblW a.ws) ∧ St H1 w' σ := by
  obtain ⟨ul, uw, rfl, hl, hw⟩ := hr
  obtain ⟨al, cpl, rfl⟩ := RL.shape hl
  obtain ⟨aw, cw, rfl⟩ := RI.shape hw
  obtain ⟨ap, cpp, rfl⟩ := RPs.shape hp
  have hm0 := hok.ok.m0
  have hm1 := hok.many
  have hll := hok.lims
  obtain ⟨n, hn⟩ := Int.eq_ofNat_of_zero_le hm0
  have hwl : a.ws.length = n + 1 := by rw [hok.wl]; simp [Syst.n, hn]
  refine Cl.of Try.func98 rfl Try.ntmps98 (by simp) (args_cons (k := 0) rfl (args_cons (k := 1) rfl (args0))) ?_
  refine .regSeq ?_
  refine .o (.box hs rfl rfl ?_); intro b2 w hs
  refine .o (.alloc hs Try.zeroValue132 rfl ?_); intro b4 w hs
  refine .nil ?_
  refine .regSeq ?_
  first | refine .q hs (q_fa0 rfl fa_api_Ask_0) ?_ | refine .q hs (q_fa rfl fa_api_Ask_0) ?_
  first | refine .q hs (q_fa0 rfl fa_api_System_0) ?_ | refine .q hs (q_fa rfl fa_api_System_0) ?_
  first | refine .q hs (q_load rfl Try.isAgg3) ?_ | refine .q hs (q_loadR rfl Try.isAgg3 (by assumption)) ?_
  refine .o (.alloc hs Try.zeroValue3 rfl ?_); intro b5 w hs
  refine .o (.store hs rfl rfl Try.sizeOf3 ?_); intro w hs
  refine .nil ?_
  obtain ⟨H1, hle1, hR5, hs⟩ := hs.publish .here
  have h5 : cellAt H1 b5 0 = some (I a.sys.many) := hR5.at 0
  have e2 : 2 * a.sys.many + 1 = ((2 * n + 1 : Nat) : Int) := by omega
  refine .cut (fun fs w => ∃ bw b6, FSub fs ⟨130, [], [(6, .pointer (some ⟨b6, 0, none⟩)), (1, .slice ap l.length cpp), (5, .pointer (some ⟨b5, 0, none⟩)), (4, .pointer (some ⟨b4, 0, none⟩))]⟩ ∧ St H1 w (.blk b6 [I a.sys.many, .slice al a.sys.lims.length cpl, .slice aw a.ws.length cw, I a.width, I 0, .slice none 0 0, .slice (some ⟨bw, 0, none⟩) (2 * n + 1) (2 * n + 1)] :: .blk bw (Is (List.replicate (2 * n + 1) 0)) :: .blk b4 [I 0, .slice none 0 0, .slice none 0 0, I 0, I 0, .slice none 0 0, .slice none 0 0] :: σ)) ?_ ?_
  · refine .draw mix rfl hs ?_; intro w hs
    first | refine .loads (i := 0) (vs := [_, _, _, _]) hs rfl (by kernel_rfl) .none rfl Try.isAgg34 Try.sizeOf34 ?_ | refine .r (i := 0) hs rfl (by kernel_rfl) .none (q_loadsR (vs := [_, _, _, _]) rfl Try.isAgg34 Try.sizeOf34 (by assumption)) ?_
    first | refine .load (i := 1) hs rfl (by kernel_rfl) .none rfl Try.isAgg3 ?_ | refine .r (i := 1) hs rfl (by kernel_rfl) .none (q_loadR rfl Try.isAgg3 (by assumption)) ?_
    first | refine .p (i := 2) rfl (by kernel_rfl) .none (q_mulF rfl rfl (by omega)) ?_ | refine .p (i := 2) rfl (by kernel_rfl) .none (q_mulU rfl rfl ⟨by omega, by omega⟩) ?_ | refine .p (i := 2) rfl (by kernel_rfl) .none (q_mul rfl rfl) ?_
    first | refine .p (i := 3) rfl (by kernel_rfl) .none (q_addF rfl rfl (by omega)) ?_ | refine .p (i := 3) rfl (by kernel_rfl) .none (q_addU rfl rfl ⟨by omega, by omega⟩) ?_ | refine .p (i := 3) rfl (by kernel_rfl) .none (q_add rfl rfl) ?_
    refine .e2 (i := 4) (j := 6) (by kernel_rfl) rfl rfl rfl rfl .none .none hs ?_ ?_  -- UP: 4: makeSlice <[]int> t23 t23, 6: alloc <probe.doubled>
    · rw [e2]
      refine .makeI (2 * n + 1) hs rfl rfl Try.runUnderlying22 Try.typeInfo3 rfl Try.sizeOf3 Try.zeroValue3 (by omega) ?_; intro b24 w hs
      refine .go ?_
      refine .p (i := 5) rfl (by kernel_rfl) .none (q_build (cells := [_, _, _, _, _, _, _]) bld_probe_doubled rfl) ?_
      refine .e1 (i := 6) (by kernel_rfl) rfl rfl .none hs ?_
      refine .alloc hs Try.zeroValue132 rfl ?_; intro b6 w hs
      refine .go ?_
      refine .e1 (i := 7) (by kernel_rfl) rfl rfl .none hs ?_
      refine .stores (vs := [_, _, _, _, _, _, _]) hs rfl rfl Try.sizeOf132 ?_; intro w hs
      refine .go ?_
      refine .done (by kernel_rfl) hs ?_
      exact nT ⟨b24, b6, by repeat (first | exact .nil rfl rfl | refine .cons rfl ?_), hs.sub (by repeat (first | exact Sub.refl _ | constructor | apply Sub.weaken))⟩
    · refine .alloc hs Try.zeroValue132 rfl ?_; intro b6 w hs
      refine .go ?_
      refine .e1 (i := 4) (by kernel_rfl) rfl rfl .none hs ?_
      rw [e2]
      refine .makeI (2 * n + 1) hs rfl rfl Try.runUnderlying22 Try.typeInfo3 rfl Try.sizeOf3 Try.zeroValue3 (by omega) ?_; intro b24 w hs
      refine .go ?_
      refine .p (i := 5) rfl (by kernel_rfl) .none (q_build (cells := [_, _, _, _, _, _, _]) bld_probe_doubled rfl) ?_
      refine .e1 (i := 7) (by kernel_rfl) rfl rfl .none hs ?_
      refine .stores (vs := [_, _, _, _, _, _, _]) hs rfl rfl Try.sizeOf132 ?_; intro w hs
      refine .go ?_
      refine .done (by kernel_rfl) hs ?_
      exact nT ⟨b24, b6, by repeat (first | exact .nil rfl rfl | refine .cons rfl ?_), hs.sub (by repeat (first | exact Sub.refl _ | constructor | apply Sub.weaken))⟩
  · rintro fs w ⟨bw, b6, hfs, hs⟩
    refine WE.sub ?_ hfs
    refine .regSeq ?_
    first | refine .q hs (q_load rfl Try.isAgg3) ?_ | refine .q hs (q_loadR rfl Try.isAgg3 (by assumption)) ?_
    first | refine .q hs (q_mulF rfl rfl (by omega)) ?_ | refine .q hs (q_mulU rfl rfl ⟨by omega, by omega⟩) ?_ | refine .q hs (q_mul rfl rfl) ?_
    first | refine .q hs (q_fa0 rfl fa_probe_doubled_1) ?_ | refine .q hs (q_fa rfl fa_probe_doubled_1) ?_
    first | refine .q hs (q_fa0 rfl fa_api_System_0) ?_ | refine .q hs (q_fa rfl fa_api_System_0) ?_
    refine .o (.store hs rfl rfl Try.sizeOf3 ?_); intro w hs
    refine .nil ?_
    refine .regSeq ?_
    refine .q hs (q_makeFunc (f := []) (c := [_]) rfl rfl) ?_
    refine .q hs (q_assign rfl) ?_
    refine .nil ?_
    refine .regSeq ?_
    first | refine .q hs (q_fa0 rfl fa_probe_doubled_0) ?_ | refine .q hs (q_fa rfl fa_probe_doubled_0) ?_
    first | refine .q hs (q_fa0 rfl fa_api_Ask_0) ?_ | refine .q hs (q_fa rfl fa_api_Ask_0) ?_
    first | refine .q hs (q_fa0 rfl fa_api_System_1) ?_ | refine .q hs (q_fa rfl fa_api_System_1) ?_
    first | refine .q hs (q_load rfl Try.isAgg30) ?_ | refine .q hs (q_loadR rfl Try.isAgg30 (by assumption)) ?_
    refine .o (.call Try.call143 rfl (slices_Clone_Lim hs (hl.mono hle1) (by omega)) ?_); rintro v35 w ⟨en35, hO35, hs⟩
    obtain ⟨a35, l35, c35, rfl, h35⟩ := hO35.shape
    first | refine .q hs (q_fa0 rfl fa_probe_doubled_1) ?_ | refine .q hs (q_fa rfl fa_probe_doubled_1) ?_
    first | refine .q hs (q_fa0 rfl fa_api_System_1) ?_ | refine .q hs (q_fa rfl fa_api_System_1) ?_
    refine .o (.store hs rfl rfl Try.sizeOf30 ?_); intro w hs
    refine .nil ?_
    refine .seq ?_
    refine .regSeq ?_
    first | refine .q hs (q_fa0 rfl fa_probe_doubled_0) ?_ | refine .q hs (q_fa rfl fa_probe_doubled_0) ?_
    first | refine .q hs (q_fa0 rfl fa_api_Ask_0) ?_ | refine .q hs (q_fa rfl fa_api_Ask_0) ?_
    first | refine .q hs (q_fa0 rfl fa_api_System_1) ?_ | refine .q hs (q_fa rfl fa_api_System_1) ?_
    first | refine .q hs (q_load rfl Try.isAgg30) ?_ | refine .q hs (q_loadR rfl Try.isAgg30 (by assumption)) ?_
    first | refine .q hs (q_len rfl Try.runUnderlying30) ?_ | refine .q hs (q_lenR (by assumption) rfl Try.runUnderlying30) ?_ | refine .q hs (q_lenI (by assumption) rfl Try.runUnderlying30) ?_
    refine .q hs (q_move rfl) ?_
    refine .nil ?_
    refine .for (N := a.sys.lims.length) (J := fun k fr w => fr = [(41, .slice al a.sys.lims.length cpl), (7, .func (.func 180) #[] #[.pointer (some ⟨b5, 0, none⟩)]), (6, .pointer (some ⟨b6, 0, none⟩)), (1, .slice ap l.length cpp), (4, .pointer (some ⟨b4, 0, none⟩))] ∧   ∃ vp en, OwnS 4 vp (Lims (a.sys.lims ++ (a.sys.lims.take k).map (Lim.mv a.sys.many))) en ∧ St H1 w (.blk b6 [I a.sys.many, .slice al a.sys.lims.length cpl, .slice aw a.ws.length cw, I a.width, I (2 * a.sys.many), vp, .slice (some ⟨bw, 0, none⟩) (2 * n + 1) (2 * n + 1)] ::     .blk bw (Is (List.replicate (2 * n + 1) 0)) :: .blk b4 [I 0, .slice none 0 0, .slice none 0 0, I 0, I 0, .slice none 0 0, .slice none 0 0] :: en :: σ)) (by omega) ?_ ?_ ?_
    · exact .mk ⟨rfl, _, _, by simpa using hO35, hs.sub (by repeat (first | exact Sub.refl _ | constructor | apply Sub.weaken))⟩
    · rintro k fr w hk ⟨rfl, vp, en, hO, hs⟩
      obtain ⟨avp, lvp, cvp, rfl, hlvp⟩ := hO.shape
      obtain ⟨x, hx⟩ := nth hk
      have hxl := hok.ok.lim x (List.mem_of_getElem? hx)
      refine .block ?_
      refine .regSeq ?_
      refine .ixX hs (hl.mono hle1) rfl rfl Try.runUnderlying30 Try.sizeOf100 hx rfl ?_; intro b45 o45 hc45
      refine .q hs (q_loadsR (vs := x.c) rfl Try.isAgg100 Try.sizeOf100 hc45) ?_
      refine .o (.alloc hs Try.zeroValue100 rfl ?_); intro b9 w hs
      refine .o (.stores (vs := x.c) hs rfl rfl Try.sizeOf100 ?_); intro w hs
      refine .nil ?_
      refine .draw mix rfl hs ?_; intro w hs
      first | refine .p (i := 0) rfl (by kernel_rfl) .none (q_fa0 rfl fa_probe_doubled_1) ?_ | refine .p (i := 0) rfl (by kernel_rfl) .none (q_fa rfl fa_probe_doubled_1) ?_
      first | refine .p (i := 1) rfl (by kernel_rfl) .none (q_fa0 rfl fa_api_System_1) ?_ | refine .p (i := 1) rfl (by kernel_rfl) .none (q_fa rfl fa_api_System_1) ?_
      first | refine .load (i := 2) hs rfl (by kernel_rfl) .none rfl Try.isAgg30 ?_ | refine .r (i := 2) hs rfl (by kernel_rfl) .none (q_loadR rfl Try.isAgg30 (by assumption)) ?_
      refine .p (i := 3) rfl (by kernel_rfl) .none (q_move rfl) ?_
      first | refine .p (i := 4) rfl (by kernel_rfl) .none (q_fa0 rfl fa_api_Limit_0) ?_ | refine .p (i := 4) rfl (by kernel_rfl) .none (q_fa rfl fa_api_Limit_0) ?_
      first | refine .load (i := 5) hs rfl (by kernel_rfl) .none rfl Try.isAgg3 ?_ | refine .r (i := 5) hs rfl (by kernel_rfl) .none (q_loadR rfl Try.isAgg3 (by assumption)) ?_
      refine .p (i := 7) rfl (by kernel_rfl) .none (q_move rfl) ?_
      first | refine .p (i := 8) rfl (by kernel_rfl) .none (q_fa0 rfl fa_api_Limit_1) ?_ | refine .p (i := 8) rfl (by kernel_rfl) .none (q_fa rfl fa_api_Limit_1) ?_
      first | refine .load (i := 9) hs rfl (by kernel_rfl) .none rfl Try.isAgg3 ?_ | refine .r (i := 9) hs rfl (by kernel_rfl) .none (q_loadR rfl Try.isAgg3 (by assumption)) ?_
      first | refine .p (i := 11) rfl (by kernel_rfl) .none (q_fa0 rfl fa_api_Limit_2) ?_ | refine .p (i := 11) rfl (by kernel_rfl) .none (q_fa rfl fa_api_Limit_2) ?_
      first | refine .load (i := 12) hs rfl (by kernel_rfl) .none rfl Try.isAgg3 ?_ | refine .r (i := 12) hs rfl (by kernel_rfl) .none (q_loadR rfl Try.isAgg3 (by assumption)) ?_
      first | refine .p (i := 13) rfl (by kernel_rfl) .none (q_fa0 rfl fa_api_Limit_3) ?_ | refine .p (i := 13) rfl (by kernel_rfl) .none (q_fa rfl fa_api_Limit_3) ?_
      first | refine .load (i := 14) hs rfl (by kernel_rfl) .none rfl Try.isAgg3 ?_ | refine .r (i := 14) hs rfl (by kernel_rfl) .none (q_loadR rfl Try.isAgg3 (by assumption)) ?_
      refine .e1 (i := 6) (by kernel_rfl) rfl rfl .none hs ?_
      refine .callG (first := []) (cap := [.pointer (some ⟨b5, 0, none⟩)]) rfl rfl Try.call180 (probe_double_1 (x := x.A) hs h5 (by omega) (by omega)) ?_; rintro _ w ⟨rfl, hs⟩
      refine .go ?_
      refine .e1 (i := 10) (by kernel_rfl) rfl rfl .none hs ?_
      refine .callG (first := []) (cap := [.pointer (some ⟨b5, 0, none⟩)]) rfl rfl Try.call180 (probe_double_1 (x := x.B) hs h5 (by omega) (by omega)) ?_; rintro _ w ⟨rfl, hs⟩
      refine .go ?_
      refine .p (i := 15) rfl (by kernel_rfl) .none (q_build (cells := [_, _, _, _]) bld_api_Limit rfl) ?_
      refine .e1 (i := 16) (by kernel_rfl) rfl rfl .none hs ?_
      refine .buildSlice (cells := (x.mv a.sys.many).c) hs bls_sl_api_Limit_1 rfl rfl ?_; intro b63 w hs
      refine .go ?_
      refine .e1 (i := 17) (by kernel_rfl) rfl rfl .none hs ?_
      refine .append (ys := (x.mv a.sys.many).c) hs app_sl_api_Limit_api_Limit rfl rfl hO (.own .here rfl rfl) (by simp [Lim.c, Value.oneCell']) (fun l h => by rw [Lims_length] at h; simp at h; omega) ?_; intro v64 en64 w hO2 hs
      obtain ⟨a64, l64, c64, rfl, h64⟩ := hO2.shape
      refine .go ?_
      first | refine .p (i := 18) rfl (by kernel_rfl) .none (q_fa0 rfl fa_probe_doubled_1) ?_ | refine .p (i := 18) rfl (by kernel_rfl) .none (q_fa rfl fa_probe_doubled_1) ?_
      first | refine .p (i := 19) rfl (by kernel_rfl) .none (q_fa0 rfl fa_api_System_1) ?_ | refine .p (i := 19) rfl (by kernel_rfl) .none (q_fa rfl fa_api_System_1) ?_
      refine .e1 (i := 20) (by kernel_rfl) rfl rfl .none hs ?_
      refine .store hs rfl rfl Try.sizeOf30 ?_; intro w hs
      refine .go ?_
      refine .done (by kernel_rfl) hs ?_
      refine nB (nT ?_)
      rw [← Lims_one, ← Lims_append, List.append_assoc, show (a.sys.lims.take k).map (Lim.mv a.sys.many) ++ [x.mv a.sys.many] = (a.sys.lims.take (k + 1)).map (Lim.mv a.sys.many) by rw [take_snoc hx]; simp] at hO2
      exact .mk ⟨rfl, _, _, hO2, hs.sub (by repeat (first | exact Sub.refl _ | constructor | apply Sub.weaken))⟩
    · rintro fr w ⟨rfl, vp1, en1, hO1, hs⟩
      rw [List.take_length] at hO1
      refine nT ?_
      refine .seq ?_
      refine .regSeq ?_
      refine .q hs (q_move rfl) ?_
      first | refine .q hs (q_len rfl Try.runUnderlying35) ?_ | refine .q hs (q_lenR (by assumption) rfl Try.runUnderlying35) ?_ | refine .q hs (q_lenI (by assumption) rfl Try.runUnderlying35) ?_
      refine .q hs (q_move rfl) ?_
      refine .nil ?_
      refine .for (N := l.length) (J := fun k fr w => fr = [(68, .slice ap l.length cpp), (7, .func (.func 180) #[] #[.pointer (some ⟨b5, 0, none⟩)]), (6, .pointer (some ⟨b6, 0, none⟩)), (4, .pointer (some ⟨b4, 0, none⟩))] ∧   ∃ vp en, OwnS 4 vp (Lims (a.sys.lims ++ a.sys.lims.map (Lim.mv a.sys.many) ++ prbAll a.sys.many 0 (l.take k))) en ∧ St H1 w (.blk b6 [I a.sys.many, .slice al a.sys.lims.length cpl, .slice aw a.ws.length cw, I a.width, I (2 * a.sys.many), vp, .slice (some ⟨bw, 0, none⟩) (2 * n + 1) (2 * n + 1)] ::     .blk bw (Is (List.replicate (2 * n + 1) 0)) :: .blk b4 [I 0, .slice none 0 0, .slice none 0 0, I 0, I 0, .slice none 0 0, .slice none 0 0] :: en :: σ)) (by omega) ?_ ?_ ?_
      · exact .mk ⟨rfl, vp1, en1, by simpa [prbAll] using hO1, hs⟩
      · rintro k fr w hk ⟨rfl, vp, en, hO, hs⟩
        obtain ⟨avp, lvp, cvp, rfl, hlvp⟩ := hO.shape
        obtain ⟨x, hx⟩ := nth hk
        obtain ⟨⟨x1, x2⟩, x3, x4⟩ := hin x (List.mem_of_getElem? hx)
        refine .block ?_
        refine .regSeq ?_
        refine .q hs (q_move rfl) ?_
        refine .ixX hs (hp.mono hle1) rfl rfl Try.runUnderlying35 Try.sizeOf48 hx rfl ?_; intro b73 o73 hc73
        refine .q hs (q_loadsR (vs := x.c) rfl Try.isAgg48 Try.sizeOf48 hc73) ?_
        refine .o (.alloc hs Try.zeroValue48 rfl ?_); intro b11 w hs
        refine .q hs (q_assign rfl) ?_
        refine .o (.stores (vs := x.c) hs rfl rfl Try.sizeOf48 ?_); intro w hs
        refine .nil ?_
        refine .seq (.draw mix rfl hs ?_); intro w hs
        first | refine .p (i := 0) rfl (by kernel_rfl) .none (q_fa0 rfl fa_api_Probe_0) ?_ | refine .p (i := 0) rfl (by kernel_rfl) .none (q_fa rfl fa_api_Probe_0) ?_
        first | refine .load (i := 1) hs rfl (by kernel_rfl) .none rfl Try.isAgg3 ?_ | refine .r (i := 1) hs rfl (by kernel_rfl) .none (q_loadR rfl Try.isAgg3 (by assumption)) ?_
        refine .p (i := 2) rfl (by kernel_rfl) .none (q_move rfl) ?_
        first | refine .p (i := 3) rfl (by kernel_rfl) .none (q_fa0 rfl fa_api_Probe_0) ?_ | refine .p (i := 3) rfl (by kernel_rfl) .none (q_fa rfl fa_api_Probe_0) ?_
        first | refine .load (i := 4) hs rfl (by kernel_rfl) .none rfl Try.isAgg3 ?_ | refine .r (i := 4) hs rfl (by kernel_rfl) .none (q_loadR rfl Try.isAgg3 (by assumption)) ?_
        first | refine .p (i := 6) rfl (by kernel_rfl) .none (q_fa0 rfl fa_api_Probe_1) ?_ | refine .p (i := 6) rfl (by kernel_rfl) .none (q_fa rfl fa_api_Probe_1) ?_
        first | refine .load (i := 7) hs rfl (by kernel_rfl) .none rfl Try.isAgg3 ?_ | refine .r (i := 7) hs rfl (by kernel_rfl) .none (q_loadR rfl Try.isAgg3 (by assumption)) ?_
        first | refine .p (i := 8) rfl (by kernel_rfl) .none (q_mulF rfl rfl (by omega)) ?_ | refine .p (i := 8) rfl (by kernel_rfl) .none (q_mulU rfl rfl ⟨by omega, by omega⟩) ?_ | refine .p (i := 8) rfl (by kernel_rfl) .none (q_mul rfl rfl) ?_
        refine .e1 (i := 5) (by kernel_rfl) rfl rfl .none hs ?_
        refine .callG (first := []) (cap := [.pointer (some ⟨b5, 0, none⟩)]) rfl rfl Try.call180 (probe_double_1 (x := x.u) hs h5 (by omega) (by omega)) ?_; rintro _ w ⟨rfl, hs⟩
        refine .go ?_
        refine .p (i := 9) rfl (by kernel_rfl) .none (q_assign rfl) ?_
        refine .p (i := 10) rfl (by kernel_rfl) .none (q_assign rfl) ?_
        refine .p (i := 11) rfl (by kernel_rfl) .none (q_assign rfl) ?_
        refine .done (by kernel_rfl) hs ?_
        refine .region ?_
        first | refine .q hs (q_fa0 rfl fa_probe_doubled_1) ?_ | refine .q hs (q_fa rfl fa_probe_doubled_1) ?_
        first | refine .q hs (q_fa0 rfl fa_api_System_1) ?_ | refine .q hs (q_fa rfl fa_api_System_1) ?_
        first | refine .q hs (q_load rfl Try.isAgg30) ?_ | refine .q hs (q_loadR rfl Try.isAgg30 (by assumption)) ?_
        refine .q hs (q_move rfl) ?_
        refine .q hs (q_move rfl) ?_
        refine .q hs (q_move rfl) ?_
        refine .q hs (q_move rfl) ?_
        first | refine .q hs (q_addF rfl rfl (by omega)) ?_ | refine .q hs (q_addU rfl rfl ⟨by omega, by omega⟩) ?_ | refine .q hs (q_add rfl rfl) ?_
        refine .q hs (q_build (cells := [_, _, _, _]) bld_api_Limit rfl) ?_
        refine .q hs (q_move rfl) ?_
        refine .q hs (q_move rfl) ?_
        refine .q hs (q_move rfl) ?_
        refine .q hs (q_move rfl) ?_
        first | refine .q hs (q_addF rfl rfl (by omega)) ?_ | refine .q hs (q_addU rfl rfl ⟨by omega, by omega⟩) ?_ | refine .q hs (q_add rfl rfl) ?_
        refine .q hs (q_build (cells := [_, _, _, _]) bld_api_Limit rfl) ?_
        refine .o (.buildSlice (cells := Lims (prbLims a.sys.many k x)) hs bls_sl_api_Limit_2 rfl (by kernel_rfl) ?_); intro b99 w hs
        refine .o (.append (ys := Lims (prbLims a.sys.many k x)) hs app_sl_api_Limit_api_Limit rfl rfl hO (.own .here rfl rfl) (Lims_cell _) (fun l h => by rw [Lims_length] at h; simp [prbAll_length] at h; omega) ?_); intro v100 en100 w hO2 hs
        obtain ⟨a100, l100, c100, rfl, h100⟩ := hO2.shape
        first | refine .q hs (q_fa0 rfl fa_probe_doubled_1) ?_ | refine .q hs (q_fa rfl fa_probe_doubled_1) ?_
        first | refine .q hs (q_fa0 rfl fa_api_System_1) ?_ | refine .q hs (q_fa rfl fa_api_System_1) ?_
        refine .o (.store hs rfl rfl Try.sizeOf30 ?_); intro w hs
        refine .nil ?_
        refine nB (nT ?_)
        rw [← Lims_append, List.append_assoc, show prbAll a.sys.many 0 (l.take k) ++ prbLims a.sys.many k x = prbAll a.sys.many 0 (l.take (k + 1)) by rw [take_snoc hx, prbAll_snoc, Nat.zero_add, List.length_take]; congr 2; omega] at hO2
        exact .mk ⟨rfl, _, _, hO2, hs.sub (by repeat (first | exact Sub.refl _ | constructor | apply Sub.weaken))⟩
      · rintro fr w ⟨rfl, vp2, en2, hO2, hs⟩
        rw [List.take_length] at hO2
        obtain ⟨a2', l2', c2', rfl, hl2'⟩ := hO2.shape
        have hw1 := hw.mono hle1
        refine nT ?_
        refine .seq ?_
        refine .regSeq ?_
        first | refine .q hs (q_fa0 rfl fa_probe_doubled_0) ?_ | refine .q hs (q_fa rfl fa_probe_doubled_0) ?_
        first | refine .q hs (q_fa0 rfl fa_api_Ask_1) ?_ | refine .q hs (q_fa rfl fa_api_Ask_1) ?_
        first | refine .q hs (q_load rfl Try.isAgg22) ?_ | refine .q hs (q_loadR rfl Try.isAgg22 (by assumption)) ?_
        first | refine .q hs (q_len rfl Try.runUnderlying22) ?_ | refine .q hs (q_lenR (by assumption) rfl Try.runUnderlying22) ?_ | refine .q hs (q_lenI (by assumption) rfl Try.runUnderlying22) ?_
        refine .q hs (q_move rfl) ?_
        refine .nil ?_
        refine .for (N := a.ws.length) (J := fun k fr w => fr = [(106, .slice aw a.ws.length cw), (7, .func (.func 180) #[] #[.pointer (some ⟨b5, 0, none⟩)]), (6, .pointer (some ⟨b6, 0, none⟩)), (4, .pointer (some ⟨b4, 0, none⟩))] ∧   ∃ W, (W.length = 2 * n + 1 ∧ ∀ v < 2 * n + 1, gi W v = if v = 0 then 0 else if v ≤ n then (if v < k then -gi a.ws v else 0) else (if v - n < k then gi a.ws (v - n) else 0)) ∧ St H1 w (.blk b6 [I a.sys.many, .slice al a.sys.lims.length cpl, .slice aw a.ws.length cw, I a.width, I (2 * a.sys.many), .slice a2' l2' c2', .slice (some ⟨bw, 0, none⟩) (2 * n + 1) (2 * n + 1)] ::     .blk bw (Is W) :: .blk b4 [I 0, .slice none 0 0, .slice none 0 0, I 0, I 0, .slice none 0 0, .slice none 0 0] :: en2 :: σ)) (by omega) ?_ ?_ ?_
        · exact .mk ⟨rfl, _, ⟨by simp, fun v hv => by rw [gi_replicate _ _ hv]; split; rfl; split <;> rw [if_neg (by omega)]⟩, hs⟩
        · rintro k fr w hk ⟨rfl, W, ⟨hW1, hW2⟩, hs⟩
          have hx := gi_get hk
          have hsz := sizes_at a.ws (v := k) (n := a.sys.n) (by rw [← hok.wl]; exact hk)
          have hsz2 := hok.ws
          refine .block ?_
          refine .regSeq ?_
          refine .q hs (q_move rfl) ?_
          first | (refine .ixY hs (by assumption) rfl rfl Try.runUnderlying22 Try.sizeOf3 (by assumption) (by first | rfl | omega) ?_; intro b111 o111 hc111) | refine .q hs (q_ixO rfl rfl Try.runUnderlying22 Try.sizeOf3 (by first | rfl | omega) (by first | assumption | omega)) ?_  -- indexAddr <[]int> t106 t108
          first | refine .q hs (q_load rfl Try.isAgg3) ?_ | refine .q hs (q_loadR rfl Try.isAgg3 (by assumption)) ?_
          refine .q hs (q_assign rfl) ?_
          refine .q hs (q_assign rfl) ?_
          refine .nil ?_
          refine .regSeq ?_
          refine .q hs (q_move rfl) ?_
          refine .q hs (q_gtr rfl rfl) ?_
          refine .nil ?_
          refine (.condD rfl (fun hc114 => ?_) (fun hc114 => ?_))
          · refine .draw mix rfl hs ?_; intro w hs
            first | refine .p (i := 0) rfl (by kernel_rfl) .none (q_fa0 rfl fa_probe_doubled_2) ?_ | refine .p (i := 0) rfl (by kernel_rfl) .none (q_fa rfl fa_probe_doubled_2) ?_
            first | refine .load (i := 1) hs rfl (by kernel_rfl) .none rfl Try.isAgg22 ?_ | refine .r (i := 1) hs rfl (by kernel_rfl) .none (q_loadR rfl Try.isAgg22 (by assumption)) ?_
            refine .p (i := 2) rfl (by kernel_rfl) .none (q_move rfl) ?_
            first | refine .p (i := 3) rfl (by kernel_rfl) .none (q_fa0 rfl fa_probe_doubled_2) ?_ | refine .p (i := 3) rfl (by kernel_rfl) .none (q_fa rfl fa_probe_doubled_2) ?_
            first | refine .load (i := 4) hs rfl (by kernel_rfl) .none rfl Try.isAgg22 ?_ | refine .r (i := 4) hs rfl (by kernel_rfl) .none (q_loadR rfl Try.isAgg22 (by assumption)) ?_
            refine .p (i := 5) rfl (by kernel_rfl) .none (q_move rfl) ?_
            refine .p (i := 6) rfl (by kernel_rfl) .none (q_move rfl) ?_
            refine .p (i := 8) rfl (by kernel_rfl) .none (q_move rfl) ?_
            first | refine .p (i := 9) rfl (by kernel_rfl) .none (q_negF rfl (by omega)) ?_ | refine .p (i := 9) rfl (by kernel_rfl) .none (q_neg rfl) ?_
            refine .p (i := 10) rfl (by kernel_rfl) .none (q_move rfl) ?_
            refine .e1 (i := 7) (by kernel_rfl) rfl rfl .none hs ?_
            have hmv : movedI a.sys.many (k : Int) = ((k + n : Nat) : Int) := by unfold movedI; rw [if_neg (by omega)]; omega
            refine .callG (first := []) (cap := [.pointer (some ⟨b5, 0, none⟩)]) rfl rfl Try.call180 (probe_double_1 (x := (k : Int)) hs h5 (by omega) (by omega)) ?_; rintro _ w ⟨rfl, hs⟩
            refine .go ?_
            refine .p (i := 11) rfl (by kernel_rfl) .none (q_ixO (k := k) rfl rfl Try.runUnderlying22 Try.sizeOf3 rfl (by omega)) ?_
            refine .e1 (i := 12) (by kernel_rfl) rfl rfl .none hs ?_
            refine .store hs rfl rfl Try.sizeOf3 ?_ (by repeat constructor) (blt_Is (by omega)) (Is_set _ _ _); intro w hs
            refine .go ?_
            refine .p (i := 13) rfl (by kernel_rfl) .none (q_ixO (k := k + n) rfl rfl Try.runUnderlying22 Try.sizeOf3 hmv (by omega)) ?_
            refine .e1 (i := 14) (by kernel_rfl) rfl rfl .none hs ?_
            refine .store hs rfl rfl Try.sizeOf3 ?_ (by repeat constructor) (blt_Is (by rw [List.length_set]; omega)) (Is_set _ _ _); intro w hs
            refine .go ?_
            refine .done (by kernel_rfl) hs ?_
            refine nB (nT ?_)
            refine .mk ⟨rfl, _, ⟨by rw [List.length_set, List.length_set]; exact hW1, fun v hv => ?_⟩, hs⟩
            rw [gi_set (by rw [List.length_set]; omega), gi_set (by omega), hW2 v hv]
            by_cases e1 : v = k + n
            · subst e1; rw [if_pos rfl, if_neg (by omega), if_neg (by omega), if_pos (by omega), Nat.add_sub_cancel]
            · rw [if_neg e1]
              by_cases e3 : v = k
              · subst e3; rw [if_pos rfl, if_neg (by omega), if_pos (by omega), if_pos (by omega)]
              · rw [if_neg e3]
                by_cases e4 : v = 0
                · rw [if_pos e4, if_pos e4]
                · rw [if_neg e4, if_neg e4]
                  by_cases e5 : v ≤ n
                  · rw [if_pos e5, if_pos e5]; congr 1; apply propext; omega
                  · rw [if_neg e5, if_neg e5]; congr 1; apply propext; omega
          · refine .skip ?_
            refine nB (nT ?_)
            refine .mk ⟨rfl, W, ⟨hW1, fun v hv => ?_⟩, hs⟩
            rw [hW2 v hv]
            by_cases e4 : v = 0
            · rw [if_pos e4, if_pos e4]
            · rw [if_neg e4, if_neg e4]
              by_cases e5 : v ≤ n
              · rw [if_pos e5, if_pos e5]; congr 1; apply propext; omega
              · rw [if_neg e5, if_neg e5]; congr 1; apply propext; omega
        · rintro fr w ⟨rfl, W, ⟨hW1, hW2⟩, hs⟩
          obtain rfl : W = dblW a.ws := ext_gi (by rw [hW1, dblW_length]; omega) (fun v hv => by
            rw [hW2 v (by omega), dblW_get hwl]
            by_cases e4 : v = 0
            · rw [if_pos e4, if_pos e4]
            · rw [if_neg e4, if_neg e4]
              by_cases e5 : v ≤ n
              · rw [if_pos e5, if_pos e5, if_pos (by omega)]
              · rw [if_neg e5, if_neg e5, if_pos (by omega)])
          refine nT ?_
          refine .regSeq ?_
          first | refine .q hs (q_loads (vs := [_, _, _, _, _, _, _]) rfl Try.isAgg132 Try.sizeOf132) ?_ | refine .q hs (q_loadsR (vs := [_, _, _, _, _, _, _]) rfl Try.isAgg132 Try.sizeOf132 (by assumption)) ?_
          refine .o (.stores (vs := [_, _, _, _, _, _, _]) hs rfl rfl Try.sizeOf132 ?_); intro w hs
          refine .nil ?_
          refine .ret ?_
          obtain ⟨H2, g1, g2, hs⟩ := OwnS.publish (cs := (dblS a l).lims.map Lim.c) hO2 (fun c hc => by simp only [List.mem_map] at hc; obtain ⟨x, _, rfl⟩ := hc; rfl) (by omega) (by have := (dblS_ok hok hlen hin).len; rw [List.length_map]; omega) hs (by repeat constructor)
          obtain ⟨H3, g3, g4, hs⟩ := hs.publish (b := bw) (c := Is (dblW a.ws)) (by repeat constructor)
          have hrw : RI H3 (.slice (some ⟨bw, 0, none⟩) (2 * n + 1) (2 * n + 1)) (dblW a.ws) := by
            have := Row.RI (spare := []) (by simpa using g4) (2 * n + 1) (by omega) (by omega)
            rwa [hW1] at this
          exact Fin.retD [] [] hs fun w hs => ⟨_, results1 Try.results98 (rcells (vs := [_, _, _, _, _, _, _]) hs rfl Try.isAgg132 Try.sizeOf132), H3, _, _, _, _, hle1.trans (g1.trans g3), rfl, hl.mono (hle1.trans (g1.trans g3)), hw.mono (hle1.trans (g1.trans g3)), RS.mono g2 g3, hrw, hs.out⟩
end Go.Proofs.Ytiiokdeehlfeeaa

/-
  Walks: the greatest width that probes leave.
-/
namespace Go.Proofs.Ytiiokdeehlfeeaa
open Go.MW
theorem probe_worst_spec {H : Heap} {w : World} {σ : List Ent} {v vl : Value} {a : Quest} {l : List Prb} (hs : St H w σ) (hr : RAsk H v a) (hp : RPs H vl l) (hok : AskOk a) (hlen : l.length ≤ 8) (hin : ∀ p ∈ l, PrbIn a p) :
    Cl Try.prog 185 [v, vl] w fun u w' => ∃ H1 n, HLe H H1 ∧ u = .tuple #[I n, I 0] ∧ PairS a l n ∧ St H1 w' σ := by
  obtain ⟨ul, uw, rfl, hl, hw⟩ := hr
  refine Cl.of Try.func185 rfl Try.ntmps185 (by simp) (args_cons (k := 0) rfl (args_cons (k := 1) rfl (args0))) ?_
  refine .regSeq ?_
  refine .o (.box hs rfl rfl ?_); intro b2 w hs
  refine .q hs (q_assign rfl) ?_
  refine .q hs (q_assign rfl) ?_
  refine .nil ?_
  refine .regSeq ?_
  first | refine .q hs (q_loads (vs := [_, _, _, _]) rfl Try.isAgg34 Try.sizeOf34) ?_ | refine .q hs (q_loadsR (vs := [_, _, _, _]) rfl Try.isAgg34 Try.sizeOf34 (by assumption)) ?_
  refine .q hs (q_move rfl) ?_
  refine .o (.call Try.call98 rfl (probe_double_spec (a := a) hs ⟨_, _, rfl, hl, hw⟩ hp hok hlen hin) ?_); rintro _ w ⟨H1, ul1, uw1, vp, vw, hle1, rfl, hl1, hw1, hvp, hvw, hs⟩
  obtain ⟨al1, cl1, rfl⟩ := RL.shape hl1; obtain ⟨aw1, cw1, rfl⟩ := RI.shape hw1; obtain ⟨ap1, cp1, rfl⟩ := RL.shape hvp; obtain ⟨av1, cv1, rfl⟩ := RI.shape hvw
  refine .o (.alloc hs Try.zeroValue132 rfl ?_); intro b6 w hs
  refine .o (.stores (vs := [_, _, _, _, _, _, _]) hs rfl rfl Try.sizeOf132 ?_); intro w hs
  refine .nil ?_
  refine .regSeq ?_
  first | refine .q hs (q_fa0 rfl fa_probe_doubled_1) ?_ | refine .q hs (q_fa rfl fa_probe_doubled_1) ?_
  first | refine .q hs (q_loads (vs := [_, _]) rfl Try.isAgg32 Try.sizeOf32) ?_ | refine .q hs (q_loadsR (vs := [_, _]) rfl Try.isAgg32 Try.sizeOf32 (by assumption)) ?_
  first | refine .q hs (q_fa0 rfl fa_probe_doubled_2) ?_ | refine .q hs (q_fa rfl fa_probe_doubled_2) ?_
  first | refine .q hs (q_load rfl Try.isAgg22) ?_ | refine .q hs (q_loadR rfl Try.isAgg22 (by assumption)) ?_
  refine .o (.call Try.call56 rfl (bound_Most_spec (s := dblS a l) hs ⟨_, rfl, hvp⟩ hvw) ?_); rintro _ w ⟨H2, n, e, hle2, rfl, hM, hs⟩
  obtain ⟨rfl, hPS⟩ := dbl_most hok hlen hin hM
  refine .q hs (q_extract rfl rfl) ?_
  refine .q hs (q_extract rfl rfl) ?_
  refine .q hs (q_assign rfl) ?_
  refine .q hs (q_assign rfl) ?_
  refine .nil ?_
  refine .ret (Fin.ret2 Try.results185 rfl rfl ?_)
  exact ⟨H2, n, hle1.trans hle2, rfl, hPS, hs.out⟩
/-- what is proved of the doubled system -/
def ShownR (a : Quest) (l : List Prb) (n : Int) (us : List Use) : Prop :=
  PairS a l n ∧ (dblS a l).Ok ∧ sizesTo (dblW a.ws) (dblS a l).n ≤ FF ∧ ∃ ts, FlowOk (dblS a l).n (dblS a l).arcs (wtOf (dblW a.ws) (dblS a l).n) ts ∧ n = dot (dblS a l).arcs ts (·.c) ∧ us = usesTo ts ts.length
theorem probe_Worst_1 {H : Heap} {w : World} {σ : List Ent} {v vl : Value} {a : Quest} {l : List Prb} {bl : Nat} (hs : St H w σ) (hr : RAsk H v a) (hb : Row H bl [vl]) (hp : RPs H vl l) (hok : AskOk a) (hlen : l.length ≤ 8) (hin : ∀ p ∈ l, PrbIn a p) :
    Cl Try.prog 97 [v, .pointer (some ⟨bl, 0, none⟩)] w fun u w' => ∃ H1 vp n us, HLe H H1 ∧ u = .tuple #[vp, I 0] ∧ RPf H1 vp n us ∧ ShownR a l n us ∧ St H1 w' σ := by
  obtain ⟨ul, uw, rfl, hl, hw⟩ := hr
  obtain ⟨al, cpl, rfl⟩ := RPs.shape hp
  have hb0 := hb.at 0
  refine Cl.of Try.func97 rfl Try.ntmps97 (by simp) (args_cons (k := 0) rfl (args_cons (k := 1) rfl (args0))) ?_
  refine .regSeq ?_
  refine .o (.box hs rfl rfl ?_); intro b2 w hs
  refine .o (.alloc hs Try.zeroValue40 rfl ?_); intro b3 w hs
  refine .q hs (q_assign rfl) ?_
  refine .nil ?_
  refine .regSeq ?_
  first | refine .q hs (q_loads (vs := [_, _, _, _]) rfl Try.isAgg34 Try.sizeOf34) ?_ | refine .q hs (q_loadsR (vs := [_, _, _, _]) rfl Try.isAgg34 Try.sizeOf34 (by assumption)) ?_
  refine .q hs (q_loadR rfl Try.isAgg35 hb0) ?_
  refine .o (.call Try.call98 rfl (probe_double_spec (a := a) hs ⟨_, _, rfl, hl, hw⟩ hp hok hlen hin) ?_); rintro _ w ⟨H1, ul1, uw1, vp, vw, hle1, rfl, hl1, hw1, hvp, hvw, hs⟩
  obtain ⟨al1, cl1, rfl⟩ := RL.shape hl1; obtain ⟨aw1, cw1, rfl⟩ := RI.shape hw1; obtain ⟨ap1, cp1, rfl⟩ := RL.shape hvp; obtain ⟨av1, cv1, rfl⟩ := RI.shape hvw
  refine .o (.alloc hs Try.zeroValue132 rfl ?_); intro b5 w hs
  refine .o (.stores (vs := [_, _, _, _, _, _, _]) hs rfl rfl Try.sizeOf132 ?_); intro w hs
  refine .nil ?_
  refine .regSeq ?_
  first | refine .q hs (q_fa0 rfl fa_probe_doubled_1) ?_ | refine .q hs (q_fa rfl fa_probe_doubled_1) ?_
  first | refine .q hs (q_loads (vs := [_, _]) rfl Try.isAgg32 Try.sizeOf32) ?_ | refine .q hs (q_loadsR (vs := [_, _]) rfl Try.isAgg32 Try.sizeOf32 (by assumption)) ?_
  first | refine .q hs (q_fa0 rfl fa_probe_doubled_2) ?_ | refine .q hs (q_fa rfl fa_probe_doubled_2) ?_
  first | refine .q hs (q_load rfl Try.isAgg22) ?_ | refine .q hs (q_loadR rfl Try.isAgg22 (by assumption)) ?_
  refine .o (.call Try.call62 rfl (bound_Prove_spec (s := dblS a l) hs ⟨_, rfl, hvp⟩ hvw) ?_); rintro _ w ⟨H2, _, n, us, e, hle2, rfl, hM, ⟨vu, rfl, hU⟩, -, h0, hs⟩
  obtain ⟨rfl, hPS⟩ := dbl_most hok hlen hin hM
  obtain ⟨au, cu, rfl⟩ := RU.shape hU
  refine .q hs (q_extract rfl rfl) ?_
  refine .q hs (q_extract rfl rfl) ?_
  refine .o (.stores (vs := [_, _]) hs rfl rfl Try.sizeOf40 ?_); intro w hs
  refine .q hs (q_assign rfl) ?_
  refine .nil ?_
  refine .ret ?_
  exact Fin.retD [] [] hs fun w hs => ⟨_, results2 Try.results97 (rcells (vs := [_, _]) hs rfl Try.isAgg40 Try.sizeOf40) rfl, H2, _, n, us, hle1.trans hle2, rfl, ⟨_, rfl, hU⟩, ⟨hPS, h0 rfl⟩, hs.out⟩
theorem probe_Worst_spec {H : Heap} {w : World} {σ : List Ent} {v vl : Value} {a : Quest} {l : List Prb} (hs : St H w σ) (hr : RAsk H v a) (hp : RPs H vl l) :
    Cl Try.prog 23 [v, vl] w fun u w' => ∃ H1 vp n us e, HLe H H1 ∧ u = .tuple #[I n, vp, I e] ∧ RPf H1 vp n us ∧ ((CPrbR a l e ∧ e ≠ 0 ∧ n = 0 ∧ us = []) ∨ (CPrbR a l 0 ∧ e = 0 ∧ ShownR a l n us)) ∧ St H1 w' σ := by
  obtain ⟨ul, uw, rfl, hl, hw⟩ := hr
  obtain ⟨al, cpl, rfl⟩ := RPs.shape hp
  refine Cl.of Try.func23 rfl Try.ntmps23 (by simp) (args_cons (k := 0) rfl (args_cons (k := 1) rfl (args0))) ?_
  refine .regSeq ?_
  refine .o (.box hs rfl rfl ?_); intro b2 w hs
  refine .o (.box hs rfl rfl ?_); intro b3 w hs
  refine .q hs (q_assign rfl) ?_
  refine .o (.alloc hs Try.zeroValue40 rfl ?_); intro b5 w hs
  refine .q hs (q_assign rfl) ?_
  refine .nil ?_
  refine .regSeq ?_
  first | refine .q hs (q_loads (vs := [_, _, _, _]) rfl Try.isAgg34 Try.sizeOf34) ?_ | refine .q hs (q_loadsR (vs := [_, _, _, _]) rfl Try.isAgg34 Try.sizeOf34 (by assumption)) ?_
  first | refine .q hs (q_load rfl Try.isAgg35) ?_ | refine .q hs (q_loadR rfl Try.isAgg35 (by assumption)) ?_
  refine .q hs (q_makeFunc (f := []) (c := [_]) rfl rfl) ?_
  obtain ⟨H0, hle0, hb3, hs⟩ := hs.publish (b := b3) (by repeat constructor)
  refine .o (.call Try.call96 rfl (probe_told_Proof (R := fun _ n us e => e = 0 ∧ ShownR a l n us) (a := a) (l := l) (cap := [.pointer (some ⟨b3, 0, none⟩)]) hs ⟨_, _, rfl, hl.mono hle0, hw.mono hle0⟩ (hp.mono hle0) Try.call97 ?_) ?_)
  · rintro H' w σ' hle hC hs
    obtain ⟨hok, hlen, hin⟩ := hC.zero
    exact (probe_Worst_1 (a := a) (l := l) hs ⟨_, _, rfl, (hl.mono hle0).mono hle, (hw.mono hle0).mono hle⟩ (hb3.mono hle) ((hp.mono hle0).mono hle) hok hlen (fun p h => (hin p h).inn)).mono fun u w' ⟨H1, vp, n, us, h1, h2, h3, h4, h5⟩ => ⟨H1, vp, n, us, 0, h1, h2, h3, ⟨rfl, h4⟩, h5⟩
  rintro _ w ⟨H1, _, n, us, e, hle1, rfl, ⟨vu, rfl, hU⟩, hcase, hs⟩
  obtain ⟨au, cu, rfl⟩ := RU.shape hU
  refine .q hs (q_move rfl) ?_
  refine .q hs (q_extract rfl rfl) ?_
  refine .q hs (q_extract rfl rfl) ?_
  refine .o (.alloc hs Try.zeroValue40 rfl ?_); intro b7 w hs
  refine .o (.stores (vs := [_, _]) hs rfl rfl Try.sizeOf40 ?_); intro w hs
  refine .q hs (q_assign rfl) ?_
  refine .nil ?_
  refine .seq (.draw mix rfl hs ?_); intro w hs
  first | refine .p (i := 0) rfl (by kernel_rfl) .none (q_fa0 rfl fa_api_Proof_0) ?_ | refine .p (i := 0) rfl (by kernel_rfl) .none (q_fa rfl fa_api_Proof_0) ?_
  first | refine .load (i := 1) hs rfl (by kernel_rfl) .none rfl Try.isAgg3 ?_ | refine .r (i := 1) hs rfl (by kernel_rfl) .none (q_loadR rfl Try.isAgg3 (by assumption)) ?_
  first | refine .loads (i := 2) (vs := [_, _]) hs rfl (by kernel_rfl) .none rfl Try.isAgg40 Try.sizeOf40 ?_ | refine .r (i := 2) hs rfl (by kernel_rfl) .none (q_loadsR (vs := [_, _]) rfl Try.isAgg40 Try.sizeOf40 (by assumption)) ?_
  refine .p (i := 3) rfl (by kernel_rfl) .none (q_move rfl) ?_
  refine .p (i := 4) rfl (by kernel_rfl) .none (q_assign rfl) ?_
  refine .e1 (i := 5) (by kernel_rfl) rfl rfl .none hs ?_
  refine .stores (vs := [_, _]) hs rfl rfl Try.sizeOf40 ?_; intro w hs
  refine .go ?_
  refine .p (i := 6) rfl (by kernel_rfl) .none (q_assign rfl) ?_
  refine .done (by kernel_rfl) hs ?_
  refine .ret ?_
  exact Fin.retD [] [] hs fun w hs => ⟨_, results3 Try.results23 rfl (rcells (vs := [_, _]) hs rfl Try.isAgg40 Try.sizeOf40) rfl, H1, _, n, us, e, hle0.trans hle1, rfl, ⟨_, rfl, hU⟩, hcase, hs.out⟩
end Go.Proofs.Ytiiokdeehlfeeaa

/-
  Walks: the choices of probes.
-/
namespace Go.Proofs.Ytiiokdeehlfeeaa
open Go.MW
theorem probe_choices_walk {L : List (List Int)} {H : Heap} {n by' bn bw l : Nat} {II : Nat → Heap → List Ent → Prop} {Ix : Heap → List Ent → Prop}
    (hy : Row H by' [.func (.yield l) #[] #[]]) (hn : Row H bn [I n]) (hw : Row H bw [.func (.func 204) #[] #[.pointer (some ⟨by', 0, none⟩), .pointer (some ⟨bn, 0, none⟩), .pointer (some ⟨bw, 0, none⟩)]]) (hn8 : n ≤ 1000)
    (hmI : ∀ k H1 H2 σ, HLe H1 H2 → II k H1 σ → II k H2 σ)
    (hyd : ∀ k z H' σb σf w, HLe H H' → (∃ v c, z = [v] ∧ L[k]? = some c ∧ nnil v = true ∧ RI H' v c) → II k H' σb → St H' w (σb ++ σf) →
      Yd Try.prog l z w fun v w' => ∃ H'' σb', HLe H' H'' ∧ St H'' w' (σb' ++ σf) ∧ ((v = .bool true ∧ II (k + 1) H'' σb') ∨ (v = .bool false ∧ Ix H'' σb'))) :
    ∀ (m : Nat) (p : List Int) (f k0 : Nat) (sp : List Int) (b : Nat) (H0 : Heap) (σb σf : List Ent) (w : World), HLe H H0 → p.length + m ≤ 3 → sp.length = m → (∀ i c, (walkL n m f)[i]? = some c → L[k0 + i]? = some (p ++ c)) →
      (p = [] → f = 0) → (∀ x, p.getLast? = some x → x + 1 = f) → f ≤ n → II k0 H0 σb → St H0 w (.blk b (Is (p ++ sp)) :: (σb ++ σf)) →
      Cl Try.prog 204 [.slice (some ⟨b, 0, none⟩) p.length (p.length + m), I m, .pointer (some ⟨by', 0, none⟩), .pointer (some ⟨bn, 0, none⟩), .pointer (some ⟨bw, 0, none⟩)] w fun v w' =>
        ∃ H1 σb' sp', HLe H0 H1 ∧ sp'.length = m ∧ St H1 w' (.blk b (Is (p ++ sp')) :: (σb' ++ σf)) ∧ ((v = .bool true ∧ II (k0 + (walkL n m f).length) H1 σb') ∨ (v = .bool false ∧ Ix H1 σb')) := by
  intro m
  induction m using Nat.strongRecOn with
  | _ m ih =>
  intro p f k0 sp b H0 σb σf w hle hpm hsp hpart hp0 hpl hfn hI hs
  have hy0 := (hy.mono hle).at 0
  have hn0 := (hn.mono hle).at 0
  have hw0 := (hw.mono hle).at 0
  refine Cl.of Try.func204 rfl Try.ntmps204 (by simp) (args_cons (k := 0) rfl (args_cons (k := 1) rfl (args_cons (k := 2) rfl (args_cons (k := 3) rfl (args_cons (k := 4) rfl (args0)))))) ?_
  refine .regSeq ?_
  refine .q hs (q_assign rfl) ?_
  refine .nil ?_
  refine .seq ?_
  refine .regSeq ?_
  refine .q hs (q_move rfl) ?_
  refine .q hs (q_eql rfl rfl) ?_
  refine .nil ?_
  refine (.condD rfl (fun hc11 => ?_) (fun hc11 => ?_))
  · refine .seq (.draw mix rfl hs ?_); intro w hs
    refine .r (i := 0) hs rfl (by kernel_rfl) .none (q_loadR rfl Try.isAgg157 hy0) ?_
    refine .p (i := 1) rfl (by kernel_rfl) .none (q_move rfl) ?_
    refine .e1 (i := 2) (by kernel_rfl) rfl rfl .none hs ?_
    have hm0 : m = 0 := by omega
    subst hm0
    obtain rfl : sp = [] := List.length_eq_zero_iff.1 hsp
    obtain ⟨H1, hle1, hrow, hs, -, back⟩ := hs.lend
    refine .call Try.call128 rfl (slices_Clone_intN hs (by have hrow' : Row H1 b (Is p ++ []) := (by simpa using hrow); exact hrow'.RI (p.length + 0) (by omega) (by omega)) (by omega)) ?_; rintro v14 w ⟨en14, hnn, hO, hs⟩
    replace hs := back (HLe.refl _) hs
    obtain ⟨H2, hle2, hRI, hs⟩ := hO.publishI (by omega) hs (.there .here)
    obtain ⟨av, cv, rfl⟩ := hRI.shape
    refine .go ?_
    refine .e1 (i := 3) (by kernel_rfl) rfl rfl .none hs ?_
    refine .yield (vs := [.slice av p.length cv]) rfl rfl (hyd k0 _ H2 σb _ w (hle.trans hle2) ⟨_, p, rfl, by simpa using hpart 0 [] rfl, hnn rfl, hRI⟩ (hmI _ _ _ _ hle2 hI) hs.mid) ?_; rintro v15 w ⟨H3, σ3, hle3, hs, g3⟩
    refine .go ?_
    refine .p (i := 4) rfl (by kernel_rfl) .none (q_assign rfl) ?_
    refine .done (by kernel_rfl) hs ?_
    refine .ret (rT (Fin.ret1 Try.results204 rfl ?_))
    exact ⟨H3, σ3, [], hle2.trans hle3, rfl, hs.unmid, g3⟩
  · refine .skip ?_
    refine nT ?_
    refine .regSeq ?_
    refine .q hs (q_assign rfl) ?_
    refine .nil ?_
    refine .seq ?_
    refine .regSeq ?_
    obtain ⟨m', rfl⟩ : ∃ m', m = m' + 1 := ⟨m - 1, by omega⟩
    refine .q hs (q_move rfl) ?_
    first | refine .q hs (q_len rfl Try.runUnderlying22) ?_ | refine .q hs (q_lenR (by assumption) rfl Try.runUnderlying22) ?_ | refine .q hs (q_lenI (by assumption) rfl Try.runUnderlying22) ?_
    refine .q hs (q_gtr rfl rfl) ?_
    refine .nil ?_
    refine (.condD rfl (fun hc18 => ?_) (fun hc18 => ?_))
    · refine .region ?_
      refine .q hs (q_move rfl) ?_
      refine .q hs (q_move rfl) ?_
      first | refine .q hs (q_len rfl Try.runUnderlying22) ?_ | refine .q hs (q_lenR (by assumption) rfl Try.runUnderlying22) ?_ | refine .q hs (q_lenI (by assumption) rfl Try.runUnderlying22) ?_
      first | refine .q hs (q_subF rfl rfl (by omega)) ?_ | refine .q hs (q_sub rfl rfl) ?_
      obtain ⟨x, hx⟩ : ∃ x, p.getLast? = some x := ⟨p.getLast (by intro h; subst h; simp at hc18), List.getLast?_eq_some_getLast _⟩
      have hxf := hpl x hx
      have hxc : (Is (p ++ sp))[p.length - 1]? = some (I x) := by
        rw [List.getLast?_eq_getElem?] at hx
        have hlt := (List.getElem?_eq_some_iff.1 hx).1
        rw [List.getElem?_map, List.getElem?_append_left hlt, hx]; rfl
      refine .q hs (q_ixO (k := p.length - 1) rfl rfl Try.runUnderlying22 Try.sizeOf3 (by omega) (by omega)) ?_
      refine .q hs (q_load rfl Try.isAgg3 .here hxc) ?_
      first | refine .q hs (q_addF rfl rfl (by omega)) ?_ | refine .q hs (q_addU rfl rfl ⟨by omega, by omega⟩) ?_ | refine .q hs (q_add rfl rfl) ?_
      refine .q hs (q_assign rfl) ?_
      refine .nil ?_
      refine nT ?_
      refine .seq ?_
      refine .regSeq ?_
      refine .q hs (q_move rfl) ?_
      refine .q hs (q_assign rfl) ?_
      refine .nil ?_
      refine .block ?_
      refine .loop (fun q : Nat × Heap × List Ent × List Int => ⟨41, [], [(9, I ((f + q.1 : Nat) : Int)), (0, .slice (some ⟨b, 0, none⟩) p.length (p.length + (m' + 1))), (1, I ((m' + 1 : Nat) : Int)), (3, .pointer (some ⟨bn, 0, none⟩)), (4, .pointer (some ⟨bw, 0, none⟩))]⟩)
        (fun q w => q.1 ≤ n - f ∧ HLe H0 q.2.1 ∧ q.2.2.2.length = m' + 1 ∧ II (k0 + walkTo n m' f q.1) q.2.1 q.2.2.1 ∧ St q.2.1 w (.blk b (Is (p ++ q.2.2.2)) :: (q.2.2.1 ++ σf))) (fun q => n - f - q.1) (0, H0, σb, sp)
        (.consI rfl (by omega) (by repeat (first | exact .nil rfl rfl | refine .cons rfl ?_))) ⟨Nat.zero_le _, HLe.refl _, hsp, hI, hs⟩ ?_
      rintro ⟨j, H1, σ1, sp1⟩ w ⟨hj, hle1, hsp1, hI1, hs⟩
      dsimp only at hj hle1 hsp1 hI1 hs ⊢
      have hn1 := (hn.mono (hle.trans hle1)).at 0
      have hw1 := (hw.mono (hle.trans hle1)).at 0
      refine .seq ?_
      refine .regSeq ?_
      refine .q hs (q_move rfl) ?_
      refine .q hs (q_loadR rfl Try.isAgg3 hn1) ?_
      refine .q hs (q_lss rfl rfl) ?_
      refine .nil ?_
      refine (.condD rfl (fun hc29 => ?_) (fun hc29 => ?_))
      · refine .skip ?_
        refine nT ?_
        refine .seq ?_
        refine .block ?_
        refine .seq (.draw mix rfl hs ?_); intro w hs
        obtain ⟨z0, sp2, rfl⟩ : ∃ z0 sp2, sp1 = z0 :: sp2 := by cases sp1 with | nil => simp at hsp1 | cons z0 sp2 => exact ⟨z0, sp2, rfl⟩
        have e0 : Is (p ++ z0 :: sp2) = Is p ++ I z0 :: Is sp2 := by simp
        rw [e0] at hs
        refine .r (i := 0) hs rfl (by kernel_rfl) .none (q_loadR rfl Try.isAgg108 hw1) ?_
        refine .p (i := 1) rfl (by kernel_rfl) .none (q_move rfl) ?_
        refine .p (i := 2) rfl (by kernel_rfl) .none (q_move rfl) ?_
        refine .p (i := 5) rfl (by kernel_rfl) .none (q_move rfl) ?_
        first | refine .p (i := 6) rfl (by kernel_rfl) .none (q_subF rfl rfl (by omega)) ?_ | refine .p (i := 6) rfl (by kernel_rfl) .none (q_sub rfl rfl) ?_
        refine .e1 (i := 3) (by kernel_rfl) rfl rfl .none hs ?_
        refine .buildSlice (cells := [_]) hs bls_sl_int_1 rfl rfl ?_; intro b35 w hs
        refine .go ?_
        refine .e1 (i := 4) (by kernel_rfl) rfl rfl .none hs ?_
        refine .appendIn hs app_sl_int_int rfl rfl rfl .here (by simp) (by omega) (.there .here) ?_; intro w hs
        refine .go ?_
        refine .e1 (i := 7) (by kernel_rfl) rfl rfl .none hs ?_
        have hcall := ih m' (by omega) (p ++ [((f + j : Nat) : Int)]) (f + j + 1) (k0 + walkTo n m' f j) sp2 b H1 σ1 σf w (hle.trans hle1) (by simp; omega) (by simpa using hsp1)
          (fun i c h => by have := hpart _ _ (walkL_get (by omega) h); rw [Nat.add_assoc]; simpa using this) (by simp) (fun y h => by rw [last_snoc h]; omega) (by omega) hI1
          (by have e1 : Is p ++ I ((f + j : Nat) : Int) :: Is sp2 = Is (p ++ [((f + j : Nat) : Int)] ++ sp2) := by simp
              rw [← e1]; exact hs.tail)
        rw [List.length_append, List.length_singleton, show p.length + 1 + m' = p.length + (m' + 1) by omega, show ((m' : Nat) : Int) = ((m' + 1 : Nat) : Int) - 1 by omega] at hcall
        refine .callG (first := []) (cap := [.pointer (some ⟨by', 0, none⟩), .pointer (some ⟨bn, 0, none⟩), .pointer (some ⟨bw, 0, none⟩)]) rfl rfl Try.call204 hcall ?_; rintro v39 w ⟨H2, σ2, sp3, hle2, hsp3, hs, g3⟩
        obtain ⟨bb, rfl, gT, gF⟩ := yd_bool g3
        have e2 : p ++ [((f + j : Nat) : Int)] ++ sp3 = p ++ ((f + j : Nat) : Int) :: sp3 := by simp
        rw [e2] at hs
        refine .go ?_
        refine .p (i := 8) rfl (by kernel_rfl) .none (q_not rfl) ?_
        refine .done (by kernel_rfl) hs ?_
        refine (.cond rfl (fun hc40 => ?_) (fun hc40 => ?_))
        · refine .regSeq ?_
          refine .q hs (q_assign rfl) ?_
          refine .nil ?_
          refine .ret (rB (rT (rT (rB (rT (Fin.ret1 Try.results204 rfl ?_))))))
          exact ⟨H2, σ2, _, hle1.trans hle2, by simpa using hsp3, hs, .inr ⟨rfl, gF (by simpa using hc40)⟩⟩
        · refine .skip ?_
          refine nB (nT ?_)
          refine .region ?_
          refine .q hs (q_move rfl) ?_
          first | refine .q hs (q_addF rfl rfl (by omega)) ?_ | refine .q hs (q_addU rfl rfl ⟨by omega, by omega⟩) ?_ | refine .q hs (q_add rfl rfl) ?_
          refine .q hs (q_assign rfl) ?_
          refine .nil ?_
          refine nT ?_
          exact ⟨(j + 1, H2, σ2, ((f + j : Nat) : Int) :: sp3), .consI rfl (by omega) (by repeat (first | exact .nil rfl rfl | refine .cons rfl ?_)), ⟨by omega, hle1.trans hle2, by simpa using hsp3, by rw [walkTo_succ, ← Nat.add_assoc]; exact gT (by simpa using hc40), hs⟩, by dsimp only; omega⟩
      · refine .exit ?_
        refine xT (xT (xB (nT ?_)))
        refine .regSeq ?_
        refine .q hs (q_assign rfl) ?_
        refine .nil ?_
        refine .ret (Fin.ret1 Try.results204 rfl ?_)
        exact ⟨H1, σ1, sp1, hle1, hsp1, hs, .inl ⟨rfl, by rw [← walkTo_all, show n - f = j by omega]; exact hI1⟩⟩
    · refine .skip ?_
      refine nT ?_
      refine .seq ?_
      refine .regSeq ?_
      refine .q hs (q_move rfl) ?_
      refine .q hs (q_assign rfl) ?_
      refine .nil ?_
      refine .block ?_
      refine .loop (fun q : Nat × Heap × List Ent × List Int => ⟨41, [], [(9, I ((f + q.1 : Nat) : Int)), (0, .slice (some ⟨b, 0, none⟩) p.length (p.length + (m' + 1))), (1, I ((m' + 1 : Nat) : Int)), (3, .pointer (some ⟨bn, 0, none⟩)), (4, .pointer (some ⟨bw, 0, none⟩))]⟩)
        (fun q w => q.1 ≤ n - f ∧ HLe H0 q.2.1 ∧ q.2.2.2.length = m' + 1 ∧ II (k0 + walkTo n m' f q.1) q.2.1 q.2.2.1 ∧ St q.2.1 w (.blk b (Is (p ++ q.2.2.2)) :: (q.2.2.1 ++ σf))) (fun q => n - f - q.1) (0, H0, σb, sp)
        (.consI rfl (by have := hp0 (by cases p with | nil => rfl | cons => simp at hc18); omega) (by repeat (first | exact .nil rfl rfl | refine .cons rfl ?_))) ⟨Nat.zero_le _, HLe.refl _, hsp, hI, hs⟩ ?_
      rintro ⟨j, H1, σ1, sp1⟩ w ⟨hj, hle1, hsp1, hI1, hs⟩
      dsimp only at hj hle1 hsp1 hI1 hs ⊢
      have hn1 := (hn.mono (hle.trans hle1)).at 0
      have hw1 := (hw.mono (hle.trans hle1)).at 0
      refine .seq ?_
      refine .regSeq ?_
      refine .q hs (q_move rfl) ?_
      refine .q hs (q_loadR rfl Try.isAgg3 hn1) ?_
      refine .q hs (q_lss rfl rfl) ?_
      refine .nil ?_
      refine (.condD rfl (fun hc29 => ?_) (fun hc29 => ?_))
      · refine .skip ?_
        refine nT ?_
        refine .seq ?_
        refine .block ?_
        refine .seq (.draw mix rfl hs ?_); intro w hs
        obtain ⟨z0, sp2, rfl⟩ : ∃ z0 sp2, sp1 = z0 :: sp2 := by cases sp1 with | nil => simp at hsp1 | cons z0 sp2 => exact ⟨z0, sp2, rfl⟩
        have e0 : Is (p ++ z0 :: sp2) = Is p ++ I z0 :: Is sp2 := by simp
        rw [e0] at hs
        refine .r (i := 0) hs rfl (by kernel_rfl) .none (q_loadR rfl Try.isAgg108 hw1) ?_
        refine .p (i := 1) rfl (by kernel_rfl) .none (q_move rfl) ?_
        refine .p (i := 2) rfl (by kernel_rfl) .none (q_move rfl) ?_
        refine .p (i := 5) rfl (by kernel_rfl) .none (q_move rfl) ?_
        first | refine .p (i := 6) rfl (by kernel_rfl) .none (q_subF rfl rfl (by omega)) ?_ | refine .p (i := 6) rfl (by kernel_rfl) .none (q_sub rfl rfl) ?_
        refine .e1 (i := 3) (by kernel_rfl) rfl rfl .none hs ?_
        refine .buildSlice (cells := [_]) hs bls_sl_int_1 rfl rfl ?_; intro b35 w hs
        refine .go ?_
        refine .e1 (i := 4) (by kernel_rfl) rfl rfl .none hs ?_
        refine .appendIn hs app_sl_int_int rfl rfl rfl .here (by simp) (by omega) (.there .here) ?_; intro w hs
        refine .go ?_
        refine .e1 (i := 7) (by kernel_rfl) rfl rfl .none hs ?_
        have hcall := ih m' (by omega) (p ++ [((f + j : Nat) : Int)]) (f + j + 1) (k0 + walkTo n m' f j) sp2 b H1 σ1 σf w (hle.trans hle1) (by simp; omega) (by simpa using hsp1)
          (fun i c h => by have := hpart _ _ (walkL_get (by omega) h); rw [Nat.add_assoc]; simpa using this) (by simp) (fun y h => by rw [last_snoc h]; omega) (by omega) hI1
          (by have e1 : Is p ++ I ((f + j : Nat) : Int) :: Is sp2 = Is (p ++ [((f + j : Nat) : Int)] ++ sp2) := by simp
              rw [← e1]; exact hs.tail)
        rw [List.length_append, List.length_singleton, show p.length + 1 + m' = p.length + (m' + 1) by omega, show ((m' : Nat) : Int) = ((m' + 1 : Nat) : Int) - 1 by omega] at hcall
        refine .callG (first := []) (cap := [.pointer (some ⟨by', 0, none⟩), .pointer (some ⟨bn, 0, none⟩), .pointer (some ⟨bw, 0, none⟩)]) rfl rfl Try.call204 hcall ?_; rintro v39 w ⟨H2, σ2, sp3, hle2, hsp3, hs, g3⟩
        obtain ⟨bb, rfl, gT, gF⟩ := yd_bool g3
        have e2 : p ++ [((f + j : Nat) : Int)] ++ sp3 = p ++ ((f + j : Nat) : Int) :: sp3 := by simp
        rw [e2] at hs
        refine .go ?_
        refine .p (i := 8) rfl (by kernel_rfl) .none (q_not rfl) ?_
        refine .done (by kernel_rfl) hs ?_
        refine (.cond rfl (fun hc40 => ?_) (fun hc40 => ?_))
        · refine .regSeq ?_
          refine .q hs (q_assign rfl) ?_
          refine .nil ?_
          refine .ret (rB (rT (rT (rB (rT (Fin.ret1 Try.results204 rfl ?_))))))
          exact ⟨H2, σ2, _, hle1.trans hle2, by simpa using hsp3, hs, .inr ⟨rfl, gF (by simpa using hc40)⟩⟩
        · refine .skip ?_
          refine nB (nT ?_)
          refine .region ?_
          refine .q hs (q_move rfl) ?_
          first | refine .q hs (q_addF rfl rfl (by omega)) ?_ | refine .q hs (q_addU rfl rfl ⟨by omega, by omega⟩) ?_ | refine .q hs (q_add rfl rfl) ?_
          refine .q hs (q_assign rfl) ?_
          refine .nil ?_
          refine nT ?_
          exact ⟨(j + 1, H2, σ2, ((f + j : Nat) : Int) :: sp3), .consI rfl (by omega) (by repeat (first | exact .nil rfl rfl | refine .cons rfl ?_)), ⟨by omega, hle1.trans hle2, by simpa using hsp3, by rw [walkTo_succ, ← Nat.add_assoc]; exact gT (by simpa using hc40), hs⟩, by dsimp only; omega⟩
      · refine .exit ?_
        refine xT (xT (xB (nT ?_)))
        refine .regSeq ?_
        refine .q hs (q_assign rfl) ?_
        refine .nil ?_
        refine .ret (Fin.ret1 Try.results204 rfl ?_)
        exact ⟨H1, σ1, sp1, hle1, hsp1, hs, .inl ⟨rfl, by rw [← walkTo_all, show n - f = j by omega]; exact hI1⟩⟩
def ChE (n : Nat) (k : Nat) (H' : Heap) (z : List Value) : Prop := ∃ v c, z = [v] ∧ (choicesL n)[k]? = some c ∧ nnil v = true ∧ RI H' v c
theorem probe_choices_1_iter {H : Heap} {n bn : Nat} (hn : Row H bn [I n]) (hn8 : n ≤ 1000) : IterE Try.prog 203 [.pointer (some ⟨bn, 0, none⟩)] H (choicesL n).length (ChE n) := by
  intro l II Ix hmI hmX hyd H0 σb0 σf w hle hI0 hs
  have hn0 := (hn.mono hle).at 0
  have e8 : min (n : Int) 3 + 1 = ((min n 3 + 1 : Nat) : Int) := by omega
  refine Cl.of Try.func203 rfl Try.ntmps203 (by simp) (args_cons (k := 0) rfl (args_cons (k := 1) rfl (args0))) ?_
  refine .regSeq ?_
  refine .o (.box hs rfl rfl ?_); intro b2 w hs
  refine .nil ?_
  refine .regSeq ?_
  refine .o (.alloc hs Try.zeroValue108 rfl ?_); intro b3 w hs
  refine .nil ?_
  refine .regSeq ?_
  refine .q hs (q_makeFunc (f := []) (c := [_, _, _]) rfl rfl) ?_
  refine .o (.store hs rfl rfl Try.sizeOf108 ?_); intro w hs
  refine .nil ?_
  refine .regSeq ?_
  obtain ⟨Ha, hlea, hra, hs⟩ := hs.publish (b := b2) (by repeat constructor)
  obtain ⟨Hb, hleb, hrb, hs⟩ := hs.publish (b := b3) .here
  have hyb := hyd
  have hwb := hrb.at 0
  have hnb := ((hn.mono hle).mono (hlea.trans hleb)).at 0
  refine .q hs (q_loadR rfl Try.isAgg3 hnb) ?_
  first | refine .q hs (q_minI rfl rfl) ?_ | refine .q hs (q_min rfl rfl) ?_
  first | refine .q hs (q_addF rfl rfl (by omega)) ?_ | refine .q hs (q_addU rfl rfl ⟨by omega, by omega⟩) ?_ | refine .q hs (q_add rfl rfl) ?_
  rw [e8]
  refine .q hs (q_move rfl) ?_
  refine .nil ?_
  refine .for (N := min n 3 + 1) (J := fun k fr w => fr = [(3, .pointer (some ⟨b3, 0, none⟩))] ∧ ∃ H1 σ1, HLe Hb H1 ∧ II (chTo n k) H1 σ1 ∧ St H1 w (σ1 ++ σf)) (by omega) ?_ ?_ ?_
  · exact .mk ⟨rfl, Hb, σb0, HLe.refl _, hmI _ _ _ _ (hlea.trans hleb) hI0, hs⟩
  · rintro k fr w hk ⟨rfl, H1, σ1, hle1, hI1, hs⟩
    have hw1 := (hrb.mono hle1).at 0
    refine .block ?_
    refine .regSeq ?_
    refine .q hs (q_move rfl) ?_
    refine .q hs (q_assign rfl) ?_
    refine .nil ?_
    refine .seq (.draw mix rfl hs ?_); intro w hs
    refine .r (i := 0) hs rfl (by kernel_rfl) .none (q_loadR rfl Try.isAgg108 hw1) ?_
    refine .p (i := 1) rfl (by kernel_rfl) .none (q_move rfl) ?_
    refine .p (i := 3) rfl (by kernel_rfl) .none (q_move rfl) ?_
    refine .e1 (i := 2) (by kernel_rfl) rfl rfl .none hs ?_
    refine .makeRoomI 0 k hs rfl rfl (by omega) Try.runUnderlying22 Try.typeInfo3 rfl Try.sizeOf3 Try.zeroValue3 (by omega) ?_; intro b14 w hs
    refine .go ?_
    refine .e1 (i := 4) (by kernel_rfl) rfl rfl .none hs ?_
    have hcall := probe_choices_walk (L := choicesL n) (hra.mono (hleb.trans hle1)) (hn.mono (hle.trans (hlea.trans (hleb.trans hle1)))) (hrb.mono hle1) hn8 hmI
      (fun k z H' σb σf w h1 ⟨v, c, h2, h3, h9, h4⟩ h5 h6 => hyd k (List.getElem?_eq_some_iff.1 h3).1 z H' σb σf w (hle.trans ((hlea.trans (hleb.trans hle1)).trans h1)) ⟨v, c, h2, h3, h9, h4⟩ h5 h6)
      k [] 0 (chTo n k) (List.replicate k 0) b14 H1 σ1 σf w (HLe.refl _) (by simp; omega) (by simp) (fun i c h => by simpa using choicesL_get hk h) (fun _ => rfl) (by simp) (Nat.zero_le _) hI1 (by simpa using hs)
    simp only [List.length_nil, Nat.zero_add, List.nil_append] at hcall
    refine .callG (first := []) (cap := [.pointer (some ⟨b2, 0, none⟩), .pointer (some ⟨bn, 0, none⟩), .pointer (some ⟨b3, 0, none⟩)]) rfl rfl Try.call204 hcall ?_; rintro v16 w ⟨H2, σ2, sp2, hle2, -, hs, g3⟩
    obtain ⟨bb, rfl, gT, gF⟩ := yd_bool g3
    refine .go ?_
    refine .p (i := 5) rfl (by kernel_rfl) .none (q_not rfl) ?_
    refine .done (by kernel_rfl) hs ?_
    refine (.cond rfl (fun hc17 => ?_) (fun hc17 => ?_))
    · refine .ret (rB (rT (rB (Fin.ret0 Try.results203 ?_))))
      exact ⟨H2, σ2, (hlea.trans hleb).trans (hle1.trans hle2), hs.tail, .inr (gF (by simpa using hc17))⟩
    · refine .skip ?_
      refine nB (nT ?_)
      exact .mk ⟨rfl, H2, σ2, hle1.trans hle2, by rw [chTo_succ]; exact gT (by simpa using hc17), hs.tail⟩
  · rintro fr w ⟨rfl, H1, σ1, hle1, hI1, hs⟩
    exact Fin.end0 Try.results203 ⟨H1, σ1, (hlea.trans hleb).trans hle1, hs, .inl hI1⟩
theorem probe_choices_spec {H : Heap} {w : World} {σ : List Ent} {n : Nat} (hs : St H w σ) (hn : n ≤ 1000) :
    Cl Try.prog 183 [I n] w fun v w' => ∃ H1 b, HLe H H1 ∧ v = .func (.func 203) #[] #[.pointer (some ⟨b, 0, none⟩)] ∧ IterE Try.prog 203 [.pointer (some ⟨b, 0, none⟩)] H1 (choicesL n).length (ChE n) ∧ St H1 w' σ := by
  refine Cl.of Try.func183 rfl Try.ntmps183 (by simp) (args_cons (k := 0) rfl (args0)) ?_
  refine .regSeq ?_
  refine .o (.box hs rfl rfl ?_); intro b1 w hs
  refine .q hs (q_assign rfl) ?_
  refine .nil ?_
  refine .regSeq ?_
  refine .q hs (q_makeFunc (f := []) (c := [_]) rfl rfl) ?_
  refine .q hs (q_assign rfl) ?_
  refine .nil ?_
  refine .ret (Fin.ret1 Try.results183 rfl ?_)
  obtain ⟨H1, g1, g2, hs⟩ := hs.publish .here
  exact ⟨H1, b1, g1, rfl, probe_choices_1_iter g2 hn, hs⟩
theorem probe_chosen_spec {H : Heap} {w : World} {σ : List Ent} {v vc : Value} {l : List Prb} {c : List Int} (hs : St H w σ) (hr : RPs H v l) (hc : RI H vc c) (hin : ∀ x ∈ c, 0 ≤ x ∧ x < l.length) (hc3 : c.length ≤ 1000) :
    Cl Try.prog 184 [v, vc] w fun u w' => ∃ H1, HLe H H1 ∧ RPs H1 u (chosenL l c) ∧ St H1 w' σ := by
  obtain ⟨al, cpl, rfl⟩ := RPs.shape hr
  obtain ⟨ac, cc, rfl⟩ := RI.shape hc
  refine Cl.of Try.func184 rfl Try.ntmps184 (by simp) (args_cons (k := 0) rfl (args_cons (k := 1) rfl (args0))) ?_
  refine .regSeq ?_
  refine .q hs (q_assign rfl) ?_
  refine .nil ?_
  refine .regSeq ?_
  refine .q hs (q_assign rfl) ?_
  refine .nil ?_
  refine .seq ?_
  refine .regSeq ?_
  refine .q hs (q_move rfl) ?_
  first | refine .q hs (q_len rfl Try.runUnderlying22) ?_ | refine .q hs (q_lenR (by assumption) rfl Try.runUnderlying22) ?_ | refine .q hs (q_lenI (by assumption) rfl Try.runUnderlying22) ?_
  refine .q hs (q_move rfl) ?_
  refine .nil ?_
  refine .for (N := c.length) (J := fun k fr w => ∃ v5 en, OwnS 2 v5 (Prbs (chosenL l (c.take k))) en ∧ fr = [(5, v5), (0, .slice al l.length cpl), (8, .slice ac c.length cc)] ∧ St H w (en :: σ)) (by omega) ?_ ?_ ?_
  · exact .mk ⟨_, _, .nil 2 none, rfl, hs.nul⟩
  · rintro k fr w hk ⟨v5, en, hO, rfl, hs⟩
    obtain ⟨x, hx⟩ := nth hk
    obtain ⟨a5, l5, c5, rfl, h5⟩ := hO.shape
    obtain ⟨hx0, hx1⟩ := hin x (List.mem_of_getElem? hx)
    obtain ⟨pp, hpp⟩ := nth (l := l) (k := x.toNat) (by omega)
    refine .block ?_
    refine .regSeq ?_
    refine .ixY hs hc rfl rfl Try.runUnderlying22 Try.sizeOf3 hx rfl ?_; intro b12 o12 hc12
    refine .q hs (q_loadR rfl Try.isAgg3 hc12) ?_
    refine .q hs (q_assign rfl) ?_
    refine .nil ?_
    refine .region ?_
    refine .q hs (q_move rfl) ?_
    refine .q hs (q_move rfl) ?_
    refine .q hs (q_move rfl) ?_
    refine .ixX hs hr rfl rfl Try.runUnderlying35 Try.sizeOf48 hpp (by omega) ?_; intro b17 o17 hc17
    refine .q hs (q_loadsR (vs := pp.c) rfl Try.isAgg48 Try.sizeOf48 hc17) ?_
    refine .o (.buildSlice (cells := pp.c) hs bls_sl_api_Probe_1 rfl rfl ?_); intro b19 w hs
    refine .o (.append (ys := pp.c) hs app_sl_api_Probe_api_Probe rfl rfl hO (.own .here rfl rfl) (by simp [Prb.c, Value.oneCell']) (fun l' h => by have h7 := chosenL_length (l := l) (c := c.take k); rw [Prbs_length] at h; simp at h7; omega) ?_); intro v20 en20 w hO2 hs
    refine .q hs (q_assign rfl) ?_
    refine .nil ?_
    refine nB (nT ?_)
    refine .mk ⟨_, _, ?_, rfl, hs.sub (by repeat (first | exact Sub.refl _ | constructor | apply Sub.weaken))⟩
    rw [take_snoc hx, chosenL_snoc hpp, Prbs_append]; simpa [Prbs] using hO2
  · rintro fr w ⟨v5, en, hO, rfl, hs⟩
    rw [List.take_length] at hO
    obtain ⟨a5, l5, c5, rfl, h5⟩ := hO.shape
    refine nT ?_
    refine .regSeq ?_
    refine .q hs (q_move rfl) ?_
    refine .q hs (q_assign rfl) ?_
    refine .nil ?_
    refine .ret (Fin.ret1 Try.results184 rfl ?_)
    obtain ⟨H2, g1, g2, hs⟩ := OwnS.publish (cs := (chosenL l c).map Prb.c) hO (fun c hc => by simp only [List.mem_map] at hc; obtain ⟨x, _, rfl⟩ := hc; rfl) (by omega) (by have := chosenL_length (l := l) (c := c); rw [List.length_map]; omega) hs (by repeat constructor)
    exact ⟨H2, g1, g2, hs⟩
end Go.Proofs.Ytiiokdeehlfeeaa

/-
  Walks: twins; where they meet; the best probe.
-/
namespace Go.Proofs.Ytiiokdeehlfeeaa
open Go.MW
theorem probe_twins_spec {H : Heap} {w : World} {σ : List Ent} {v vl : Value} {a : Quest} {l : List Prb} (hs : St H w σ) (hr : RAsk H v a) (hp : RPs H vl l) (hok : AskOk a) (hlen : l.length ≤ 8) (hin : ∀ p ∈ l, PrbIn a p) :
    Cl Try.prog 186 [v, vl] w fun u w' => ∃ H1 va vb xs, HLe H H1 ∧ u = .tuple #[.agg #[va, vb], I 0] ∧ RI H1 va (xs.take a.sys.n) ∧ RI H1 vb (0 :: xs.drop a.sys.n) ∧ BestR (dblS a l) (dblW a.ws) xs ∧ St H1 w' σ := by
  obtain ⟨ul, uw, rfl, hl, hw⟩ := hr
  have hm := hok.ok.m0
  have hm1 := hok.many
  have hn : a.sys.many + 1 = (a.sys.n : Int) := by simp only [Syst.n]; omega
  refine Cl.of Try.func186 rfl Try.ntmps186 (by simp) (args_cons (k := 0) rfl (args_cons (k := 1) rfl (args0))) ?_
  refine .regSeq ?_
  refine .o (.box hs rfl rfl ?_); intro b2 w hs
  refine .o (.alloc hs Try.zeroValue146 rfl ?_); intro b4 w hs
  refine .q hs (q_assign rfl) ?_
  refine .nil ?_
  refine .regSeq ?_
  first | refine .q hs (q_loads (vs := [_, _, _, _]) rfl Try.isAgg34 Try.sizeOf34) ?_ | refine .q hs (q_loadsR (vs := [_, _, _, _]) rfl Try.isAgg34 Try.sizeOf34 (by assumption)) ?_
  refine .q hs (q_move rfl) ?_
  refine .o (.call Try.call98 rfl (probe_double_spec (a := a) hs ⟨_, _, rfl, hl, hw⟩ hp hok hlen hin) ?_); rintro _ w ⟨H1, ul1, uw1, vp, vw, hle1, rfl, hl1, hw1, hvp, hvw, hs⟩
  obtain ⟨al1, cl1, rfl⟩ := RL.shape hl1; obtain ⟨aw1, cw1, rfl⟩ := RI.shape hw1; obtain ⟨ap1, cp1, rfl⟩ := RL.shape hvp; obtain ⟨av1, cv1, rfl⟩ := RI.shape hvw
  refine .o (.alloc hs Try.zeroValue132 rfl ?_); intro b6 w hs
  refine .o (.stores (vs := [_, _, _, _, _, _, _]) hs rfl rfl Try.sizeOf132 ?_); intro w hs
  refine .nil ?_
  refine .regSeq ?_
  first | refine .q hs (q_fa0 rfl fa_probe_doubled_1) ?_ | refine .q hs (q_fa rfl fa_probe_doubled_1) ?_
  first | refine .q hs (q_loads (vs := [_, _]) rfl Try.isAgg32 Try.sizeOf32) ?_ | refine .q hs (q_loadsR (vs := [_, _]) rfl Try.isAgg32 Try.sizeOf32 (by assumption)) ?_
  first | refine .q hs (q_fa0 rfl fa_probe_doubled_2) ?_ | refine .q hs (q_fa rfl fa_probe_doubled_2) ?_
  first | refine .q hs (q_load rfl Try.isAgg22) ?_ | refine .q hs (q_loadR rfl Try.isAgg22 (by assumption)) ?_
  refine .o (.call Try.call61 rfl (bound_Best_spec (s := dblS a l) hs ⟨_, rfl, hvp⟩ hvw) ?_); rintro _ w ⟨H2, vx, xs, e, hle2, rfl, hA, hx, -, h0, hs⟩
  obtain rfl := dbl_ask hok hlen hin hA
  have hB := h0 rfl
  have hxl : xs.length = 2 * a.sys.n - 1 := by rw [hB.len]; simp only [Syst.n, dblS]; omega
  obtain ⟨ax, cx, rfl⟩ := RI.shape hx
  have hxc := (RI.len hx).2.1
  refine .q hs (q_move rfl) ?_
  refine .q hs (q_extract rfl rfl) ?_
  refine .q hs (q_extract rfl rfl) ?_
  refine .q hs (q_assign rfl) ?_
  refine .q hs (q_assign rfl) ?_
  refine .nil ?_
  refine .seq ?_
  refine .regSeq ?_
  refine .q hs (q_move rfl) ?_
  refine .q hs (q_neq rfl rfl) ?_
  refine .nil ?_
  refine (.condN rfl (fun hc22 => ?_) (fun hc22 => ?_))
  · refine .regSeq ?_
    refine .q hs (q_build (cells := [_, _]) bld_api_Twins rfl) ?_
    refine .q hs (q_move rfl) ?_
    refine .o (.stores (vs := [_, _]) hs rfl rfl Try.sizeOf146 ?_); intro w hs
    refine .q hs (q_assign rfl) ?_
    refine .nil ?_
    refine .ret (rT (?_))
    exact (hc22 rfl).elim
  · refine .skip ?_
    refine nT ?_
    refine .regSeq ?_
    first | refine .q hs (q_fa0 rfl fa_api_Ask_0) ?_ | refine .q hs (q_fa rfl fa_api_Ask_0) ?_
    first | refine .q hs (q_fa0 rfl fa_api_System_0) ?_ | refine .q hs (q_fa rfl fa_api_System_0) ?_
    first | refine .q hs (q_load rfl Try.isAgg3) ?_ | refine .q hs (q_loadR rfl Try.isAgg3 (by assumption)) ?_
    refine .q hs (q_assign rfl) ?_
    refine .nil ?_
    refine .seq (.draw mix rfl hs ?_); intro w hs
    refine .p (i := 0) rfl (by kernel_rfl) .none (q_move rfl) ?_
    refine .p (i := 1) rfl (by kernel_rfl) .none (q_move rfl) ?_
    first | refine .p (i := 2) rfl (by kernel_rfl) .none (q_addF rfl rfl (by omega)) ?_ | refine .p (i := 2) rfl (by kernel_rfl) .none (q_addU rfl rfl ⟨by omega, by omega⟩) ?_ | refine .p (i := 2) rfl (by kernel_rfl) .none (q_add rfl rfl) ?_
    refine .p (i := 3) rfl (by kernel_rfl) .none (q_sliceHX (k := a.sys.n) rfl rfl Try.runUnderlying22 Try.sizeOf3 (by omega) (by omega)) ?_
    refine .p (i := 6) rfl (by kernel_rfl) .none (q_move rfl) ?_
    refine .p (i := 7) rfl (by kernel_rfl) .none (q_move rfl) ?_
    first | refine .p (i := 8) rfl (by kernel_rfl) .none (q_addF rfl rfl (by omega)) ?_ | refine .p (i := 8) rfl (by kernel_rfl) .none (q_addU rfl rfl ⟨by omega, by omega⟩) ?_ | refine .p (i := 8) rfl (by kernel_rfl) .none (q_add rfl rfl) ?_
    refine .p (i := 9) rfl (by kernel_rfl) .none (q_sliceLX (k := a.sys.n) rfl rfl Try.runUnderlying22 Try.sizeOf3 (by omega) (by omega)) ?_
    refine .e2 (i := 4) (j := 5) (by kernel_rfl) rfl rfl rfl rfl .none .none hs ?_ ?_  -- UP: 4: CALL F<slices.Clone[[]int,int]>(t31), 5: buildSlice <[]int> 1 [0:c(0)]
    · refine .call Try.call128 rfl (slices_Clone_int hs (hx.head (k := a.sys.n) (by omega)) (by simp; omega)) ?_; rintro v32 w ⟨en32, hO32, hs⟩
      obtain ⟨a32, l32, c32, rfl, h32⟩ := hO32.shape
      refine .go ?_
      refine .e1 (i := 5) (by kernel_rfl) rfl rfl .none hs ?_
      refine .buildSlice (cells := [_]) hs bls_sl_int_1 rfl rfl ?_; intro b33 w hs
      refine .go ?_
      refine .e1 (i := 10) (by kernel_rfl) rfl rfl .none hs ?_
      refine .append (xs := [I 0]) (ys := Is (xs.drop a.sys.n)) hs app_sl_int_int rfl rfl (.full rfl) (.ints (hx.tail (k := a.sys.n) (by omega))) (Is_cell _) (fun l h => by simp at h; simp; omega) ?_; intro v38 en38 w hO38 hs
      obtain ⟨a38, l38, c38, rfl, h38⟩ := hO38.shape
      refine .go ?_
      refine .p (i := 11) rfl (by kernel_rfl) .none (q_build (cells := [_, _]) bld_api_Twins rfl) ?_
      refine .e1 (i := 12) (by kernel_rfl) rfl rfl .none hs ?_
      refine .stores (vs := [_, _]) hs rfl rfl Try.sizeOf146 ?_; intro w hs
      refine .go ?_
      refine .p (i := 13) rfl (by kernel_rfl) .none (q_assign rfl) ?_
      refine .done (by kernel_rfl) hs ?_
      refine .ret ?_
      obtain ⟨H3, g1, r1, hs⟩ := hO32.publishI (by simp; omega) hs (by repeat constructor)
      obtain ⟨H4, g2, r2, hs⟩ := OwnS.publishI (xs := 0 :: xs.drop a.sys.n) hO38 (by simp; omega) hs (by repeat constructor)
      exact Fin.retD [] [] hs fun w hs => ⟨_, results2 Try.results186 (rcells (vs := [_, _]) hs rfl Try.isAgg146 Try.sizeOf146) rfl, H4, _, _, xs, hle1.trans (hle2.trans (g1.trans g2)), rfl, r1.mono g2, r2, hB, hs.out⟩
    · refine .buildSlice (cells := [_]) hs bls_sl_int_1 rfl rfl ?_; intro b33 w hs
      refine .go ?_
      refine .e1 (i := 4) (by kernel_rfl) rfl rfl .none hs ?_
      refine .call Try.call128 rfl (slices_Clone_int hs (hx.head (k := a.sys.n) (by omega)) (by simp; omega)) ?_; rintro v32 w ⟨en32, hO32, hs⟩
      obtain ⟨a32, l32, c32, rfl, h32⟩ := hO32.shape
      refine .go ?_
      refine .e1 (i := 10) (by kernel_rfl) rfl rfl .none hs ?_
      refine .append (xs := [I 0]) (ys := Is (xs.drop a.sys.n)) hs app_sl_int_int rfl rfl (.full rfl) (.ints (hx.tail (k := a.sys.n) (by omega))) (Is_cell _) (fun l h => by simp at h; simp; omega) ?_; intro v38 en38 w hO38 hs
      obtain ⟨a38, l38, c38, rfl, h38⟩ := hO38.shape
      refine .go ?_
      refine .p (i := 11) rfl (by kernel_rfl) .none (q_build (cells := [_, _]) bld_api_Twins rfl) ?_
      refine .e1 (i := 12) (by kernel_rfl) rfl rfl .none hs ?_
      refine .stores (vs := [_, _]) hs rfl rfl Try.sizeOf146 ?_; intro w hs
      refine .go ?_
      refine .p (i := 13) rfl (by kernel_rfl) .none (q_assign rfl) ?_
      refine .done (by kernel_rfl) hs ?_
      refine .ret ?_
      obtain ⟨H3, g1, r1, hs⟩ := hO32.publishI (by simp; omega) hs (by repeat constructor)
      obtain ⟨H4, g2, r2, hs⟩ := OwnS.publishI (xs := 0 :: xs.drop a.sys.n) hO38 (by simp; omega) hs (by repeat constructor)
      exact Fin.retD [] [] hs fun w hs => ⟨_, results2 Try.results186 (rcells (vs := [_, _]) hs rfl Try.isAgg146 Try.sizeOf146) rfl, H4, _, _, xs, hle1.trans (hle2.trans (g1.trans g2)), rfl, r1.mono g2, r2, hB, hs.out⟩
theorem probe_Best_1 {H : Heap} {w : World} {σ : List Ent} {v vl : Value} {a : Quest} {l : List Prb} {bl : Nat} (hs : St H w σ) (hr : RAsk H v a) (hb : Row H bl [vl]) (hp : RPs H vl l) (hok : AskOk a) (hlen : l.length ≤ 8) (hin : ∀ p ∈ l, PrbIn a p) :
    Cl Try.prog 187 [v, .pointer (some ⟨bl, 0, none⟩)] w fun u w' => ∃ H1 x e, HLe H H1 ∧ u = .tuple #[I x, I e] ∧ BestP a l x e ∧ St H1 w' σ := by
  obtain ⟨ul, uw, rfl, hl, hw⟩ := hr
  obtain ⟨al, cpl, rfl⟩ := RPs.shape hp
  have hb0 := hb.at 0
  have hcap := (RPs.len hp).2.1
  refine Cl.of Try.func187 rfl Try.ntmps187 (by simp) (args_cons (k := 0) rfl (args_cons (k := 1) rfl (args0))) ?_
  refine .regSeq ?_
  refine .o (.box hs rfl rfl ?_); intro b2 w hs
  refine .q hs (q_assign rfl) ?_
  refine .q hs (q_assign rfl) ?_
  refine .nil ?_
  refine .regSeq ?_
  refine .q hs (q_assign rfl) ?_
  refine .q hs (q_assign rfl) ?_
  refine .nil ?_
  refine .seq ?_
  refine .regSeq ?_
  refine .q hs (q_loadR rfl Try.isAgg35 hb0) ?_
  first | refine .q hs (q_len rfl Try.runUnderlying35) ?_ | refine .q hs (q_lenR (by assumption) rfl Try.runUnderlying35) ?_ | refine .q hs (q_lenI (by assumption) rfl Try.runUnderlying35) ?_
  refine .q hs (q_move rfl) ?_
  refine .nil ?_
  refine .for (N := l.length) (J := fun k fr w => ∃ b n H1, fr = [(5, I b), (6, I n), (1, .pointer (some ⟨bl, 0, none⟩)), (2, .pointer (some ⟨b2, 0, none⟩))] ∧ BestI a l k b n ∧ HLe H H1 ∧ St H1 w (.blk b2 [I a.sys.many, ul, uw, I a.width] :: σ)) (by omega) ?_ ?_ ?_
  · exact .mk ⟨_, _, H, rfl, .none, HLe.refl _, hs⟩
  · rintro k fr w hk ⟨b, n, H1, rfl, hB, hle1, hs⟩
    have hb1 := (hb.mono hle1).at 0
    have hp1 := hp.mono hle1
    refine .block ?_
    refine .regSeq ?_
    refine .q hs (q_move rfl) ?_
    refine .q hs (q_assign rfl) ?_
    refine .nil ?_
    refine .seq (.draw mix rfl hs ?_); intro w hs
    first | refine .loads (i := 0) (vs := [_, _, _, _]) hs rfl (by kernel_rfl) .none rfl Try.isAgg34 Try.sizeOf34 ?_ | refine .r (i := 0) hs rfl (by kernel_rfl) .none (q_loadsR (vs := [_, _, _, _]) rfl Try.isAgg34 Try.sizeOf34 (by assumption)) ?_
    refine .r (i := 1) hs rfl (by kernel_rfl) .none (q_loadR rfl Try.isAgg35 hb1) ?_
    refine .p (i := 2) rfl (by kernel_rfl) .none (q_move rfl) ?_
    refine .p (i := 3) rfl (by kernel_rfl) .none (q_move rfl) ?_
    first | refine .p (i := 4) rfl (by kernel_rfl) .none (q_addF rfl rfl (by omega)) ?_ | refine .p (i := 4) rfl (by kernel_rfl) .none (q_addU rfl rfl ⟨by omega, by omega⟩) ?_ | refine .p (i := 4) rfl (by kernel_rfl) .none (q_add rfl rfl) ?_
    refine .p (i := 5) rfl (by kernel_rfl) .none (q_sliceX (j := k) (k := k + 1) rfl rfl rfl Try.runUnderlying35 Try.sizeOf48 rfl (by omega) (by omega) (by omega)) ?_
    refine .e1 (i := 6) (by kernel_rfl) rfl rfl .none hs ?_
    refine .call Try.call185 rfl (probe_worst_spec (a := a) (l := oneP l k) hs ⟨_, _, rfl, hl.mono hle1, hw.mono hle1⟩ (hp1.part (by omega) (by omega)) hok (by have := oneP_len l k; omega) (fun p h => hin p (oneP_mem h))) ?_; rintro _ w ⟨H2, m, hle2, rfl, hPS, hs⟩
    refine .go ?_
    refine .p (i := 7) rfl (by kernel_rfl) .none (q_move rfl) ?_
    refine .p (i := 8) rfl (by kernel_rfl) .none (q_extract rfl rfl) ?_
    refine .p (i := 9) rfl (by kernel_rfl) .none (q_extract rfl rfl) ?_
    refine .p (i := 10) rfl (by kernel_rfl) .none (q_assign rfl) ?_
    refine .p (i := 11) rfl (by kernel_rfl) .none (q_assign rfl) ?_
    refine .done (by kernel_rfl) hs ?_
    refine .regSeq ?_
    refine .q hs (q_move rfl) ?_
    refine .q hs (q_lss rfl rfl) ?_
    refine .q hs (q_move rfl) ?_
    refine .bifD (t' := 27) rfl (fun hb27 => ?_) (fun hb27 => ?_)
    · refine .gFs 3 2 false rfl rfl rfl ?_
      refine .q hs (q_pickT rfl rfl) ?_
      refine .nil ?_
      refine (.condT rfl rfl ?_)
      refine .region ?_
      refine .q hs (q_move rfl) ?_
      refine .q hs (q_move rfl) ?_
      refine .q hs (q_assign rfl) ?_
      refine .q hs (q_assign rfl) ?_
      refine .nil ?_
      refine nB (nT ?_)
      exact .mk ⟨_, _, H2, rfl, hB.better hPS (.inl (by simpa using hb27)), hle1.trans hle2, hs⟩
    · refine .gT rfl rfl ?_
      refine .q hs (q_move rfl) ?_
      refine .gT rfl rfl ?_
      refine .q hs (q_move rfl) ?_
      refine .gT rfl rfl ?_
      refine .q hs (q_lss rfl rfl) ?_
      refine .q hs (q_pickF rfl rfl) ?_
      refine .nil ?_
      refine (.condD rfl (fun hc31 => ?_) (fun hc31 => ?_))
      · refine .region ?_
        refine .q hs (q_move rfl) ?_
        refine .q hs (q_move rfl) ?_
        refine .q hs (q_assign rfl) ?_
        refine .q hs (q_assign rfl) ?_
        refine .nil ?_
        refine nB (nT ?_)
        exact .mk ⟨_, _, H2, rfl, hB.better hPS (.inr (by simpa using hc31)), hle1.trans hle2, hs⟩
      · refine .skip ?_
        refine nB (nT ?_)
        exact .mk ⟨_, _, H2, rfl, hB.keep hPS (by simpa using hb27) (by simpa using hc31), hle1.trans hle2, hs⟩
  · rintro fr w ⟨b, n, H1, rfl, hB, hle1, hs⟩
    refine nT ?_
    refine .seq ?_
    refine .regSeq ?_
    refine .q hs (q_move rfl) ?_
    refine .q hs (q_lss rfl rfl) ?_
    refine .nil ?_
    refine (.condD rfl (fun hc36 => ?_) (fun hc36 => ?_))
    · refine .regSeq ?_
      refine .q hs (q_assign rfl) ?_
      refine .q hs (q_assign rfl) ?_
      refine .nil ?_
      refine .ret (rT (Fin.ret2 Try.results187 rfl rfl ?_))
      refine ⟨H1, _, _, hle1, rfl, .inl ⟨?_, rfl, rfl⟩, hs.tail⟩
      generalize hk : l.length = k at hB
      cases hB with
      | none => exact List.length_eq_zero_iff.1 hk
      | some h => omega
    · refine .skip ?_
      refine nT ?_
      refine .regSeq ?_
      refine .q hs (q_move rfl) ?_
      refine .q hs (q_assign rfl) ?_
      refine .q hs (q_assign rfl) ?_
      refine .nil ?_
      refine .ret (Fin.ret2 Try.results187 rfl rfl ?_)
      refine ⟨H1, _, _, hle1, rfl, .inr ?_, hs.tail⟩
      generalize hk : l.length = k at hB ⊢
      cases hB with
      | none => omega
      | @some _ i _ h => exact ⟨i, _, rfl, rfl, h⟩
theorem probe_Best_spec {H : Heap} {w : World} {σ : List Ent} {v vl : Value} {a : Quest} {l : List Prb} (hs : St H w σ) (hr : RAsk H v a) (hp : RPs H vl l) :
    Cl Try.prog 105 [v, vl] w fun u w' => ∃ H1 x e, HLe H H1 ∧ u = .tuple #[I x, I e] ∧ ((CPrbR a l e ∧ e ≠ 0 ∧ x = 0) ∨ (CPrbR a l 0 ∧ BestP a l x e)) ∧ St H1 w' σ := by
  obtain ⟨ul, uw, rfl, hl, hw⟩ := hr
  obtain ⟨al, cpl, rfl⟩ := RPs.shape hp
  refine Cl.of Try.func105 rfl Try.ntmps105 (by simp) (args_cons (k := 0) rfl (args_cons (k := 1) rfl (args0))) ?_
  refine .regSeq ?_
  refine .o (.box hs rfl rfl ?_); intro b2 w hs
  refine .o (.box hs rfl rfl ?_); intro b3 w hs
  refine .q hs (q_assign rfl) ?_
  refine .q hs (q_assign rfl) ?_
  refine .nil ?_
  refine .regSeq ?_
  first | refine .q hs (q_loads (vs := [_, _, _, _]) rfl Try.isAgg34 Try.sizeOf34) ?_ | refine .q hs (q_loadsR (vs := [_, _, _, _]) rfl Try.isAgg34 Try.sizeOf34 (by assumption)) ?_
  first | refine .q hs (q_load rfl Try.isAgg35) ?_ | refine .q hs (q_loadR rfl Try.isAgg35 (by assumption)) ?_
  refine .q hs (q_makeFunc (f := []) (c := [_]) rfl rfl) ?_
  obtain ⟨H0, hle0, hb3, hs⟩ := hs.publish (b := b3) (by repeat constructor)
  refine .o (.call Try.call99 rfl (probe_told_int (R := BestP a l) (a := a) (l := l) (cap := [.pointer (some ⟨b3, 0, none⟩)]) hs ⟨_, _, rfl, hl.mono hle0, hw.mono hle0⟩ (hp.mono hle0) Try.call187 ?_) ?_)
  · rintro H' w σ' hle hC hs
    obtain ⟨hok, hlen, hin⟩ := hC.zero
    exact probe_Best_1 (a := a) (l := l) hs ⟨_, _, rfl, (hl.mono hle0).mono hle, (hw.mono hle0).mono hle⟩ (hb3.mono hle) ((hp.mono hle0).mono hle) hok hlen (fun p h => (hin p h).inn)
  rintro _ w ⟨H1, x, e, hle1, rfl, hcase, hs⟩
  refine .q hs (q_extract rfl rfl) ?_
  refine .q hs (q_extract rfl rfl) ?_
  refine .q hs (q_assign rfl) ?_
  refine .q hs (q_assign rfl) ?_
  refine .nil ?_
  refine .ret (Fin.ret2 Try.results105 rfl rfl ?_)
  exact ⟨H1, x, e, hle0.trans hle1, rfl, hcase, hs.out⟩
theorem probe_Meeting_spec {H : Heap} {w : World} {σ : List Ent} {vl va vb : Value} {l : List Prb} {A B : List Int} (hs : St H w σ) (hp : RPs H vl l) (hA : RI H va A) (hB : RI H vb B) (hlen : l.length ≤ 17592186044415) :
    Cl Try.prog 104 [vl, .agg #[va, vb]] w fun u w' => ∃ H1 vo e, HLe H H1 ∧ u = .tuple #[.agg #[vo], I e] ∧ e = meetErr A B l ∧ RI H1 vo (if e = 0 then meetVals A B l else []) ∧ St H1 w' σ := by
  obtain ⟨al, cpl, rfl⟩ := RPs.shape hp
  obtain ⟨aA, cA, rfl⟩ := RI.shape hA
  obtain ⟨aB, cB, rfl⟩ := RI.shape hB
  have hlA := (RI.len hA).2.2
  have hlB := (RI.len hB).2.2
  refine Cl.of Try.func104 rfl Try.ntmps104 (by simp) (args_cons (k := 0) rfl (args_cons (k := 1) rfl (args0))) ?_
  refine .regSeq ?_
  refine .o (.box hs rfl rfl ?_); intro b3 w hs
  refine .o (.alloc hs Try.zeroValue71 rfl ?_); intro b4 w hs
  refine .q hs (q_assign rfl) ?_
  refine .nil ?_
  refine .seq ?_
  refine .regSeq ?_
  first | refine .q hs (q_fa0 rfl fa_api_Twins_0) ?_ | refine .q hs (q_fa rfl fa_api_Twins_0) ?_
  first | refine .q hs (q_load rfl Try.isAgg22) ?_ | refine .q hs (q_loadR rfl Try.isAgg22 (by assumption)) ?_
  first | refine .q hs (q_len rfl Try.runUnderlying22) ?_ | refine .q hs (q_lenR (by assumption) rfl Try.runUnderlying22) ?_ | refine .q hs (q_lenI (by assumption) rfl Try.runUnderlying22) ?_
  first | refine .q hs (q_fa0 rfl fa_api_Twins_1) ?_ | refine .q hs (q_fa rfl fa_api_Twins_1) ?_
  first | refine .q hs (q_load rfl Try.isAgg22) ?_ | refine .q hs (q_loadR rfl Try.isAgg22 (by assumption)) ?_
  first | refine .q hs (q_len rfl Try.runUnderlying22) ?_ | refine .q hs (q_lenR (by assumption) rfl Try.runUnderlying22) ?_ | refine .q hs (q_lenI (by assumption) rfl Try.runUnderlying22) ?_
  refine .q hs (q_neq rfl rfl) ?_
  refine .nil ?_
  refine (.condN rfl (fun hc17 => ?_) (fun hc17 => ?_))
  · refine .regSeq ?_
    refine .q hs (q_build (cells := [_]) bld_api_Outcome rfl) ?_
    refine .o (.stores (vs := [_]) hs rfl rfl Try.sizeOf71 ?_); intro w hs
    refine .q hs (q_assign rfl) ?_
    refine .nil ?_
    refine .ret (rT (?_))
    exact Fin.retD [] [] hs fun w hs => ⟨_, results2 Try.results104 (rcells (vs := [_]) hs rfl Try.isAgg71 Try.sizeOf71) rfl, H, _, _, HLe.refl _, rfl, (by unfold meetErr; rw [if_pos (by omega)]), by rw [if_neg (by decide)]; exact RS.nil H 1 none 0, hs.out⟩
  · refine .skip ?_
    refine nT ?_
    refine .regSeq ?_
    refine .o (.alloc hs Try.zeroValue71 rfl ?_); intro b6 w hs
    refine .nil ?_
    refine .seq ?_
    refine .regSeq ?_
    refine .q hs (q_move rfl) ?_
    first | refine .q hs (q_len rfl Try.runUnderlying35) ?_ | refine .q hs (q_lenR (by assumption) rfl Try.runUnderlying35) ?_ | refine .q hs (q_lenI (by assumption) rfl Try.runUnderlying35) ?_
    refine .q hs (q_move rfl) ?_
    refine .nil ?_
    refine .for (N := l.length) (J := fun k fr w => ∃ v6 en, OwnS 1 v6 (Is (meetVals A B (l.take k))) en ∧ (∀ q ∈ l.take k, meet1 A B q = 0) ∧ fr = [(3, .pointer (some ⟨b3, 0, none⟩)), (4, .pointer (some ⟨b4, 0, none⟩)), (6, .pointer (some ⟨b6, 0, none⟩)), (19, .slice al l.length cpl)] ∧ St H w (.blk b6 [v6] :: en :: .blk b4 [.slice none 0 0] :: .blk b3 [.slice aA A.length cA, .slice aB B.length cB] :: σ)) (by omega) ?_ ?_ ?_
    · exact .mk ⟨_, _, .nil 1 none, by simp, rfl, hs.nul.sub (by repeat (first | exact Sub.refl _ | constructor | apply Sub.weaken))⟩
    · rintro k fr w hk ⟨v6, en, hO, h0, rfl, hs⟩
      obtain ⟨pp, hx⟩ := nth hk
      obtain ⟨a6, l6, c6, rfl, h6⟩ := hO.shape
      refine .block ?_
      refine .regSeq ?_
      refine .ixX hs hp rfl rfl Try.runUnderlying35 Try.sizeOf48 hx rfl ?_; intro b23 o23 hc23
      refine .q hs (q_loadsR (vs := pp.c) rfl Try.isAgg48 Try.sizeOf48 hc23) ?_
      refine .o (.alloc hs Try.zeroValue48 rfl ?_); intro b8 w hs
      refine .o (.stores (vs := pp.c) hs rfl rfl Try.sizeOf48 ?_); intro w hs
      refine .nil ?_
      refine .seq ?_
      refine .regSeq ?_
      first | refine .q hs (q_fa0 rfl fa_api_Probe_0) ?_ | refine .q hs (q_fa rfl fa_api_Probe_0) ?_
      first | refine .q hs (q_load rfl Try.isAgg3) ?_ | refine .q hs (q_loadR rfl Try.isAgg3 (by assumption)) ?_
      first | refine .q hs (q_fa0 rfl fa_api_Twins_0) ?_ | refine .q hs (q_fa rfl fa_api_Twins_0) ?_
      first | refine .q hs (q_load rfl Try.isAgg22) ?_ | refine .q hs (q_loadR rfl Try.isAgg22 (by assumption)) ?_
      first | refine .q hs (q_len rfl Try.runUnderlying22) ?_ | refine .q hs (q_lenR (by assumption) rfl Try.runUnderlying22) ?_ | refine .q hs (q_lenI (by assumption) rfl Try.runUnderlying22) ?_
      first | refine .q hs (q_subF rfl rfl (by omega)) ?_ | refine .q hs (q_sub rfl rfl) ?_
      refine .o (.call Try.call116 rfl (probe_isWithin_spec hs) ?_); rintro _ w ⟨rfl, hs⟩
      refine .q hs (q_not rfl) ?_
      refine .q hs (q_move rfl) ?_
      refine .bif (t' := 33) rfl (fun hb33 => ?_) (fun hb33 => ?_)
      · refine .gFs 4 8 false rfl rfl rfl ?_
        refine .q hs (q_pickT rfl rfl) ?_
        refine .nil ?_
        refine (.condT rfl rfl ?_)
        refine .regSeq ?_
        refine .q hs (q_build (cells := [_]) bld_api_Outcome rfl) ?_
        refine .o (.stores (vs := [_]) hs rfl rfl Try.sizeOf71 ?_); intro w hs
        refine .q hs (q_assign rfl) ?_
        refine .nil ?_
        refine .ret (rT (rB (rT (rB (rT (?_))))))
        have hm : meet1 A B pp = 91 := by unfold meet1; rw [if_pos (.inl (fun h => by simp at hb33; omega))]
        exact Fin.retD [] [] hs fun w hs => ⟨_, results2 Try.results104 (rcells (vs := [_]) hs rfl Try.isAgg71 Try.sizeOf71) rfl, H, _, _, HLe.refl _, rfl, (by unfold meetErr; rw [if_neg (by omega), meetE_at h0 hx (by rw [hm]; decide), hm]), by rw [if_neg (by decide)]; exact RS.nil H 1 none 0, hs.out⟩
      · refine .gT rfl rfl ?_
        first | refine .q hs (q_fa0 rfl fa_api_Probe_1) ?_ | refine .q hs (q_fa rfl fa_api_Probe_1) ?_
        refine .gT rfl rfl ?_
        first | refine .q hs (q_load rfl Try.isAgg3) ?_ | refine .q hs (q_loadR rfl Try.isAgg3 (by assumption)) ?_
        refine .gT rfl rfl ?_
        refine .o (.call Try.call116 rfl (probe_isWithin_spec hs) ?_); rintro _ w ⟨rfl, hs⟩
        refine .gT rfl rfl ?_
        refine .q hs (q_not rfl) ?_
        refine .q hs (q_pickF rfl rfl) ?_
        refine .nil ?_
        refine (.cond rfl (fun hc38 => ?_) (fun hc38 => ?_))
        · refine .regSeq ?_
          refine .q hs (q_build (cells := [_]) bld_api_Outcome rfl) ?_
          refine .o (.stores (vs := [_]) hs rfl rfl Try.sizeOf71 ?_); intro w hs
          refine .q hs (q_assign rfl) ?_
          refine .nil ?_
          refine .ret (rT (rB (rT (rB (rT (?_))))))
          have hm : meet1 A B pp = 91 := by unfold meet1; rw [if_pos (.inr (fun h => by simp at hc38; omega))]
          exact Fin.retD [] [] hs fun w hs => ⟨_, results2 Try.results104 (rcells (vs := [_]) hs rfl Try.isAgg71 Try.sizeOf71) rfl, H, _, _, HLe.refl _, rfl, (by unfold meetErr; rw [if_neg (by omega), meetE_at h0 hx (by rw [hm]; decide), hm]), by rw [if_neg (by decide)]; exact RS.nil H 1 none 0, hs.out⟩
        · refine .skip ?_
          refine nT ?_
          refine .seq (.draw mix rfl hs ?_); intro w hs
          first | refine .p (i := 0) rfl (by kernel_rfl) .none (q_fa0 rfl fa_api_Twins_0) ?_ | refine .p (i := 0) rfl (by kernel_rfl) .none (q_fa rfl fa_api_Twins_0) ?_
          first | refine .load (i := 1) hs rfl (by kernel_rfl) .none rfl Try.isAgg22 ?_ | refine .r (i := 1) hs rfl (by kernel_rfl) .none (q_loadR rfl Try.isAgg22 (by assumption)) ?_
          first | refine .p (i := 2) rfl (by kernel_rfl) .none (q_fa0 rfl fa_api_Probe_0) ?_ | refine .p (i := 2) rfl (by kernel_rfl) .none (q_fa rfl fa_api_Probe_0) ?_
          first | refine .load (i := 3) hs rfl (by kernel_rfl) .none rfl Try.isAgg3 ?_ | refine .r (i := 3) hs rfl (by kernel_rfl) .none (q_loadR rfl Try.isAgg3 (by assumption)) ?_
          have hu : 1 ≤ pp.u ∧ pp.u ≤ (A.length : Int) - 1 := by simpa using hb33
          have ht : 0 ≤ pp.t ∧ pp.t ≤ 1000 := by simpa using hc38
          have hxA := gi_get (l := A) (i := pp.u.toNat) (by omega)
          have hxB := gi_get (l := B) (i := pp.u.toNat) (by omega)
          refine .ixX (enc := fun x => [I x]) (i := 4) hs rfl (by kernel_rfl) .none hA rfl rfl Try.runUnderlying22 Try.sizeOf3 hxA (by omega) ?_; intro b44 o44 hc44; replace hc44 := CellsAt.one hc44
          refine .r (i := 5) hs rfl (by kernel_rfl) .none (q_loadR rfl Try.isAgg3 hc44) ?_
          first | refine .p (i := 6) rfl (by kernel_rfl) .none (q_fa0 rfl fa_api_Twins_1) ?_ | refine .p (i := 6) rfl (by kernel_rfl) .none (q_fa rfl fa_api_Twins_1) ?_
          first | refine .load (i := 7) hs rfl (by kernel_rfl) .none rfl Try.isAgg22 ?_ | refine .r (i := 7) hs rfl (by kernel_rfl) .none (q_loadR rfl Try.isAgg22 (by assumption)) ?_
          first | refine .p (i := 8) rfl (by kernel_rfl) .none (q_fa0 rfl fa_api_Probe_0) ?_ | refine .p (i := 8) rfl (by kernel_rfl) .none (q_fa rfl fa_api_Probe_0) ?_
          first | refine .load (i := 9) hs rfl (by kernel_rfl) .none rfl Try.isAgg3 ?_ | refine .r (i := 9) hs rfl (by kernel_rfl) .none (q_loadR rfl Try.isAgg3 (by assumption)) ?_
          refine .ixX (enc := fun x => [I x]) (i := 10) hs rfl (by kernel_rfl) .none hB rfl rfl Try.runUnderlying22 Try.sizeOf3 hxB (by omega) ?_; intro b50 o50 hc50; replace hc50 := CellsAt.one hc50
          refine .r (i := 11) hs rfl (by kernel_rfl) .none (q_loadR rfl Try.isAgg3 hc50) ?_
          refine .p (i := 12) rfl (by kernel_rfl) .none (q_assign rfl) ?_
          refine .p (i := 13) rfl (by kernel_rfl) .none (q_assign rfl) ?_
          refine .done (by kernel_rfl) hs ?_
          refine .seq ?_
          refine .regSeq ?_
          refine .q hs (q_move rfl) ?_
          refine .o (.call Try.call116 rfl (probe_isWithin_spec hs) ?_); rintro _ w ⟨rfl, hs⟩
          refine .q hs (q_not rfl) ?_
          refine .q hs (q_move rfl) ?_
          refine .bif (t' := 55) rfl (fun hb55 => ?_) (fun hb55 => ?_)
          · refine .gFs 3 3 false rfl rfl rfl ?_
            refine .q hs (q_pickT rfl rfl) ?_
            refine .nil ?_
            refine (.condT rfl rfl ?_)
            refine .regSeq ?_
            refine .q hs (q_build (cells := [_]) bld_api_Outcome rfl) ?_
            refine .o (.stores (vs := [_]) hs rfl rfl Try.sizeOf71 ?_); intro w hs
            refine .q hs (q_assign rfl) ?_
            refine .nil ?_
            refine .ret (rT (rB (rT (rB (rT (?_))))))
            have hm : meet1 A B pp = 25 := by unfold meet1; rw [if_neg (by omega), if_pos (.inl (fun h => by simp at hb55; omega))]
            exact Fin.retD [] [] hs fun w hs => ⟨_, results2 Try.results104 (rcells (vs := [_]) hs rfl Try.isAgg71 Try.sizeOf71) rfl, H, _, _, HLe.refl _, rfl, (by unfold meetErr; rw [if_neg (by omega), meetE_at h0 hx (by rw [hm]; decide), hm]), by rw [if_neg (by decide)]; exact RS.nil H 1 none 0, hs.out⟩
          · refine .gT rfl rfl ?_
            refine .q hs (q_move rfl) ?_
            refine .gT rfl rfl ?_
            refine .o (.call Try.call116 rfl (probe_isWithin_spec hs) ?_); rintro _ w ⟨rfl, hs⟩
            refine .gT rfl rfl ?_
            refine .q hs (q_not rfl) ?_
            refine .q hs (q_pickF rfl rfl) ?_
            refine .nil ?_
            refine (.cond rfl (fun hc59 => ?_) (fun hc59 => ?_))
            · refine .regSeq ?_
              refine .q hs (q_build (cells := [_]) bld_api_Outcome rfl) ?_
              refine .o (.stores (vs := [_]) hs rfl rfl Try.sizeOf71 ?_); intro w hs
              refine .q hs (q_assign rfl) ?_
              refine .nil ?_
              refine .ret (rT (rB (rT (rB (rT (?_))))))
              have hm : meet1 A B pp = 25 := by unfold meet1; rw [if_neg (by omega), if_pos (.inr (fun h => by simp at hc59; omega))]
              exact Fin.retD [] [] hs fun w hs => ⟨_, results2 Try.results104 (rcells (vs := [_]) hs rfl Try.isAgg71 Try.sizeOf71) rfl, H, _, _, HLe.refl _, rfl, (by unfold meetErr; rw [if_neg (by omega), meetE_at h0 hx (by rw [hm]; decide), hm]), by rw [if_neg (by decide)]; exact RS.nil H 1 none 0, hs.out⟩
            · refine .skip ?_
              refine nT ?_
              refine .seq ?_
              refine .regSeq ?_
              have hra : -1280000 ≤ gi A pp.u.toNat ∧ gi A pp.u.toNat ≤ 1280000 := by simpa using hb55
              have hrb : -1280000 ≤ gi B pp.u.toNat ∧ gi B pp.u.toNat ≤ 1280000 := by simpa using hc59
              refine .q hs (q_move rfl) ?_
              refine .q hs (q_move rfl) ?_
              first | refine .q hs (q_subF rfl rfl (by omega)) ?_ | refine .q hs (q_sub rfl rfl) ?_
              refine .q hs (q_move rfl) ?_
              refine .q hs (q_move rfl) ?_
              first | refine .q hs (q_subF rfl rfl (by omega)) ?_ | refine .q hs (q_sub rfl rfl) ?_
              first | refine .q hs (q_maxI rfl rfl) ?_ | refine .q hs (q_max rfl rfl) ?_
              first | refine .q hs (q_fa0 rfl fa_api_Probe_1) ?_ | refine .q hs (q_fa rfl fa_api_Probe_1) ?_
              first | refine .q hs (q_load rfl Try.isAgg3) ?_ | refine .q hs (q_loadR rfl Try.isAgg3 (by assumption)) ?_
              first | refine .q hs (q_mulF rfl rfl (by omega)) ?_ | refine .q hs (q_mulU rfl rfl ⟨by omega, by omega⟩) ?_ | refine .q hs (q_mul rfl rfl) ?_
              refine .q hs (q_gtr rfl rfl) ?_
              refine .nil ?_
              refine (.condD rfl (fun hc71 => ?_) (fun hc71 => ?_))
              · refine .regSeq ?_
                refine .q hs (q_build (cells := [_]) bld_api_Outcome rfl) ?_
                refine .o (.stores (vs := [_]) hs rfl rfl Try.sizeOf71 ?_); intro w hs
                refine .q hs (q_assign rfl) ?_
                refine .nil ?_
                refine .ret (rT (rB (rT (rB (rT (?_))))))
                have hm : meet1 A B pp = 92 := by unfold meet1; rw [if_neg (by omega), if_neg (by omega), if_pos (by omega)]
                exact Fin.retD [] [] hs fun w hs => ⟨_, results2 Try.results104 (rcells (vs := [_]) hs rfl Try.isAgg71 Try.sizeOf71) rfl, H, _, _, HLe.refl _, rfl, (by unfold meetErr; rw [if_neg (by omega), meetE_at h0 hx (by rw [hm]; decide), hm]), by rw [if_neg (by decide)]; exact RS.nil H 1 none 0, hs.out⟩
              · refine .skip ?_
                refine nT ?_
                refine .region ?_
                first | refine .q hs (q_fa0 rfl fa_api_Outcome_0) ?_ | refine .q hs (q_fa rfl fa_api_Outcome_0) ?_
                first | refine .q hs (q_load rfl Try.isAgg22) ?_ | refine .q hs (q_loadR rfl Try.isAgg22 (by assumption)) ?_
                refine .q hs (q_move rfl) ?_
                refine .q hs (q_move rfl) ?_
                first | refine .q hs (q_addF rfl rfl (by omega)) ?_ | refine .q hs (q_addU rfl rfl ⟨by omega, by omega⟩) ?_ | refine .q hs (q_add rfl rfl) ?_
                refine .q hs (q_shr rfl rfl (by decide)) ?_
                rw [shr1]
                refine .o (.buildSlice (cells := [_]) hs bls_sl_int_1 rfl rfl ?_); intro b79 w hs
                refine .o (.append (ys := [I ((gi A pp.u.toNat + gi B pp.u.toNat) / 2)]) hs app_sl_int_int rfl rfl hO (.own .here rfl rfl) (by simp [Value.oneCell']) (fun l' h => by simp [meetVals] at h; omega) ?_); intro v80 en80 w hO2 hs
                obtain ⟨a80, l80, c80, rfl, h80⟩ := hO2.shape
                first | refine .q hs (q_fa0 rfl fa_api_Outcome_0) ?_ | refine .q hs (q_fa rfl fa_api_Outcome_0) ?_
                refine .o (.store hs rfl rfl Try.sizeOf22 ?_); intro w hs
                refine .nil ?_
                refine nB (nT ?_)
                have hm : meet1 A B pp = 0 := by unfold meet1; rw [if_neg (by omega), if_neg (by omega), if_neg (by omega)]
                refine .mk ⟨_, _, ?_, ?_, rfl, hs.sub (by repeat (first | exact Sub.refl _ | constructor | apply Sub.weaken))⟩
                · rw [take_snoc hx]; simpa [meetVals] using hO2
                · rw [take_snoc hx]; intro q hq; simp only [List.mem_append, List.mem_singleton] at hq; rcases hq with hq | rfl; exact h0 q hq; exact hm
    · rintro fr w ⟨v6, en, hO, h0, rfl, hs⟩
      rw [List.take_length] at hO h0
      obtain ⟨a6, l6, c6, rfl, h6⟩ := hO.shape
      refine nT ?_
      refine .regSeq ?_
      first | refine .q hs (q_loads (vs := [_]) rfl Try.isAgg71 Try.sizeOf71) ?_ | refine .q hs (q_loadsR (vs := [_]) rfl Try.isAgg71 Try.sizeOf71 (by assumption)) ?_
      refine .o (.stores (vs := [_]) hs rfl rfl Try.sizeOf71 ?_); intro w hs
      refine .q hs (q_assign rfl) ?_
      refine .nil ?_
      refine .ret ?_
      obtain ⟨H3, g1, r1, hs⟩ := hO.publishI (by simp [meetVals]; omega) hs (by repeat constructor)
      exact Fin.retD [] [] hs fun w hs => ⟨_, results2 Try.results104 (rcells (vs := [_]) hs rfl Try.isAgg71 Try.sizeOf71) rfl, H3, _, _, g1, rfl, (by unfold meetErr; rw [if_neg (by omega), meetE_all h0]), by rw [if_pos rfl]; exact r1, hs.out⟩
end Go.Proofs.Ytiiokdeehlfeeaa

/-
  Walks: the fewest probes that settle a question.
-/
namespace Go.Proofs.Ytiiokdeehlfeeaa
open Go.MW
structure Pck where
  probes : List Int
  width : Int
  bound : Int
  uses : List Use
  fails : List (List Int × List Int)
def Pck.none : Pck := ⟨[], 0, 0, [], []⟩
def RPick (H : Heap) (v : Value) (p : Pck) : Prop := ∃ (vp vu vf : Value) (css : List (List Value)), v = .agg #[vp, I p.width, I p.bound, vu, vf] ∧ RI H vp p.probes ∧ RU H vu p.uses ∧ RS H 2 vf css ∧ css.length = p.fails.length ∧ ∀ (j : Nat) (c : List Value) (t : List Int × List Int), css[j]? = some c → p.fails[j]? = some t → TwC H c t
theorem RPick.nil (H : Heap) : RPick H (.agg #[.slice none 0 0, I 0, I 0, .slice none 0 0, .slice none 0 0]) .none :=
  ⟨_, _, _, [], rfl, RS.nil _ _ _ _, RS.nil _ _ _ _, RS.nil _ _ _ _, rfl, fun _ _ _ h => by simp at h⟩
/-- what Fewest picks of a question and probes that are right -/
def FewP (a : Quest) (l : List Prb) (p : Pck) (e : Int) : Prop :=
  (e = 94 ∧ p = .none ∧ ∀ c ∈ choicesL l.length, ∀ m, PairS a (chosenL l c) m → a.width < m) ∨
  (e = 0 ∧ ∃ k, (choicesL l.length)[k]? = some p.probes ∧ ShownR a (chosenL l p.probes) p.width p.uses ∧ p.bound = p.width ∧ p.width ≤ a.width ∧ p.fails.length = k ∧
    ∀ (j : Nat) (cj : List Int), j < k → (choicesL l.length)[j]? = some cj → (∀ m, PairS a (chosenL l cj) m → a.width < m) ∧ ∃ t, p.fails[j]? = some t ∧ TwinR a (chosenL l cj) t)
theorem fails_twins {a : Quest} {l : List Prb} {H : Heap} {k : Nat} {css : List (List Value)} (h : FailsAt a l H k css) (hk : k ≤ (choicesL l.length).length) :
    ∃ ts : List (List Int × List Int), ts.length = k ∧ (∀ (j : Nat) (c : List Value) (t : List Int × List Int), css[j]? = some c → ts[j]? = some t → TwC H c t) ∧ ∀ (j : Nat) (cj : List Int), j < k → (choicesL l.length)[j]? = some cj → (∀ m, PairS a (chosenL l cj) m → a.width < m) ∧ ∃ t, ts[j]? = some t ∧ TwinR a (chosenL l cj) t := by
  obtain ⟨F, hF⟩ : ∃ F : Nat → List Int × List Int, ∀ (j : Nat), j < k → ∀ (c : List Value) (cj : List Int), css[j]? = some c → (choicesL l.length)[j]? = some cj → TwC H c (F j) ∧ TwinR a (chosenL l cj) (F j) := by
    refine Go.Deep.choose_lt (n := k) (p := fun j t => ∀ (c : List Value) (cj : List Int), css[j]? = some c → (choicesL l.length)[j]? = some cj → TwC H c t ∧ TwinR a (chosenL l cj) t) fun j hj => ?_
    have h1 : css[j]? = some (css[j]'(by rw [h.1]; exact hj)) := List.getElem?_eq_getElem _
    have h2 : (choicesL l.length)[j]? = some ((choicesL l.length)[j]'(by omega)) := List.getElem?_eq_getElem _
    obtain ⟨_, ⟨t, g1, g2⟩, _⟩ := h.2 j _ _ h1 h2
    exact ⟨t, fun c cj h3 h4 => by rw [h1] at h3; rw [h2] at h4; cases h3; cases h4; exact ⟨g1, g2⟩⟩
  refine ⟨(List.range k).map F, by simp, fun j c t h1 h2 => ?_, fun j cj hj h2 => ?_⟩
  · have hj : j < k := by rw [← h.1]; exact (List.getElem?_eq_some_iff.1 h1).1
    have h3 : (choicesL l.length)[j]? = some ((choicesL l.length)[j]'(by omega)) := List.getElem?_eq_getElem _
    have h4 : F j = t := by simpa [hj] using h2
    rw [← h4]; exact (hF j hj _ _ h1 h3).1
  · have h1 : css[j]? = some (css[j]'(by rw [h.1]; exact hj)) := List.getElem?_eq_getElem _
    obtain ⟨_, _, g3⟩ := h.2 j _ _ h1 h2
    exact ⟨g3, F j, by simp [hj], (hF j hj _ _ h1 h2).2⟩
/-- the state of the search: out's cells, and the fails' own block -/
def FewI (a : Quest) (l : List Prb) (b5 : Nat) (Hq : Heap) (k : Nat) (H' : Heap) (σb : List Ent) : Prop :=
  ∃ css en vf, σb = [.blk b5 [.slice none 0 0, I 0, I 0, .slice none 0 0, vf], en] ∧ HLe Hq H' ∧ OwnS 2 vf css.flatten en ∧ FailsAt a l H' k css
def FewX (a : Quest) (l : List Prb) (b5 : Nat) (Hq : Heap) (H' : Heap) (σb : List Ent) : Prop :=
  ∃ k cc css en vf ap lp cp vu n us, σb = [.blk b5 [.slice ap lp cp, I n, I n, vu, vf], en] ∧ HLe Hq H' ∧ OwnS 2 vf css.flatten en ∧ FailsAt a l H' k css ∧ (choicesL l.length)[k]? = some cc ∧ ap.isSome = true ∧ RI H' (.slice ap lp cp) cc ∧ RU H' vu us ∧
    ShownR a (chosenL l cc) n us ∧ n ≤ a.width
theorem probe_Fewest_1 {H : Heap} {w : World} {σ : List Ent} {v vl : Value} {a : Quest} {l : List Prb} {bl : Nat} (hs : St H w σ) (hr : RAsk H v a) (hb : Row H bl [vl]) (hp : RPs H vl l) (hok : AskOk a) (hlen : l.length ≤ 8) (hin : ∀ p ∈ l, PrbIn a p) :
    Cl Try.prog 182 [v, .pointer (some ⟨bl, 0, none⟩)] w fun u w' => ∃ H1 vk p e, HLe H H1 ∧ u = .tuple #[vk, I e] ∧ RPick H1 vk p ∧ FewP a l p e ∧ St H1 w' σ := by
  obtain ⟨ul, uw, rfl, hl, hw⟩ := hr
  obtain ⟨al, cpl, rfl⟩ := RPs.shape hp
  have hch : ∀ {c : List Int}, c ∈ choicesL l.length → (chosenL l c).length ≤ 8 ∧ (∀ p ∈ chosenL l c, PrbIn a p) ∧ c.length ≤ 3 ∧ ∀ x ∈ c, 0 ≤ x ∧ x < (l.length : Int) := fun {c} hc => by
    obtain ⟨h1, h2⟩ := choicesL_in hc
    exact ⟨by have := chosenL_length (l := l) (c := c); omega, fun p hp => hin p (chosenL_mem hp), h1, h2⟩
  refine Cl.of Try.func182 rfl Try.ntmps182 (by simp) (args_cons (k := 0) rfl (args_cons (k := 1) rfl (args0))) ?_
  refine .regSeq ?_
  refine .o (.box hs rfl rfl ?_); intro b2 w hs
  refine .o (.alloc hs Try.zeroValue140 rfl ?_); intro b3 w hs
  refine .o (.alloc hs Try.zeroValue41 rfl ?_); intro b4 w hs
  refine .nil ?_
  refine .scope ?_
  refine .regSeq ?_
  refine .o (.alloc hs Try.zeroValue140 rfl ?_); intro b5 w hs
  obtain ⟨Hq, hleq, hrq, hs⟩ := hs.publish (b := b2) (by repeat constructor)
  have hbq := (hb.mono hleq).at 0
  have hpq := hp.mono hleq
  refine .nil ?_
  refine .seq ?_
  refine .label ?_
  refine nT ?_
  refine .cut (fun fs w => ∃ D Hx en ap lp cp wd bd au lu cu af lf cf, FSub fs ⟨74, marks [D], [(3, .pointer (some ⟨b3, 0, none⟩)), (4, .pointer (some ⟨b4, 0, none⟩)), (5, .pointer (some ⟨b5, 0, none⟩))]⟩ ∧ HLe Hq Hx ∧ St Hx w (.obj D (.deferred (some [])) :: .blk b5 [.slice ap lp cp, I wd, I bd, .slice au lu cu, .slice af lf cf] :: en :: .blk b4 [I 0] :: .blk b3 [.slice none 0 0, I 0, I 0, .slice none 0 0, .slice none 0 0] :: σ) ∧ ((ap = none ∧ FewI a l b5 Hq (choicesL l.length).length Hx [.blk b5 [.slice ap lp cp, I wd, I bd, .slice au lu cu, .slice af lf cf], en]) ∨ (ap.isSome = true ∧ FewX a l b5 Hq Hx [.blk b5 [.slice ap lp cp, I wd, I bd, .slice au lu cu, .slice af lf cf], en]))) ?_ ?_
  · refine .regSeq ?_
    refine .q hs (q_loadR rfl Try.isAgg35 hbq) ?_
    first | refine .q hs (q_len rfl Try.runUnderlying35) ?_ | refine .q hs (q_lenR (by assumption) rfl Try.runUnderlying35) ?_ | refine .q hs (q_lenI (by assumption) rfl Try.runUnderlying35) ?_
    refine .o (.call Try.call183 rfl (probe_choices_spec hs (n := l.length) (by omega)) ?_); rintro _ w ⟨Hc, bc, hlec, rfl, hit, hs⟩
    refine .nil ?_
    refine .block ?_
    refine .rangeE (gf := 203) (cap := [.pointer (some ⟨bc, 0, none⟩)]) (N := (choicesL l.length).length) (E := ChE l.length) (σb := [.blk b5 [.slice none 0 0, I 0, I 0, .slice none 0 0, .slice none 0 0], .nul]) (σf := .blk b4 [I 0] :: .blk b3 [.slice none 0 0, I 0, I 0, .slice none 0 0, .slice none 0 0] :: σ)
      (hs.nul.perm (.swap _ _ _)) trivial rfl hit Try.call203 (fun _ _ z ⟨v, _, hz, _⟩ => by rw [hz]; rfl) rfl
      (I := FewI a l b5 Hq) (Ix := fun c H' σb => c = .exit 0 ∧ FewX a l b5 Hq H' σb)
      (fun k _ _ σ g1 ⟨css, en, vf, g2, g3, g4, g5⟩ => ⟨css, en, vf, g2, g3.trans g1, g4, g5.mono g1⟩)
      (fun c _ _ σ g1 ⟨g0, k, cc, css, en, vf, ap, lp, cp, vu, n, us, g2, g3, g4, g5, g6, g7, g8, g9, g10⟩ => ⟨g0, k, cc, css, en, vf, ap, lp, cp, vu, n, us, g2, g3.trans g1, g4, g5.mono g1, g6, g7, g8.mono g1, g9.mono g1, g10⟩)
      ⟨[], .nul, _, rfl, hlec, .nil 2 none, rfl, fun j c cj h => by simp at h⟩ ?_ ?_ ?_
    · rintro ll k hk z H2 σb2 σf2 w hle2 ⟨vc, cc, rfl, hcc, hnn, hRc⟩ ⟨css, en, vf, rfl, hq2, hO, hF⟩ hs ⟨rr, hrr⟩
      obtain ⟨hcl, hcin, hc3, hcx⟩ := hch (List.mem_of_getElem? hcc)
      obtain ⟨ac, cpc, rfl⟩ := RI.shape hRc
      refine .region ?_
      refine .q hs (q_assign rfl) ?_
      refine .nil ?_
      refine nT ?_
      refine ⟨H2, _, HLe.refl _, hs, ?_⟩; rintro w σf4 - hs
      have hb2 := (hb.mono (hleq.trans hq2)).at 0
      have hp2 := hp.mono (hleq.trans hq2)
      have hq4 := (hrq.mono hq2).cells 0 [I a.sys.many, ul, uw, I a.width]
      refine .block ?_
      refine .regSeq ?_
      refine .q hs (q_loadR rfl Try.isAgg35 hb2) ?_
      refine .q hs (q_move rfl) ?_
      refine .o (.call Try.call184 rfl (probe_chosen_spec hs hp2 hRc hcx (by omega)) ?_); rintro v21 w ⟨H3, hle3, hch3, hs⟩
      obtain ⟨a21, c21, rfl⟩ := RPs.shape hch3
      have hq5 := ((hrq.mono (hq2.trans hle3)).cells 0 [I a.sys.many, ul, uw, I a.width])
      have hq6 : cellAt H3 b2 3 = some (I a.width) := (hrq.mono (hq2.trans hle3)).at 3
      refine .q hs (q_assign rfl) ?_
      refine .nil ?_
      refine .seq ?_
      refine .regSeq ?_
      refine .q hs (q_loadsR (vs := [I a.sys.many, ul, uw, I a.width]) rfl Try.isAgg34 Try.sizeOf34 hq5) ?_
      refine .q hs (q_move rfl) ?_
      refine .o (.call Try.call185 rfl (probe_worst_spec (a := a) hs ⟨_, _, rfl, hl.mono (hleq.trans (hq2.trans hle3)), hw.mono (hleq.trans (hq2.trans hle3))⟩ hch3 hok hcl hcin) ?_); rintro _ w ⟨H4, n, hle4, rfl, hPS, hs⟩
      have hq7 : cellAt H4 b2 3 = some (I a.width) := (hrq.mono (hq2.trans (hle3.trans hle4))).at 3
      have hq8 := ((hrq.mono (hq2.trans (hle3.trans hle4))).cells 0 [I a.sys.many, ul, uw, I a.width])
      have hle24 := hle3.trans hle4
      refine .q hs (q_move rfl) ?_
      refine .q hs (q_extract rfl rfl) ?_
      refine .q hs (q_extract rfl rfl) ?_
      refine .q hs (q_assign rfl) ?_
      refine .q hs (q_assign rfl) ?_
      refine .nil ?_
      refine .regSeq ?_
      refine .q hs (q_move rfl) ?_
      first | refine .q hs (q_fa0 rfl fa_api_Ask_2) ?_ | refine .q hs (q_fa rfl fa_api_Ask_2) ?_
      refine .q hs (q_loadR rfl Try.isAgg3 hq7) ?_
      refine .q hs (q_leq rfl rfl) ?_
      refine .nil ?_
      refine (.condD rfl (fun hc31 => ?_) (fun hc31 => ?_))
      · refine .regSeq ?_
        refine .q hs (q_loadsR (vs := [I a.sys.many, ul, uw, I a.width]) rfl Try.isAgg34 Try.sizeOf34 hq8) ?_
        refine .q hs (q_move rfl) ?_
        refine .o (.call Try.call98 rfl (probe_double_spec (a := a) hs ⟨_, _, rfl, hl.mono (hleq.trans (hq2.trans hle24)), hw.mono (hleq.trans (hq2.trans hle24))⟩ (hch3.mono hle4) hok hcl hcin) ?_); rintro _ w ⟨H5, ul1, uw1, vp, vw, hle5, rfl, hl1, hw1, hvp, hvw, hs⟩
        obtain ⟨al1, cl1, rfl⟩ := RL.shape hl1; obtain ⟨aw1, cw1, rfl⟩ := RI.shape hw1; obtain ⟨ap1, cp1, rfl⟩ := RL.shape hvp; obtain ⟨av1, cv1, rfl⟩ := RI.shape hvw
        refine .o (.alloc hs Try.zeroValue132 rfl ?_); intro b10 w hs
        refine .o (.stores (vs := [_, _, _, _, _, _, _]) hs rfl rfl Try.sizeOf132 ?_); intro w hs
        refine .nil ?_
        refine .regSeq ?_
        first | refine .q hs (q_fa0 rfl fa_probe_doubled_1) ?_ | refine .q hs (q_fa rfl fa_probe_doubled_1) ?_
        first | refine .q hs (q_loads (vs := [_, _]) rfl Try.isAgg32 Try.sizeOf32) ?_ | refine .q hs (q_loadsR (vs := [_, _]) rfl Try.isAgg32 Try.sizeOf32 (by assumption)) ?_
        first | refine .q hs (q_fa0 rfl fa_probe_doubled_2) ?_ | refine .q hs (q_fa rfl fa_probe_doubled_2) ?_
        first | refine .q hs (q_load rfl Try.isAgg22) ?_ | refine .q hs (q_loadR rfl Try.isAgg22 (by assumption)) ?_
        refine .o (.call Try.call62 rfl (bound_Prove_spec (s := dblS a (chosenL l cc)) hs ⟨_, rfl, hvp⟩ hvw) ?_); rintro _ w ⟨H6, _, n2, us, e, hle6, rfl, hM, ⟨vu, rfl, hU⟩, -, h0, hs⟩
        obtain ⟨rfl, hPS2⟩ := dbl_most hok hcl hcin hM
        obtain rfl := hPS.uniq hPS2
        obtain ⟨au, cu, rfl⟩ := RU.shape hU
        refine .q hs (q_move rfl) ?_
        refine .q hs (q_extract rfl rfl) ?_
        refine .q hs (q_extract rfl rfl) ?_
        refine .o (.alloc hs Try.zeroValue40 rfl ?_); intro b11 w hs
        refine .o (.stores (vs := [_, _]) hs rfl rfl Try.sizeOf40 ?_); intro w hs
        refine .q hs (q_assign rfl) ?_
        refine .nil ?_
        refine .seq ?_
        refine .regSeq ?_
        refine .q hs (q_move rfl) ?_
        refine .q hs (q_neq rfl rfl) ?_
        refine .nil ?_
        refine (.condN rfl (fun hc44 => ?_) (fun hc44 => ?_))
        · exact (hc44 rfl).elim
        · refine .skip ?_
          refine nT ?_
          refine .seq (.draw mix rfl hs ?_); intro w hs
          refine .p (i := 0) rfl (by kernel_rfl) .none (q_move rfl) ?_
          refine .p (i := 1) rfl (by kernel_rfl) .none (q_move rfl) ?_
          first | refine .loads (i := 2) (vs := [_, _]) hs rfl (by kernel_rfl) .none rfl Try.isAgg40 Try.sizeOf40 ?_ | refine .r (i := 2) hs rfl (by kernel_rfl) .none (q_loadsR (vs := [_, _]) rfl Try.isAgg40 Try.sizeOf40 (by assumption)) ?_
          first | refine .p (i := 3) rfl (by kernel_rfl) .none (q_fa0 rfl fa_api_Pick_0) ?_ | refine .p (i := 3) rfl (by kernel_rfl) .none (q_fa rfl fa_api_Pick_0) ?_
          refine .e1 (i := 4) (by kernel_rfl) rfl rfl .none hs ?_
          refine .store hs rfl rfl Try.sizeOf22 ?_; intro w hs
          refine .go ?_
          first | refine .p (i := 5) rfl (by kernel_rfl) .none (q_fa0 rfl fa_api_Pick_1) ?_ | refine .p (i := 5) rfl (by kernel_rfl) .none (q_fa rfl fa_api_Pick_1) ?_
          refine .e1 (i := 6) (by kernel_rfl) rfl rfl .none hs ?_
          refine .store hs rfl rfl Try.sizeOf3 ?_; intro w hs
          refine .go ?_
          first | refine .p (i := 7) rfl (by kernel_rfl) .none (q_fa0 rfl fa_api_Pick_2) ?_ | refine .p (i := 7) rfl (by kernel_rfl) .none (q_fa rfl fa_api_Pick_2) ?_
          refine .e1 (i := 8) (by kernel_rfl) rfl rfl .none hs ?_
          refine .stores (vs := [_, _]) hs rfl rfl Try.sizeOf40 ?_; intro w hs
          refine .go ?_
          refine .done (by kernel_rfl) hs ?_
          refine .exit ?_
          refine xT (xN ?_)
          exact ⟨H6, _, hle24.trans (hle5.trans hle6), hs.tail.tail, rfl, k, cc, css, en, vf, _, _, _, _, n, us, rfl, hq2.trans (hle24.trans (hle5.trans hle6)), hO, hF.mono (hle24.trans (hle5.trans hle6)), hcc, nnil_some hnn, hRc.mono (hle24.trans (hle5.trans hle6)), hU, ⟨hPS, h0 rfl⟩, by simpa using hc31⟩
      · refine .skip ?_
        refine nT ?_
        refine .regSeq ?_
        refine .q hs (q_loadsR (vs := [I a.sys.many, ul, uw, I a.width]) rfl Try.isAgg34 Try.sizeOf34 hq8) ?_
        refine .q hs (q_move rfl) ?_
        refine .o (.call Try.call186 rfl (probe_twins_spec (a := a) hs ⟨_, _, rfl, hl.mono (hleq.trans (hq2.trans hle24)), hw.mono (hleq.trans (hq2.trans hle24))⟩ (hch3.mono hle4) hok hcl hcin) ?_); rintro _ w ⟨H5, va, vb, xs, hle5, rfl, hva, hvb, hB, hs⟩
        obtain ⟨ata, cta, rfl⟩ := RI.shape hva; obtain ⟨atb, ctb, rfl⟩ := RI.shape hvb
        have hO5 := hO
        obtain ⟨avf, lvf, cvf, rfl, hvf⟩ := hO5.shape
        refine .q hs (q_move rfl) ?_
        refine .q hs (q_extract rfl rfl) ?_
        refine .q hs (q_extract rfl rfl) ?_
        refine .o (.alloc hs Try.zeroValue146 rfl ?_); intro b13 w hs
        refine .o (.stores (vs := [_, _]) hs rfl rfl Try.sizeOf146 ?_); intro w hs
        refine .q hs (q_assign rfl) ?_
        refine .nil ?_
        refine .seq ?_
        refine .regSeq ?_
        refine .q hs (q_move rfl) ?_
        refine .q hs (q_neq rfl rfl) ?_
        refine .nil ?_
        refine (.condN rfl (fun hc60 => ?_) (fun hc60 => ?_))
        · exact (hc60 rfl).elim
        · refine .skip ?_
          refine nT ?_
          refine .region ?_
          first | refine .q hs (q_fa0 rfl fa_api_Pick_3) ?_ | refine .q hs (q_fa rfl fa_api_Pick_3) ?_
          first | refine .q hs (q_load rfl Try.isAgg138) ?_ | refine .q hs (q_loadR rfl Try.isAgg138 (by assumption)) ?_
          first | refine .q hs (q_loads (vs := [_, _]) rfl Try.isAgg146 Try.sizeOf146) ?_ | refine .q hs (q_loadsR (vs := [_, _]) rfl Try.isAgg146 Try.sizeOf146 (by assumption)) ?_
          refine .o (.buildSlice (cells := [_, _]) hs bls_sl_api_Twins_1 rfl rfl ?_); intro b66 w hs
          refine .o (.append (ys := [.slice ata (xs.take a.sys.n).length cta, .slice atb (0 :: xs.drop a.sys.n).length ctb]) hs app_sl_api_Twins_api_Twins rfl rfl hO (.own .here rfl rfl) (by simp [Value.oneCell']) (fun l' h => by have := flat2 (hF.two (by omega)); have := choicesL_length hlen; have := hF.1; omega) ?_); intro v67 en67 w hO2 hs
          obtain ⟨a67, l67, c67, rfl, h67⟩ := hO2.shape
          first | refine .q hs (q_fa0 rfl fa_api_Pick_3) ?_ | refine .q hs (q_fa rfl fa_api_Pick_3) ?_
          refine .o (.store hs rfl rfl Try.sizeOf138 ?_); intro w hs
          refine .nil ?_
          refine nB ?_
          exact ⟨H5, [.blk b5 [.slice none 0 0, I 0, I 0, .slice none 0 0, .slice a67 l67 c67], en67], hle24.trans hle5, (hs.sub (by repeat (first | exact Sub.refl _ | constructor | apply Sub.weaken)) : St H5 w (.blk b5 _ :: en67 :: σf4)),
            css ++ [[.slice ata (xs.take a.sys.n).length cta, .slice atb (0 :: xs.drop a.sys.n).length ctb]], en67, _, rfl, hq2.trans (hle24.trans hle5), by rw [List.flatten_append]; exact hO2, (hF.mono (hle24.trans hle5)).snoc hcc rfl ⟨_, _, rfl, hva, hvb⟩ ⟨xs, hB, rfl⟩ (fun m hm => by rw [← hPS.uniq hm]; omega)⟩
    · rintro D H2 σb2 w hle2 ⟨css, en, vf, rfl, hq2, hO, hF⟩ hs
      refine nB (nT ?_)
      obtain ⟨af, lf, cf, rfl, -⟩ := id hO.shape
      exact ⟨D, H2, en, none, 0, 0, 0, 0, none, 0, 0, af, lf, cf, by repeat (first | exact .nil rfl rfl | refine .cons rfl ?_), hq2, hs, .inl ⟨rfl, css, en, _, rfl, hq2, hO, hF⟩⟩
    · rintro D c H2 σb2 w hle2 ⟨rfl, k, cc, css, en, vf, ap, lp, cp, vu, n, us, rfl, hq2, hO, hF, g1, g2, g3⟩ hs
      obtain ⟨af, lf, cf, rfl, -⟩ := id hO.shape
      obtain ⟨au, cu, rfl⟩ := RU.shape g3.2.1
      exact .exit (xB (nT ⟨D, H2, en, ap, lp, cp, n, n, au, us.length, cu, af, lf, cf, by repeat (first | exact .nil rfl rfl | refine .cons rfl ?_), hq2, hs, .inr ⟨g2, k, cc, css, en, _, ap, lp, cp, _, n, us, rfl, hq2, hO, hF, g1, g2, g3⟩⟩))
  · rintro fs w ⟨D, Hx, en, ap, lp, cp, wd, bd, au, lu, cu, af, lf, cf, hfs, hqx, hs, hcase⟩
    refine WE.sub ?_ hfs
    refine .seq ?_
    refine .regSeq ?_
    first | refine .q hs (q_fa0 rfl fa_api_Pick_0) ?_ | refine .q hs (q_fa rfl fa_api_Pick_0) ?_
    first | refine .q hs (q_load rfl Try.isAgg22) ?_ | refine .q hs (q_loadR rfl Try.isAgg22 (by assumption)) ?_
    refine .q hs (q_eqSN rfl rfl Try.runUnderlying22) ?_
    refine .nil ?_
    refine (.cond rfl (fun hc71 => ?_) (fun hc71 => ?_))
    · refine .regSeq ?_
      refine .q hs (q_build (cells := [_, _, _, _, _]) bld_api_Pick rfl) ?_
      refine .o (.stores (vs := [_, _, _, _, _]) hs rfl rfl Try.sizeOf140 ?_); intro w hs
      refine .o (.store hs rfl rfl Try.sizeOf41 ?_); intro w hs
      refine .nil ?_
      refine .ret (rT (rS (?_)))
      rcases hcase with ⟨-, css, en', vf', -, -, -, hF⟩ | ⟨h, -⟩
      · exact Fin.retD [D] [] (show St _ _ ([] ++ (mes [D] ++ _)) from hs) fun w hs => ⟨_, results2 Try.results182 (rcells (vs := [_, _, _, _, _]) hs rfl Try.isAgg140 Try.sizeOf140) (rcell hs rfl Try.isAgg41), Hx, _, .none, 94, hleq.trans hqx, rfl, RPick.nil _, .inl ⟨rfl, rfl, fun c hc m hm => by
          obtain ⟨j, hj⟩ := List.getElem?_of_mem hc
          have hlt := (List.getElem?_eq_some_iff.1 hj).1
          exact (hF.2 j _ c (List.getElem?_eq_getElem (by rw [hF.1]; exact hlt)) hj).2.2 m hm⟩, hs.out⟩
      · cases ap <;> simp_all
    · refine .skip ?_
      refine nT ?_
      refine .regSeq ?_
      first | refine .q hs (q_loads (vs := [_, _, _, _, _]) rfl Try.isAgg140 Try.sizeOf140) ?_ | refine .q hs (q_loadsR (vs := [_, _, _, _, _]) rfl Try.isAgg140 Try.sizeOf140 (by assumption)) ?_
      refine .o (.stores (vs := [_, _, _, _, _]) hs rfl rfl Try.sizeOf140 ?_); intro w hs
      refine .o (.store hs rfl rfl Try.sizeOf41 ?_); intro w hs
      refine .nil ?_
      refine .ret (rS (?_))
      rcases hcase with ⟨h, -⟩ | ⟨-, k, cc, css, en', vf', ap', lp', cp', vu', n, us, hh, -, hO, hF, hcc, -, hRc, hU, hS, hn⟩
      · subst h; simp at hc71
      · simp only [List.cons.injEq, Ent.blk.injEq, true_and, and_true, Value.slice.injEq, Value.int.injEq] at hh
        obtain ⟨⟨⟨rfl, rfl, rfl⟩, rfl, rfl, rfl, rfl⟩, rfl⟩ := hh
        have hkl : k < (choicesL l.length).length := (List.getElem?_eq_some_iff.1 hcc).1
        obtain ⟨H7, g7, r7, hs⟩ := OwnS.publish (cs := css) hO (hF.two (by omega)) (by decide) (by have := choicesL_length hlen; have := hF.1; omega) hs (by repeat constructor)
        obtain ⟨ts, t1, t2, t3⟩ := fails_twins hF (by omega)
        exact Fin.retD [D] [] (show St _ _ ([] ++ (mes [D] ++ _)) from hs) fun w hs => ⟨_, results2 Try.results182 (rcells (vs := [_, _, _, _, _]) hs rfl Try.isAgg140 Try.sizeOf140) (rcell hs rfl Try.isAgg41), H7, _, ⟨cc, _, _, us, ts⟩, 0, (hleq.trans hqx).trans g7, rfl,
          ⟨_, _, _, css, rfl, hRc.mono g7, hU.mono g7, r7, by rw [hF.1, t1], fun j c t h1 h2 => (t2 j c t h1 h2).mono g7⟩, .inr ⟨rfl, k, hcc, hS, rfl, hn, t1, t3⟩, hs.out⟩
theorem probe_told_Pick {R : Pck → Int → Prop} {H : Heap} {w : World} {σ : List Ent} {v vl : Value} {a : Quest} {l : List Prb} {g : Nat} {cap : List Value} (hs : St H w σ) (hr : RAsk H v a) (hp : RPs H vl l) (hc : ∀ args w, (callFunc g args).run Try.prog w = .ok (.enter g args) w)
    (hg : ∀ H' w σ', HLe H H' → CPrbR a l 0 → St H' w σ' → Cl Try.prog g ([v] ++ cap) w fun u w' => ∃ H'' vk p e, HLe H' H'' ∧ u = .tuple #[vk, I e] ∧ RPick H'' vk p ∧ R p e ∧ St H'' w' σ') :
    Cl Try.prog 181 [v, vl, .func (.func g) #[] cap.toArray] w fun u w' => ∃ H1 vk p e, HLe H H1 ∧ u = .tuple #[vk, I e] ∧ RPick H1 vk p ∧ ((CPrbR a l e ∧ e ≠ 0 ∧ p = .none) ∨ (CPrbR a l 0 ∧ R p e)) ∧ St H1 w' σ := by
  obtain ⟨ul, uw, rfl, hl, hw⟩ := hr
  refine Cl.of Try.func181 rfl Try.ntmps181 (by simp) (args_cons (k := 0) rfl (args_cons (k := 1) rfl (args_cons (k := 2) rfl (args0)))) ?_
  refine .regSeq ?_
  refine .o (.box hs rfl rfl ?_); intro b3 w hs
  refine .o (.alloc hs Try.zeroValue140 rfl ?_); intro b6 w hs
  refine .q hs (q_assign rfl) ?_
  refine .nil ?_
  refine .seq ?_
  refine .regSeq ?_
  first | refine .q hs (q_loads (vs := [_, _, _, _]) rfl Try.isAgg34 Try.sizeOf34) ?_ | refine .q hs (q_loadsR (vs := [_, _, _, _]) rfl Try.isAgg34 Try.sizeOf34 (by assumption)) ?_
  refine .q hs (q_move rfl) ?_
  refine .o (.call Try.call40 rfl (probe_CheckProbes_spec (a := a) hs ⟨_, _, rfl, hl, hw⟩ hp) ?_); rintro _ w ⟨H1, e, hle1, rfl, hC, hs⟩
  refine .q hs (q_assign rfl) ?_
  refine .nil ?_
  refine .regSeq ?_
  refine .q hs (q_move rfl) ?_
  refine .q hs (q_neq rfl rfl) ?_
  refine .nil ?_
  refine (.condN rfl (fun hc14 => ?_) (fun hc14 => ?_))
  · refine .regSeq ?_
    refine .o (.alloc hs Try.zeroValue140 rfl ?_); intro b9 w hs
    refine .nil ?_
    refine .regSeq ?_
    first | refine .q hs (q_loads (vs := [_, _, _, _, _]) rfl Try.isAgg140 Try.sizeOf140) ?_ | refine .q hs (q_loadsR (vs := [_, _, _, _, _]) rfl Try.isAgg140 Try.sizeOf140 (by assumption)) ?_
    refine .q hs (q_move rfl) ?_
    refine .o (.stores (vs := [_, _, _, _, _]) hs rfl rfl Try.sizeOf140 ?_); intro w hs
    refine .q hs (q_assign rfl) ?_
    refine .nil ?_
    refine .ret (rT (?_))
    exact Fin.retD [] [] hs fun w hs => ⟨_, results2 Try.results181 (rcells (vs := [_, _, _, _, _]) hs rfl Try.isAgg140 Try.sizeOf140) rfl, H1, _, .none, e, hle1, rfl, RPick.nil _, .inl ⟨hC, hc14, rfl⟩, hs.out⟩
  · refine .skip ?_
    refine nT ?_
    refine .regSeq ?_
    refine .q hs (q_move rfl) ?_
    first | refine .q hs (q_loads (vs := [_, _, _, _]) rfl Try.isAgg34 Try.sizeOf34) ?_ | refine .q hs (q_loadsR (vs := [_, _, _, _]) rfl Try.isAgg34 Try.sizeOf34 (by assumption)) ?_
    rw [hc14] at hC
    refine .o (.callG (first := []) rfl rfl hc (hg _ _ _ hle1 hC hs) ?_); rintro _ w ⟨H2, vk, p, e2, hle2, rfl, ⟨vp, vu, vf, css, rfl, k1, k2, k3, k4⟩, hR, hs⟩
    obtain ⟨ap, cp, rfl⟩ := RI.shape k1; obtain ⟨au, cu, rfl⟩ := RU.shape k2; obtain ⟨af, cf, rfl⟩ := RS.shape k3
    refine .q hs (q_extract rfl rfl) ?_
    refine .q hs (q_extract rfl rfl) ?_
    refine .o (.stores (vs := [_, _, _, _, _]) hs rfl rfl Try.sizeOf140 ?_); intro w hs
    refine .q hs (q_assign rfl) ?_
    refine .nil ?_
    refine .ret ?_
    exact Fin.retD [] [] hs fun w hs => ⟨_, results2 Try.results181 (rcells (vs := [_, _, _, _, _]) hs rfl Try.isAgg140 Try.sizeOf140) rfl, H2, _, p, e2, hle1.trans hle2, rfl, ⟨_, _, _, css, rfl, k1, k2, k3, k4⟩, .inr ⟨hC, hR⟩, hs.out⟩
theorem probe_Fewest_spec {H : Heap} {w : World} {σ : List Ent} {v vl : Value} {a : Quest} {l : List Prb} (hs : St H w σ) (hr : RAsk H v a) (hp : RPs H vl l) :
    Cl Try.prog 103 [v, vl] w fun u w' => ∃ H1 vk p e, HLe H H1 ∧ u = .tuple #[vk, I e] ∧ RPick H1 vk p ∧ ((CPrbR a l e ∧ e ≠ 0 ∧ p = .none) ∨ (CPrbR a l 0 ∧ FewP a l p e)) ∧ St H1 w' σ := by
  obtain ⟨ul, uw, rfl, hl, hw⟩ := hr
  obtain ⟨al, cpl, rfl⟩ := RPs.shape hp
  refine Cl.of Try.func103 rfl Try.ntmps103 (by simp) (args_cons (k := 0) rfl (args_cons (k := 1) rfl (args0))) ?_
  refine .regSeq ?_
  refine .o (.box hs rfl rfl ?_); intro b2 w hs
  refine .o (.box hs rfl rfl ?_); intro b3 w hs
  refine .o (.alloc hs Try.zeroValue140 rfl ?_); intro b4 w hs
  refine .q hs (q_assign rfl) ?_
  refine .nil ?_
  refine .regSeq ?_
  first | refine .q hs (q_loads (vs := [_, _, _, _]) rfl Try.isAgg34 Try.sizeOf34) ?_ | refine .q hs (q_loadsR (vs := [_, _, _, _]) rfl Try.isAgg34 Try.sizeOf34 (by assumption)) ?_
  first | refine .q hs (q_load rfl Try.isAgg35) ?_ | refine .q hs (q_loadR rfl Try.isAgg35 (by assumption)) ?_
  refine .q hs (q_makeFunc (f := []) (c := [_]) rfl rfl) ?_
  obtain ⟨H0, hle0, hb3, hs⟩ := hs.publish (b := b3) (by repeat constructor)
  refine .o (.call Try.call181 rfl (probe_told_Pick (R := FewP a l) (a := a) (l := l) (cap := [.pointer (some ⟨b3, 0, none⟩)]) hs ⟨_, _, rfl, hl.mono hle0, hw.mono hle0⟩ (hp.mono hle0) Try.call182 ?_) ?_)
  · rintro H' w σ' hle hC hs
    obtain ⟨hok, hlen, hin⟩ := hC.zero
    exact probe_Fewest_1 (a := a) (l := l) hs ⟨_, _, rfl, (hl.mono hle0).mono hle, (hw.mono hle0).mono hle⟩ (hb3.mono hle) ((hp.mono hle0).mono hle) hok hlen (fun p h => (hin p h).inn)
  rintro _ w ⟨H1, vk, p, e, hle1, rfl, ⟨vp, vu, vf, css, rfl, k1, k2, k3, k4⟩, hcase, hs⟩
  obtain ⟨ap, cp, rfl⟩ := RI.shape k1; obtain ⟨au, cu, rfl⟩ := RU.shape k2; obtain ⟨af, cf, rfl⟩ := RS.shape k3
  refine .q hs (q_extract rfl rfl) ?_
  refine .q hs (q_extract rfl rfl) ?_
  refine .o (.stores (vs := [_, _, _, _, _]) hs rfl rfl Try.sizeOf140 ?_); intro w hs
  refine .q hs (q_assign rfl) ?_
  refine .nil ?_
  refine .ret ?_
  exact Fin.retD [] [] hs fun w hs => ⟨_, results2 Try.results103 (rcells (vs := [_, _, _, _, _]) hs rfl Try.isAgg140 Try.sizeOf140) rfl, H1, _, p, e, hle0.trans hle1, rfl, ⟨_, _, _, css, rfl, k1, k2, k3, k4⟩, hcase, hs.out⟩
end Go.Proofs.Ytiiokdeehlfeeaa
