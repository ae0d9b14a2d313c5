/-
  Texts of this claim, joined: Opw Xd Xe.
-/
import Derived.Test.YtiiokdeehlfeeaaKn
import Derived.Test.YtiiokdeehlfeeaaKo
import Derived.Test.YtiiokdeehlfeeaaKt
/-
  What an argument of the shown width and its proof holds, when it is read.
-/
namespace Go.Proofs.Ytiiokdeehlfeeaa
open Go.MW Go.ChangeShapes Go.WideShapes
set_option maxRecDepth 100000
theorem c_uses : Try.prog.cellsOf 38 = 1 := by kernel_rfl
theorem c_Use : Try.prog.cellsOf 154 = 2 := by kernel_rfl
theorem b_Use : Try.prog.bytesOf 154 = 16 := by kernel_rfl
theorem c_Proof : Try.prog.cellsOf 40 = 2 := by kernel_rfl
theorem c_Shown : Try.prog.cellsOf 65 = 3 := by kernel_rfl
/-- a width and its proof -/
structure Shw where
  n : Int
  b : Int
  us : List Use
def RShw (H : Heap) (v : Value) (s : Shw) : Prop := ∃ u, v = .agg #[I s.n, I s.b, u] ∧ RU H u s.us
theorem fold_uses : ∀ {ls : List Prb}, ls.map Prb.c = (ls.map fun p => (⟨p.u, p.t⟩ : Use)).map Use.c := by
  intro ls; rw [List.map_map]; rfl
section
variable {H : Type} {enc : TypeId × Value → H} {w : World} {sp : Nat → Bool} {held : Bool} {n : Nat} {cs : List Value} {y : DataW H × List MemPlace} {v : Value} {d : DataW H} {p : List MemPlace} {r : Reach} {base : Nat}
theorem o_uses (hw : Wt Try.prog 38 y.1) (h : DataW.trod enc Try.prog w 0 sp held n 38 cs = some y) : ∃ v us, cs = [v] ∧ RU (hp w) v us ∧ us.length ≤ 8796093021952 := by
  obtain ⟨v, zs, h1, h2, h9, h3⟩ := trod_RS (k := 2) Try.underlying38 Try.underlying154 rfl (by decide) (by
    intro i f hf
    match i with
    | 0 | 1 => cases hf; exact ⟨rfl, Try.underlying3, c_int⟩
    | i + 2 => simp at hf) c_Use hw h
  obtain ⟨ls, h4, h5⟩ := twos h3
  rw [b_Use, reach_eq] at h9
  have h6 : zs.length = ls.length := by have := congrArg List.length h4; simpa using this
  exact ⟨v, ls.map fun p => ⟨p.u, p.t⟩, h1, by unfold RU; rw [← fold_uses, ← h4]; exact h2, by rw [List.length_map]; omega⟩
theorem o_Proof (hw : Wt Try.prog 40 y.1) (h : DataW.trod enc Try.prog w 0 sp held n 40 cs = some y) : ∃ (m : Int) (us : List Use) (u : Value), cs = [I m, u] ∧ RU (hp w) u us ∧ I64 m ∧ us.length ≤ 8796093021952 := by
  obtain ⟨ys, m, _, rfl, hlen, hyl, hg⟩ := DataW.trod_struct Try.underlying40 h
  rw [c_Proof] at hlen
  obtain ⟨c0, c1, rfl⟩ := len2 hlen
  obtain ⟨_, h0, k0⟩ := fld hg hyl 0 rfl rfl rfl c_int Try.underlying40 hw
  obtain ⟨_, h1, k1⟩ := fld hg hyl 1 rfl rfl rfl c_uses Try.underlying40 hw
  obtain ⟨m, e0, i0⟩ := trod_i Try.underlying3 h0
  obtain ⟨u, us, e1, r1, i1⟩ := o_uses k1 h1
  cases e0; cases e1
  exact ⟨m, us, _, rfl, r1, i0, i1⟩
theorem open_Shown (hv : Value.okWide Try.prog w r base 65 v) (h : DataW.Trod enc Try.prog w 0 sp held 65 v d p) (hw : Wt Try.prog 65 d) : ∃ s, RShw (hp w) v s ∧ I64 s.n := by
  obtain ⟨cs, n, rfl, hn, _⟩ := arg_struct Try.underlying65 hv h
  obtain ⟨ys, m, _, e, hlen, hyl, hg⟩ := DataW.trod_struct Try.underlying65 hn
  cases e
  rw [c_Shown] at hlen
  obtain ⟨c0, c1, c2, rfl⟩ := len3 hlen
  obtain ⟨_, h0, k0⟩ := fld hg hyl 0 rfl rfl rfl c_int Try.underlying65 hw
  obtain ⟨_, h1, k1⟩ := fld hg hyl 1 rfl rfl rfl c_Proof Try.underlying65 hw
  obtain ⟨m, e0, i0⟩ := trod_i Try.underlying3 h0
  obtain ⟨b, us, u, e1, r1, i1, i2⟩ := o_Proof k1 h1
  cases e0; cases e1
  exact ⟨⟨m, b, us⟩, ⟨_, rfl, r1⟩, i0⟩
end
end Go.Proofs.Ytiiokdeehlfeeaa

/-
  Walks: which proofs the program accepts, of sums and of greatest widths; the same by the reference.
-/
namespace Go.Proofs.Ytiiokdeehlfeeaa
open Go.MW
theorem slices_Equal_int {H : Heap} {w : World} {σ : List Ent} {va vb : Value} {A B : List Int} (hs : St H w σ) (hA : RI H va A) (hB : RI H vb B) :
    Cl Try.prog 166 [va, vb] w fun v w' => v = .bool (decide (A = B)) ∧ St H w' σ := by
  obtain ⟨aA, cA, rfl⟩ := RI.shape hA
  obtain ⟨aB, cB, rfl⟩ := RI.shape hB
  have hlA := (RI.len hA).2.2
  have hlB := (RI.len hB).2.2
  refine Cl.of Try.func166 rfl Try.ntmps166 (by simp) (args_cons (k := 0) rfl (args_cons (k := 1) rfl (args0))) ?_
  refine .regSeq ?_
  refine .q hs (q_assign rfl) ?_
  refine .nil ?_
  refine .seq ?_
  refine .regSeq ?_
  refine .q hs (q_move rfl) ?_
  first | refine .q hs (q_len rfl Try.runUnderlying22) ?_ | refine .q hs (q_lenR (by assumption) rfl Try.runUnderlying22) ?_ | refine .q hs (q_lenI (by assumption) rfl Try.runUnderlying22) ?_
  refine .q hs (q_move rfl) ?_
  first | refine .q hs (q_len rfl Try.runUnderlying22) ?_ | refine .q hs (q_lenR (by assumption) rfl Try.runUnderlying22) ?_ | refine .q hs (q_lenI (by assumption) rfl Try.runUnderlying22) ?_
  refine .q hs (q_neq rfl rfl) ?_
  refine .nil ?_
  refine (.condN rfl (fun hc10 => ?_) (fun hc10 => ?_))
  · refine .regSeq ?_
    refine .q hs (q_assign rfl) ?_
    refine .nil ?_
    refine .ret (rT (Fin.ret1 Try.results166 rfl ?_))
    exact ⟨by rw [decide_eq_false (by intro h; subst h; exact hc10 rfl)], hs⟩
  · refine .skip ?_
    refine nT ?_
    refine .seq ?_
    refine .regSeq ?_
    refine .q hs (q_move rfl) ?_
    first | refine .q hs (q_len rfl Try.runUnderlying22) ?_ | refine .q hs (q_lenR (by assumption) rfl Try.runUnderlying22) ?_ | refine .q hs (q_lenI (by assumption) rfl Try.runUnderlying22) ?_
    refine .q hs (q_move rfl) ?_
    refine .nil ?_
    refine .for (N := A.length) (J := fun k fr w => fr = [(0, .slice aA A.length cA), (1, .slice aB B.length cB)] ∧ (∀ j < k, A[j]? = B[j]?) ∧ St H w σ) (by omega) ?_ ?_ ?_
    · exact .mk ⟨rfl, fun j h => by omega, hs⟩
    · rintro k fr w hk ⟨rfl, h0, hs⟩
      obtain ⟨xA, hxA⟩ := nth hk
      obtain ⟨xB, hxB⟩ := nth (l := B) (k := k) (by omega)
      refine .block ?_
      refine .regSeq ?_
      refine .q hs (q_move rfl) ?_
      refine .q hs (q_assign rfl) ?_
      refine .nil ?_
      refine .seq (.draw mix rfl hs ?_); intro w hs
      refine .p (i := 0) rfl (by kernel_rfl) .none (q_move rfl) ?_
      refine .p (i := 1) rfl (by kernel_rfl) .none (q_move rfl) ?_
      refine .ixX (enc := fun x => [I x]) (i := 2) hs rfl (by kernel_rfl) .none hA rfl rfl Try.runUnderlying22 Try.sizeOf3 hxA rfl ?_; intro b18 o18 hc18; replace hc18 := CellsAt.one hc18
      refine .r (i := 3) hs rfl (by kernel_rfl) .none (q_loadR rfl Try.isAgg3 hc18) ?_
      refine .p (i := 4) rfl (by kernel_rfl) .none (q_move rfl) ?_
      refine .p (i := 5) rfl (by kernel_rfl) .none (q_move rfl) ?_
      refine .ixX (enc := fun x => [I x]) (i := 6) hs rfl (by kernel_rfl) .none hB rfl rfl Try.runUnderlying22 Try.sizeOf3 hxB rfl ?_; intro b22 o22 hc22; replace hc22 := CellsAt.one hc22
      refine .r (i := 7) hs rfl (by kernel_rfl) .none (q_loadR rfl Try.isAgg3 hc22) ?_
      refine .p (i := 8) rfl (by kernel_rfl) .none (q_neq rfl rfl) ?_
      refine .done (by kernel_rfl) hs ?_
      refine (.condN rfl (fun hc24 => ?_) (fun hc24 => ?_))
      · refine .regSeq ?_
        refine .q hs (q_assign rfl) ?_
        refine .nil ?_
        refine .ret (rB (rT (rB (rT (Fin.ret1 Try.results166 rfl ?_)))))
        exact ⟨by rw [decide_eq_false (by intro h; subst h; rw [hxA] at hxB; cases hxB; exact hc24 rfl)], hs⟩
      · refine .skip ?_
        refine nB (nT ?_)
        exact .mk ⟨rfl, fun j hj => by
          by_cases e : j = k
          · subst e; rw [hxA, hxB, hc24]
          · exact h0 j (by omega), hs⟩
    · rintro fr w ⟨rfl, h0, hs⟩
      refine nT ?_
      refine .regSeq ?_
      refine .q hs (q_assign rfl) ?_
      refine .nil ?_
      refine .ret (Fin.ret1 Try.results166 rfl ?_)
      exact ⟨by rw [decide_eq_true (List.ext_getElem? fun j => by
        by_cases e : j < A.length
        · exact h0 j e
        · rw [List.getElem?_eq_none (by omega), List.getElem?_eq_none (by omega)])], hs⟩

set_option maxHeartbeats 8000000 in
theorem bound_isProof_spec {H : Heap} {w : World} {σ : List Ent} {v vw vp : Value} {s : Syst} {ws : List Int} {n : Int} {us : List Use} (hs : St H w σ) (hr : RSy H v s) (hrw : RI H vw ws) (hp : RPf H vp n us) (hA : askErr s ws = 0) :
    Cl Try.prog 177 [v, vw, vp] w fun v w' => ∃ H1 b, HLe H H1 ∧ v = .bool b ∧ (b = true ↔ ProofOk s ws n us) ∧ St H1 w' σ := by
  obtain ⟨u, rfl, hr⟩ := hr
  obtain ⟨al, cl, rfl⟩ := RL.shape hr
  obtain ⟨aw, cw, rfl⟩ := RI.shape hrw
  obtain ⟨uu, rfl, hU⟩ := hp
  obtain ⟨au, cu, rfl⟩ := RU.shape hU
  obtain ⟨hok, hwl, hz⟩ := askErr_ok hA
  have hm0 := hok.m0
  have hn65 := hok.n65
  have hll := hok.len
  have hmn : s.many + 1 = (s.n : Int) := by simp only [Syst.n]; omega
  refine Cl.of Try.func177 rfl Try.ntmps177 (by simp) (args_cons (k := 0) rfl (args_cons (k := 1) rfl (args_cons (k := 2) rfl (args0)))) ?_
  refine .regSeq ?_
  refine .o (.box hs rfl rfl ?_); intro b3 w hs
  refine .o (.box hs rfl rfl ?_); intro b5 w hs
  refine .q hs (q_assign rfl) ?_
  refine .nil ?_
  refine .seq ?_
  refine .regSeq ?_
  first | refine .q hs (q_fa0 rfl fa_api_Proof_1) ?_ | refine .q hs (q_fa rfl fa_api_Proof_1) ?_
  first | refine .q hs (q_load rfl Try.isAgg38) ?_ | refine .q hs (q_loadR rfl Try.isAgg38 (by assumption)) ?_
  first | refine .q hs (q_len rfl Try.runUnderlying38) ?_ | refine .q hs (q_lenR (by assumption) rfl Try.runUnderlying38) ?_ | refine .q hs (q_lenI (by assumption) rfl Try.runUnderlying38) ?_
  refine .q hs (q_gtr rfl rfl) ?_
  refine .nil ?_
  refine (.condD rfl (fun hc16 => ?_) (fun hc16 => ?_))
  · refine .regSeq ?_
    refine .q hs (q_assign rfl) ?_
    refine .nil ?_
    refine .ret (rT (Fin.ret1 Try.results177 rfl ?_))
    exact ⟨H, false, HLe.refl H, rfl, ⟨fun h => (by cases h), fun h => by have := h.len; omega⟩, hs.out⟩
  · refine .skip ?_
    refine nT ?_
    refine .regSeq ?_
    first | refine .q hs (q_fa0 rfl fa_api_System_0) ?_ | refine .q hs (q_fa rfl fa_api_System_0) ?_
    first | refine .q hs (q_load rfl Try.isAgg3) ?_ | refine .q hs (q_loadR rfl Try.isAgg3 (by assumption)) ?_
    first | refine .q hs (q_addF rfl rfl (by omega)) ?_ | refine .q hs (q_addU rfl rfl ⟨by omega, by omega⟩) ?_ | refine .q hs (q_add rfl rfl) ?_
    rw [hmn]
    refine .o (.makeI s.n hs rfl rfl Try.runUnderlying22 Try.typeInfo3 rfl Try.sizeOf3 Try.zeroValue3 (by omega) ?_); intro b20 w hs
    refine .q hs (q_assign rfl) ?_
    refine .nil ?_
    refine .regSeq ?_
    refine .q hs (q_assign rfl) ?_
    refine .q hs (q_assign rfl) ?_
    refine .nil ?_
    refine .seq ?_
    refine .regSeq ?_
    first | refine .q hs (q_fa0 rfl fa_api_Proof_1) ?_ | refine .q hs (q_fa rfl fa_api_Proof_1) ?_
    first | refine .q hs (q_load rfl Try.isAgg38) ?_ | refine .q hs (q_loadR rfl Try.isAgg38 (by assumption)) ?_
    first | refine .q hs (q_len rfl Try.runUnderlying38) ?_ | refine .q hs (q_lenR (by assumption) rfl Try.runUnderlying38) ?_ | refine .q hs (q_lenI (by assumption) rfl Try.runUnderlying38) ?_
    refine .q hs (q_move rfl) ?_
    refine .nil ?_
    refine .for (N := us.length) (J := fun k fr w => fr = [(22, .slice au us.length cu), (7, .slice (some ⟨b20, 0, none⟩) s.n s.n), (8, I (timesTo us k)), (9, I (IntKind.i64.wrap (boundTo s us k))), (3, .pointer (some ⟨b3, 0, none⟩)), (5, .pointer (some ⟨b5, 0, none⟩)), (1, .slice aw ws.length cw)] ∧ ∃ C, (C.length = s.n ∧ ∀ v < s.n, gi C v = intoTo s us k v) ∧ (∀ i < k, UseOk s us i) ∧ timesTo us k ≤ 3600000000000 * k ∧ St H w (.blk b20 (Is C) :: .blk b5 [I n, .slice au us.length cu] :: .blk b3 [I s.many, .slice al s.lims.length cl] :: σ)) (by omega) ?_ ?_ ?_
    · exact .mk ⟨rfl, _, ⟨by simp, fun v hv => by rw [gi_replicate _ _ hv]; rfl⟩, fun i hi => by omega, by simp [timesTo, sumTo], hs⟩ (hs := .cons rfl (.cons rfl (.cons rfl (.cons rfl (.cons rfl (.consI rfl (by simp [boundTo, sumTo, i64wrap_eq]) (by repeat (first | exact .nil rfl rfl | refine .cons rfl ?_))))))))
    · rintro k fr w hk ⟨rfl, C, ⟨hC1, hC2⟩, hUs, hTm, hs⟩
      have hx := gu_get hk
      have hu400 : us.length ≤ 400 := by omega
      refine .block ?_
      refine .regSeq ?_
      refine .q hs (q_move rfl) ?_
      refine .ixX (enc := Use.c) hs hU rfl rfl Try.runUnderlying38 Try.sizeOf154 hx rfl ?_; intro b27 o27 hc27
      refine .q hs (q_loadsR (vs := (gu us k).c) rfl Try.isAgg154 Try.sizeOf154 hc27) ?_
      refine .o (.alloc hs Try.zeroValue154 rfl ?_); intro b11 w hs
      refine .q hs (q_assign rfl) ?_
      refine .o (.stores (vs := (gu us k).c) hs rfl rfl Try.sizeOf154 ?_); intro w hs
      refine .nil ?_
      refine .seq ?_
      refine .cut (fun fs w => ∃ p, FSub fs ⟨110, [], [(58, .bool p), (11, .pointer (some ⟨b11, 0, none⟩)), (24, I (k : Int)), (23, I (us.length : Int)), (22, .slice au us.length cu), (7, .slice (some ⟨b20, 0, none⟩) s.n s.n), (8, I (timesTo us k)), (9, I (IntKind.i64.wrap (boundTo s us k))), (3, .pointer (some ⟨b3, 0, none⟩)), (5, .pointer (some ⟨b5, 0, none⟩)), (1, .slice aw ws.length cw)]⟩ ∧ (p = true → ¬ UseOk s us k) ∧ (p = false → UseOk s us k) ∧ St H w (.blk b11 (gu us k).c :: .blk b20 (Is C) :: .blk b5 [I n, .slice au us.length cu] :: .blk b3 [I s.many, .slice al s.lims.length cl] :: σ)) ?_ ?_
      · refine .draw mix rfl hs ?_; intro w hs
        first | refine .p (i := 0) rfl (by kernel_rfl) .none (q_fa0 rfl fa_api_Use_0) ?_ | refine .p (i := 0) rfl (by kernel_rfl) .none (q_fa rfl fa_api_Use_0) ?_
        first | refine .load (i := 1) hs rfl (by kernel_rfl) .none rfl Try.isAgg3 ?_ | refine .r (i := 1) hs rfl (by kernel_rfl) .none (q_loadR rfl Try.isAgg3 (by assumption)) ?_
        first | refine .p (i := 2) rfl (by kernel_rfl) .none (q_fa0 rfl fa_api_System_1) ?_ | refine .p (i := 2) rfl (by kernel_rfl) .none (q_fa rfl fa_api_System_1) ?_
        first | refine .load (i := 3) hs rfl (by kernel_rfl) .none rfl Try.isAgg30 ?_ | refine .r (i := 3) hs rfl (by kernel_rfl) .none (q_loadR rfl Try.isAgg30 (by assumption)) ?_
        first | refine .p (i := 4) rfl (by kernel_rfl) .none (q_len rfl Try.runUnderlying30) ?_ | refine .r (i := 4) hs rfl (by kernel_rfl) .none (q_lenR (by assumption) rfl Try.runUnderlying30) ?_ | refine .r (i := 4) hs rfl (by kernel_rfl) .none (q_lenI (by assumption) rfl Try.runUnderlying30) ?_
        first | refine .p (i := 5) rfl (by kernel_rfl) .none (q_subF rfl rfl (by omega)) ?_ | refine .p (i := 5) rfl (by kernel_rfl) .none (q_sub rfl rfl) ?_
        refine .e1 (i := 6) (by kernel_rfl) rfl rfl .none hs ?_
        refine .call Try.call160 rfl (bound_within_spec hs) ?_; rintro _ w ⟨rfl, hs⟩
        refine .go ?_
        refine .p (i := 7) rfl (by kernel_rfl) .none (q_not rfl) ?_
        refine .p (i := 8) rfl (by kernel_rfl) .none (q_move rfl) ?_
        refine .bif (t' := 37) rfl (fun hb37 => ?_) (fun hb37 => ?_)
        · refine .qF (i := 9) rfl (by kernel_rfl) rfl rfl ?_
          refine .qF (i := 10) rfl (by kernel_rfl) rfl rfl ?_
          refine .qF (i := 11) rfl (by kernel_rfl) rfl rfl ?_
          refine .qF (i := 12) rfl (by kernel_rfl) rfl rfl ?_
          refine .p (i := 13) rfl (by kernel_rfl) .none (q_pickT rfl rfl) ?_
          refine .p (i := 14) rfl (by kernel_rfl) .none (q_move rfl) ?_
          refine .qF (i := 15) rfl (by kernel_rfl) rfl rfl ?_
          refine .qF (i := 16) rfl (by kernel_rfl) rfl rfl ?_
          refine .qF (i := 17) rfl (by kernel_rfl) rfl rfl ?_
          refine .qF (i := 18) rfl (by kernel_rfl) rfl rfl ?_
          refine .qF (i := 19) rfl (by kernel_rfl) rfl rfl ?_
          refine .qF (i := 20) rfl (by kernel_rfl) rfl rfl ?_
          refine .qF (i := 21) rfl (by kernel_rfl) rfl rfl ?_
          refine .qF (i := 22) rfl (by kernel_rfl) rfl rfl ?_
          refine .qF (i := 23) rfl (by kernel_rfl) rfl rfl ?_
          refine .qF (i := 24) rfl (by kernel_rfl) rfl rfl ?_
          refine .qF (i := 25) rfl (by kernel_rfl) rfl rfl ?_
          refine .qF (i := 26) rfl (by kernel_rfl) rfl rfl ?_
          refine .qF (i := 27) rfl (by kernel_rfl) rfl rfl ?_
          refine .qF (i := 28) rfl (by kernel_rfl) rfl rfl ?_
          refine .p (i := 29) rfl (by kernel_rfl) .none (q_pickT rfl rfl) ?_
          refine .done (by kernel_rfl) hs ?_
          exact nT ⟨_, by repeat (first | exact .nil rfl rfl | refine .cons rfl ?_), by
            intro hp hU
            have h1 := hU.l0; have h2 := hU.l1; have h3 := hU.t0; have h4 := hU.t1; have h5 := hU.ord
            first
              | (cases hp; done)
              | (have := notdec_true.1 hb37; omega)
              | (have := notdec_true.1 hb43; omega)
              | (have := of_decide_eq_true hp; have := h5 (by omega); omega), by
            intro hp
            first
              | (cases hp; done)
              | exact ⟨by have := notdec_false.1 hb37; omega, by have := notdec_false.1 hb37; omega, by have := notdec_false.1 hb43; omega, by have := notdec_false.1 hb43; omega, fun h => by first | omega | (have := of_decide_eq_false hp; omega)⟩, hs⟩
        · first | refine .p (i := 9) rfl (by kernel_rfl) (.some rfl rfl) (q_fa0 rfl fa_api_Use_1) ?_ | refine .p (i := 9) rfl (by kernel_rfl) (.some rfl rfl) (q_fa rfl fa_api_Use_1) ?_
          first | refine .load (i := 10) hs rfl (by kernel_rfl) (.some rfl rfl) rfl Try.isAgg3 ?_ | refine .r (i := 10) hs rfl (by kernel_rfl) (.some rfl rfl) (q_loadR rfl Try.isAgg3 (by assumption)) ?_
          refine .e1 (i := 11) (by kernel_rfl) rfl rfl (.some rfl rfl) hs ?_
          refine .call Try.call160 rfl (bound_within_spec hs) ?_; rintro _ w ⟨rfl, hs⟩
          refine .go ?_
          refine .p (i := 12) rfl (by kernel_rfl) (.some rfl rfl) (q_not rfl) ?_
          refine .p (i := 13) rfl (by kernel_rfl) .none (q_pickF rfl rfl) ?_
          refine .p (i := 14) rfl (by kernel_rfl) .none (q_move rfl) ?_
          refine .bif (t' := 43) rfl (fun hb43 => ?_) (fun hb43 => ?_)
          · refine .qF (i := 15) rfl (by kernel_rfl) rfl rfl ?_
            refine .qF (i := 16) rfl (by kernel_rfl) rfl rfl ?_
            refine .qF (i := 17) rfl (by kernel_rfl) rfl rfl ?_
            refine .qF (i := 18) rfl (by kernel_rfl) rfl rfl ?_
            refine .qF (i := 19) rfl (by kernel_rfl) rfl rfl ?_
            refine .qF (i := 20) rfl (by kernel_rfl) rfl rfl ?_
            refine .qF (i := 21) rfl (by kernel_rfl) rfl rfl ?_
            refine .qF (i := 22) rfl (by kernel_rfl) rfl rfl ?_
            refine .qF (i := 23) rfl (by kernel_rfl) rfl rfl ?_
            refine .qF (i := 24) rfl (by kernel_rfl) rfl rfl ?_
            refine .qF (i := 25) rfl (by kernel_rfl) rfl rfl ?_
            refine .qF (i := 26) rfl (by kernel_rfl) rfl rfl ?_
            refine .qF (i := 27) rfl (by kernel_rfl) rfl rfl ?_
            refine .qF (i := 28) rfl (by kernel_rfl) rfl rfl ?_
            refine .p (i := 29) rfl (by kernel_rfl) .none (q_pickT rfl rfl) ?_
            refine .done (by kernel_rfl) hs ?_
            exact nT ⟨_, by repeat (first | exact .nil rfl rfl | refine .cons rfl ?_), by
              intro hp hU
              have h1 := hU.l0; have h2 := hU.l1; have h3 := hU.t0; have h4 := hU.t1; have h5 := hU.ord
              first
                | (cases hp; done)
                | (have := notdec_true.1 hb37; omega)
                | (have := notdec_true.1 hb43; omega)
                | (have := of_decide_eq_true hp; have := h5 (by omega); omega), by
              intro hp
              first
                | (cases hp; done)
                | exact ⟨by have := notdec_false.1 hb37; omega, by have := notdec_false.1 hb37; omega, by have := notdec_false.1 hb43; omega, by have := notdec_false.1 hb43; omega, fun h => by first | omega | (have := of_decide_eq_false hp; omega)⟩, hs⟩
          · refine .p (i := 15) rfl (by kernel_rfl) (.some rfl rfl) (q_move rfl) ?_
            refine .p (i := 16) rfl (by kernel_rfl) (.some rfl rfl) (q_gtr rfl rfl) ?_
            refine .p (i := 17) rfl (by kernel_rfl) (.some rfl rfl) (q_move rfl) ?_
            refine .bifD (t' := 46) rfl (fun hb46 => ?_) (fun hb46 => ?_)
            · first | refine .p (i := 18) rfl (by kernel_rfl) (.some rfl rfl) (q_fa0 rfl fa_api_Proof_1) ?_ | refine .p (i := 18) rfl (by kernel_rfl) (.some rfl rfl) (q_fa rfl fa_api_Proof_1) ?_
              first | refine .load (i := 19) hs rfl (by kernel_rfl) (.some rfl rfl) rfl Try.isAgg38 ?_ | refine .r (i := 19) hs rfl (by kernel_rfl) (.some rfl rfl) (q_loadR rfl Try.isAgg38 (by assumption)) ?_
              refine .p (i := 20) rfl (by kernel_rfl) (.some rfl rfl) (q_move rfl) ?_
              first | refine .p (i := 21) rfl (by kernel_rfl) (.some rfl rfl) (q_subF rfl rfl (by omega)) ?_ | refine .p (i := 21) rfl (by kernel_rfl) (.some rfl rfl) (q_sub rfl rfl) ?_
              refine .ixX (enc := Use.c) (i := 22) hs rfl (by kernel_rfl) (.some rfl rfl) hU rfl rfl Try.runUnderlying38 Try.sizeOf154 (gu_get (i := k - 1) (by omega)) (by omega) ?_; intro b51 o51 hc51
              first | refine .p (i := 23) rfl (by kernel_rfl) (.some rfl rfl) (q_fa0 rfl fa_api_Use_0) ?_ | refine .p (i := 23) rfl (by kernel_rfl) (.some rfl rfl) (q_fa rfl fa_api_Use_0) ?_
              refine .r (i := 24) hs rfl (by kernel_rfl) (.some rfl rfl) (q_loadR rfl Try.isAgg3 (hc51.get 0 rfl)) ?_
              first | refine .p (i := 25) rfl (by kernel_rfl) (.some rfl rfl) (q_fa0 rfl fa_api_Use_0) ?_ | refine .p (i := 25) rfl (by kernel_rfl) (.some rfl rfl) (q_fa rfl fa_api_Use_0) ?_
              first | refine .load (i := 26) hs rfl (by kernel_rfl) (.some rfl rfl) rfl Try.isAgg3 ?_ | refine .r (i := 26) hs rfl (by kernel_rfl) (.some rfl rfl) (q_loadR rfl Try.isAgg3 (by assumption)) ?_
              refine .p (i := 27) rfl (by kernel_rfl) (.some rfl rfl) (q_geq rfl rfl) ?_
              refine .p (i := 28) rfl (by kernel_rfl) (.some rfl rfl) (q_pickT rfl rfl) ?_
              refine .p (i := 29) rfl (by kernel_rfl) .none (q_pickF rfl rfl) ?_
              refine .done (by kernel_rfl) hs ?_
              exact nT ⟨_, by repeat (first | exact .nil rfl rfl | refine .cons rfl ?_), by
                intro hp hU
                have h1 := hU.l0; have h2 := hU.l1; have h3 := hU.t0; have h4 := hU.t1; have h5 := hU.ord
                first
                  | (cases hp; done)
                  | (have := notdec_true.1 hb37; omega)
                  | (have := notdec_true.1 hb43; omega)
                  | (have := of_decide_eq_true hp; have := h5 (by omega); omega), by
                intro hp
                first
                  | (cases hp; done)
                  | exact ⟨by have := notdec_false.1 hb37; omega, by have := notdec_false.1 hb37; omega, by have := notdec_false.1 hb43; omega, by have := notdec_false.1 hb43; omega, fun h => by first | omega | (have := of_decide_eq_false hp; omega)⟩, hs⟩
            · refine .qF (i := 18) rfl (by kernel_rfl) rfl rfl ?_
              refine .qF (i := 19) rfl (by kernel_rfl) rfl rfl ?_
              refine .qF (i := 20) rfl (by kernel_rfl) rfl rfl ?_
              refine .qF (i := 21) rfl (by kernel_rfl) rfl rfl ?_
              refine .qF (i := 22) rfl (by kernel_rfl) rfl rfl ?_
              refine .qF (i := 23) rfl (by kernel_rfl) rfl rfl ?_
              refine .qF (i := 24) rfl (by kernel_rfl) rfl rfl ?_
              refine .qF (i := 25) rfl (by kernel_rfl) rfl rfl ?_
              refine .qF (i := 26) rfl (by kernel_rfl) rfl rfl ?_
              refine .qF (i := 27) rfl (by kernel_rfl) rfl rfl ?_
              refine .p (i := 28) rfl (by kernel_rfl) (.some rfl rfl) (q_pickF rfl rfl) ?_
              refine .p (i := 29) rfl (by kernel_rfl) .none (q_pickF rfl rfl) ?_
              refine .done (by kernel_rfl) hs ?_
              exact nT ⟨_, by repeat (first | exact .nil rfl rfl | refine .cons rfl ?_), by
                intro hp hU
                have h1 := hU.l0; have h2 := hU.l1; have h3 := hU.t0; have h4 := hU.t1; have h5 := hU.ord
                first
                  | (cases hp; done)
                  | (have := notdec_true.1 hb37; omega)
                  | (have := notdec_true.1 hb43; omega)
                  | (have := of_decide_eq_true hp; have := h5 (by omega); omega), by
                intro hp
                first
                  | (cases hp; done)
                  | exact ⟨by have := notdec_false.1 hb37; omega, by have := notdec_false.1 hb37; omega, by have := notdec_false.1 hb43; omega, by have := notdec_false.1 hb43; omega, fun h => by first | omega | (have := of_decide_eq_false hp; omega)⟩, hs⟩
      · rintro fs w ⟨p, hfs, hp1, hp2, hs⟩
        refine WE.sub ?_ hfs
        refine (.cond rfl (fun hc58 => ?_) (fun hc58 => ?_))
        · refine .regSeq ?_
          refine .q hs (q_assign rfl) ?_
          refine .nil ?_
          refine .ret (rT (rB (rT (rB (rT (Fin.ret1 Try.results177 rfl ?_))))))
          exact ⟨H, false, HLe.refl H, rfl, ⟨fun h => (by cases h), fun h => (hp1 hc58 (h.use k hk)).elim⟩, hs.out⟩
        · refine .skip ?_
          refine nT ?_
          refine .regSeq ?_
          have hUk := hp2 (by simpa using hc58)
          have hUs' : ∀ i < k + 1, UseOk s us i := fun i hi => by
            by_cases e : i = k
            · subst e; exact hUk
            · exact hUs i (by omega)
          have hTp := times_pos hUs
          have ht0 := hUk.t0; have ht1 := hUk.t1; have hl0 := hUk.l0; have hl1 := hUk.l1
          have hgl := gl_get (ls := s.lims) (i := (gu us k).l.toNat) (by omega)
          obtain ⟨⟨xa0, xa1⟩, ⟨xb0, xb1⟩, xne, xM, -⟩ := hok.lim _ (List.mem_of_getElem? hgl)
          have hbs : boundTo s us (k + 1) = boundTo s us k + (gu us k).t * (ul s us k).M := rfl
          have hts : timesTo us (k + 1) = timesTo us k + (gu us k).t := rfl
          change 0 ≤ (ul s us k).A at xa0; change (ul s us k).A ≤ s.many at xa1
          change 0 ≤ (ul s us k).B at xb0; change (ul s us k).B ≤ s.many at xb1
          change (ul s us k).A ≠ (ul s us k).B at xne
          change -20000 ≤ (ul s us k).M ∧ (ul s us k).M ≤ 20000 at xM
          have hm1 : (gu us k).t * -20000 ≤ (gu us k).t * (ul s us k).M := Int.mul_le_mul_of_nonneg_left xM.1 (by omega)
          have hm2 : (gu us k).t * (ul s us k).M ≤ (gu us k).t * 20000 := Int.mul_le_mul_of_nonneg_left xM.2 (by omega)
          have hib := into_bd hUs (ul s us k).B.toNat
          have hia := into_bd hUs (ul s us k).A.toNat
          have hAn : (ul s us k).A.toNat < s.n := by omega
          have hBn : (ul s us k).B.toNat < s.n := by omega
          have hgA := hC2 _ hAn
          have hgB := hC2 _ hBn
          first | refine .q hs (q_fa0 rfl fa_api_System_1) ?_ | refine .q hs (q_fa rfl fa_api_System_1) ?_
          first | refine .q hs (q_load rfl Try.isAgg30) ?_ | refine .q hs (q_loadR rfl Try.isAgg30 (by assumption)) ?_
          first | refine .q hs (q_fa0 rfl fa_api_Use_0) ?_ | refine .q hs (q_fa rfl fa_api_Use_0) ?_
          first | refine .q hs (q_load rfl Try.isAgg3) ?_ | refine .q hs (q_loadR rfl Try.isAgg3 (by assumption)) ?_
          refine .ixX (enc := Lim.c) hs hr rfl rfl Try.runUnderlying30 Try.sizeOf100 hgl (by omega) ?_; intro b63 o63 hc63
          refine .q hs (q_loadsR (vs := (ul s us k).c) rfl Try.isAgg100 Try.sizeOf100 hc63) ?_
          refine .o (.alloc hs Try.zeroValue100 rfl ?_); intro b12 w hs
          refine .o (.stores (vs := (ul s us k).c) hs rfl rfl Try.sizeOf100 ?_); intro w hs
          refine .nil ?_
          refine .seq (.draw mix rfl hs ?_); intro w hs
          refine .p (i := 0) rfl (by kernel_rfl) .none (q_move rfl) ?_
          first | refine .p (i := 1) rfl (by kernel_rfl) .none (q_fa0 rfl fa_api_Limit_1) ?_ | refine .p (i := 1) rfl (by kernel_rfl) .none (q_fa rfl fa_api_Limit_1) ?_
          first | refine .load (i := 2) hs rfl (by kernel_rfl) .none rfl Try.isAgg3 ?_ | refine .r (i := 2) hs rfl (by kernel_rfl) .none (q_loadR rfl Try.isAgg3 (by assumption)) ?_
          refine .p (i := 3) rfl (by kernel_rfl) .none (q_ixO (k := (ul s us k).B.toNat) rfl rfl Try.runUnderlying22 Try.sizeOf3 (by omega) hBn) ?_
          first | refine .load (i := 4) hs rfl (by kernel_rfl) .none rfl Try.isAgg3 ?_ | refine .r (i := 4) hs rfl (by kernel_rfl) .none (q_loadR rfl Try.isAgg3 (by assumption)) ?_
          first | refine .p (i := 5) rfl (by kernel_rfl) .none (q_fa0 rfl fa_api_Use_1) ?_ | refine .p (i := 5) rfl (by kernel_rfl) .none (q_fa rfl fa_api_Use_1) ?_
          first | refine .load (i := 6) hs rfl (by kernel_rfl) .none rfl Try.isAgg3 ?_ | refine .r (i := 6) hs rfl (by kernel_rfl) .none (q_loadR rfl Try.isAgg3 (by assumption)) ?_
          first | refine .p (i := 7) rfl (by kernel_rfl) .none (q_addF rfl rfl (by omega)) ?_ | refine .p (i := 7) rfl (by kernel_rfl) .none (q_addU rfl rfl ⟨by omega, by omega⟩) ?_ | refine .p (i := 7) rfl (by kernel_rfl) .none (q_add rfl rfl) ?_
          refine .p (i := 8) rfl (by kernel_rfl) .none (q_ixO (k := (ul s us k).B.toNat) rfl rfl Try.runUnderlying22 Try.sizeOf3 (by omega) hBn) ?_
          refine .e1 (i := 9) (by kernel_rfl) rfl rfl .none hs ?_
          refine .store hs rfl rfl Try.sizeOf3 ?_; intro w hs
          refine .go ?_
          refine .done (by kernel_rfl) hs ?_
          have hD1 : (C.set (ul s us k).B.toNat (gi C (ul s us k).B.toNat + (gu us k).t)).length = s.n := by rw [List.length_set]; exact hC1
          have hD2 : ∀ v, gi (C.set (ul s us k).B.toNat (gi C (ul s us k).B.toNat + (gu us k).t)) v = if v = (ul s us k).B.toNat then gi C (ul s us k).B.toNat + (gu us k).t else gi C v := fun v => gi_set (by omega) _ v
          generalize C.set (ul s us k).B.toNat (gi C (ul s us k).B.toNat + (gu us k).t) = D at hs hD1 hD2
          have hgD : gi D (ul s us k).A.toNat = gi C (ul s us k).A.toNat := by rw [hD2, if_neg (by omega)]
          refine .seq (.draw mix rfl hs ?_); intro w hs
          refine .p (i := 0) rfl (by kernel_rfl) .none (q_move rfl) ?_
          first | refine .p (i := 1) rfl (by kernel_rfl) .none (q_fa0 rfl fa_api_Limit_0) ?_ | refine .p (i := 1) rfl (by kernel_rfl) .none (q_fa rfl fa_api_Limit_0) ?_
          first | refine .load (i := 2) hs rfl (by kernel_rfl) .none rfl Try.isAgg3 ?_ | refine .r (i := 2) hs rfl (by kernel_rfl) .none (q_loadR rfl Try.isAgg3 (by assumption)) ?_
          refine .p (i := 3) rfl (by kernel_rfl) .none (q_ixO (k := (ul s us k).A.toNat) rfl rfl Try.runUnderlying22 Try.sizeOf3 (by omega) hAn) ?_
          first | refine .load (i := 4) hs rfl (by kernel_rfl) .none rfl Try.isAgg3 ?_ | refine .r (i := 4) hs rfl (by kernel_rfl) .none (q_loadR rfl Try.isAgg3 (by assumption)) ?_
          first | refine .p (i := 5) rfl (by kernel_rfl) .none (q_fa0 rfl fa_api_Use_1) ?_ | refine .p (i := 5) rfl (by kernel_rfl) .none (q_fa rfl fa_api_Use_1) ?_
          first | refine .load (i := 6) hs rfl (by kernel_rfl) .none rfl Try.isAgg3 ?_ | refine .r (i := 6) hs rfl (by kernel_rfl) .none (q_loadR rfl Try.isAgg3 (by assumption)) ?_
          first | refine .p (i := 7) rfl (by kernel_rfl) .none (q_subF rfl rfl (by omega)) ?_ | refine .p (i := 7) rfl (by kernel_rfl) .none (q_sub rfl rfl) ?_
          refine .p (i := 8) rfl (by kernel_rfl) .none (q_ixO (k := (ul s us k).A.toNat) rfl rfl Try.runUnderlying22 Try.sizeOf3 (by omega) hAn) ?_
          refine .e1 (i := 9) (by kernel_rfl) rfl rfl .none hs ?_
          refine .store hs rfl rfl Try.sizeOf3 ?_; intro w hs
          refine .go ?_
          refine .done (by kernel_rfl) hs ?_
          refine .regSeq ?_
          refine .q hs (q_move rfl) ?_
          first | refine .q hs (q_fa0 rfl fa_api_Use_1) ?_ | refine .q hs (q_fa rfl fa_api_Use_1) ?_
          first | refine .q hs (q_load rfl Try.isAgg3) ?_ | refine .q hs (q_loadR rfl Try.isAgg3 (by assumption)) ?_
          first | refine .q hs (q_addF rfl rfl (by omega)) ?_ | refine .q hs (q_addU rfl rfl ⟨by omega, by omega⟩) ?_ | refine .q hs (q_add rfl rfl) ?_
          refine .q hs (q_assign rfl) ?_
          refine .nil ?_
          refine .region ?_
          refine .q hs (q_move rfl) ?_
          first | refine .q hs (q_fa0 rfl fa_api_Use_1) ?_ | refine .q hs (q_fa rfl fa_api_Use_1) ?_
          first | refine .q hs (q_load rfl Try.isAgg3) ?_ | refine .q hs (q_loadR rfl Try.isAgg3 (by assumption)) ?_
          first | refine .q hs (q_fa0 rfl fa_api_Limit_2) ?_ | refine .q hs (q_fa rfl fa_api_Limit_2) ?_
          first | refine .q hs (q_load rfl Try.isAgg3) ?_ | refine .q hs (q_loadR rfl Try.isAgg3 (by assumption)) ?_
          first | refine .q hs (q_mulF rfl rfl (by omega)) ?_ | refine .q hs (q_mulU rfl rfl ⟨by omega, by omega⟩) ?_ | refine .q hs (q_mul rfl rfl) ?_
          refine .q hs (q_add rfl rfl) ?_
          rw [i64wrap_add]
          refine .q hs (q_assign rfl) ?_
          refine .nil ?_
          refine nB (nT ?_)
          exact .mk ⟨rfl, D.set (ul s us k).A.toNat (gi D (ul s us k).A.toNat - (gu us k).t), ⟨by rw [List.length_set]; exact hD1, fun v hv => by
            have hst : intoTo s us (k + 1) v = intoTo s us k v + (gu us k).t * (ind (ul s us k).B.toNat v - ind (ul s us k).A.toNat v) := rfl
            rw [gi_set (by omega), hst, ← hC2 v hv]
            by_cases e1 : v = (ul s us k).A.toNat
            · have i1 : ind (ul s us k).A.toNat v = 1 := by unfold ind; rw [if_pos e1.symm]
              have i2 : ind (ul s us k).B.toNat v = 0 := by unfold ind; rw [if_neg (by omega)]
              rw [if_pos e1, hgD, i1, i2, e1]; omega
            · have i1 : ind (ul s us k).A.toNat v = 0 := by unfold ind; rw [if_neg (by omega)]
              rw [if_neg e1, hD2, i1]
              by_cases e2 : v = (ul s us k).B.toNat
              · have i2 : ind (ul s us k).B.toNat v = 1 := by unfold ind; rw [if_pos e2.symm]
                rw [if_pos e2, i2, e2]; omega
              · have i2 : ind (ul s us k).B.toNat v = 0 := by unfold ind; rw [if_neg (by omega)]
                rw [if_neg e2, i2]; omega⟩, hUs', by omega, hs.sub (by repeat (first | exact Sub.refl _ | constructor | apply Sub.weaken))⟩ (hs := .cons rfl (.cons rfl (.cons rfl (.cons rfl (.consI rfl hts.symm (.consI rfl (by rw [hbs]) (by repeat (first | exact .nil rfl rfl | refine .cons rfl ?_))))))))
    · rintro fr w ⟨rfl, C, ⟨hC1, hC2⟩, hUs, hTm, hs⟩
      have hlen : us.length ≤ 400 := by omega
      obtain ⟨H1, hle1, hRow, hs⟩ := hs.publish (b := b20) (c := Is C) .here
      have hRC : RI H1 (.slice (some ⟨b20, 0, none⟩) s.n s.n) C := by
        have := Row.RI (xs := C) (spare := []) (by simpa using hRow) s.n (by omega) (by omega)
        rwa [hC1] at this
      have hRT := RI.tail hRC (k := 1) (by have := s.n_pos; omega)
      have hWT := RI.tail (hrw.mono hle1) (k := 1) (by have := s.n_pos; omega)
      have hbd := bound_bd hok hUs
      have heq : C.drop 1 = ws.drop 1 ↔ ∀ v, 1 ≤ v → v < s.n → intoTo s us us.length v = gi ws v := by
        constructor
        · intro h v h1 h2
          rw [← hC2 v h2]
          have := congrArg (fun l => gi l (v - 1)) h
          simpa [gi, List.getD, show 1 + (v - 1) = v by omega, show v - 1 + 1 = v by omega] using this
        · intro h
          refine ext_gi' (by simp [hC1, hwl]) fun k hk => ?_
          have hk' : k + 1 < s.n := by simp at hk; omega
          have := h (k + 1) (by omega) hk'
          rw [← hC2 _ hk'] at this
          simpa [gi, List.getD, Nat.add_comm] using this
      refine nT ?_
      refine .seq (.draw mix rfl hs ?_); intro w hs
      refine .p (i := 0) rfl (by kernel_rfl) .none (q_move rfl) ?_
      refine .p (i := 1) rfl (by kernel_rfl) .none (q_leq rfl rfl) ?_
      refine .p (i := 2) rfl (by kernel_rfl) .none (q_move rfl) ?_
      refine .bifD (t' := 97) rfl (fun hb97 => ?_) (fun hb97 => ?_)
      · refine .p (i := 3) rfl (by kernel_rfl) (.some rfl rfl) (q_move rfl) ?_
        refine .p (i := 4) rfl (by kernel_rfl) (.some rfl rfl) (q_sliceLX (k := 1) rfl rfl Try.runUnderlying22 Try.sizeOf3 rfl (by have := s.n_pos; omega)) ?_
        refine .p (i := 5) rfl (by kernel_rfl) (.some rfl rfl) (q_move rfl) ?_
        refine .p (i := 6) rfl (by kernel_rfl) (.some rfl rfl) (q_sliceLX (k := 1) rfl rfl Try.runUnderlying22 Try.sizeOf3 rfl (by have := s.n_pos; omega)) ?_
        refine .e1 (i := 7) (by kernel_rfl) rfl rfl (.some rfl rfl) hs ?_
        refine .call Try.call166 rfl (slices_Equal_int hs hRT hWT) ?_; rintro _ w ⟨rfl, hs⟩
        refine .go ?_
        refine .p (i := 8) rfl (by kernel_rfl) .none (q_pickT rfl rfl) ?_
        refine .p (i := 9) rfl (by kernel_rfl) .none (q_move rfl) ?_
        refine .bif (t' := 104) rfl (fun hb104 => ?_) (fun hb104 => ?_)
        · refine .p (i := 10) rfl (by kernel_rfl) (.some rfl rfl) (q_move rfl) ?_
          first | refine .p (i := 11) rfl (by kernel_rfl) (.some rfl rfl) (q_fa0 rfl fa_api_Proof_0) ?_ | refine .p (i := 11) rfl (by kernel_rfl) (.some rfl rfl) (q_fa rfl fa_api_Proof_0) ?_
          first | refine .load (i := 12) hs rfl (by kernel_rfl) (.some rfl rfl) rfl Try.isAgg3 ?_ | refine .r (i := 12) hs rfl (by kernel_rfl) (.some rfl rfl) (q_loadR rfl Try.isAgg3 (by assumption)) ?_
          refine .p (i := 13) rfl (by kernel_rfl) (.some rfl rfl) (q_eql rfl rfl) ?_
          refine .p (i := 14) rfl (by kernel_rfl) .none (q_pickT rfl rfl) ?_
          refine .p (i := 15) rfl (by kernel_rfl) .none (q_assign rfl) ?_
          refine .done (by kernel_rfl) hs ?_
          refine .ret (Fin.ret1 Try.results177 rfl ?_)
          exact ⟨H1, _, hle1, rfl, by
            first
              | exact ⟨fun h => (by cases h), fun h => (hb97 h.tot).elim⟩
              | exact ⟨fun h => (by cases h), fun h => by have := heq.2 h.into; simp_all⟩
              | (rw [i64wrap (by omega)]
                 have he : C.drop 1 = ws.drop 1 := by simpa using hb104
                 exact ⟨fun h => ⟨hlen, hUs, hb97, heq.1 he, of_decide_eq_true h⟩, fun h => decide_eq_true h.bound⟩), hs.out⟩
        · refine .qF (i := 10) rfl (by kernel_rfl) rfl rfl ?_
          refine .qF (i := 11) rfl (by kernel_rfl) rfl rfl ?_
          refine .qF (i := 12) rfl (by kernel_rfl) rfl rfl ?_
          refine .qF (i := 13) rfl (by kernel_rfl) rfl rfl ?_
          refine .p (i := 14) rfl (by kernel_rfl) .none (q_pickF rfl rfl) ?_
          refine .p (i := 15) rfl (by kernel_rfl) .none (q_assign rfl) ?_
          refine .done (by kernel_rfl) hs ?_
          refine .ret (Fin.ret1 Try.results177 rfl ?_)
          exact ⟨H1, _, hle1, rfl, by
            first
              | exact ⟨fun h => (by cases h), fun h => (hb97 h.tot).elim⟩
              | exact ⟨fun h => (by cases h), fun h => by have := heq.2 h.into; simp_all⟩
              | (rw [i64wrap (by omega)]
                 have he : C.drop 1 = ws.drop 1 := by simpa using hb104
                 exact ⟨fun h => ⟨hlen, hUs, hb97, heq.1 he, of_decide_eq_true h⟩, fun h => decide_eq_true h.bound⟩), hs.out⟩
      · refine .qF (i := 3) rfl (by kernel_rfl) rfl rfl ?_
        refine .qF (i := 4) rfl (by kernel_rfl) rfl rfl ?_
        refine .qF (i := 5) rfl (by kernel_rfl) rfl rfl ?_
        refine .qF (i := 6) rfl (by kernel_rfl) rfl rfl ?_
        refine .qF (i := 7) rfl (by kernel_rfl) rfl rfl ?_
        refine .p (i := 8) rfl (by kernel_rfl) .none (q_pickF rfl rfl) ?_
        refine .p (i := 9) rfl (by kernel_rfl) .none (q_move rfl) ?_
        refine .qF (i := 10) rfl (by kernel_rfl) rfl rfl ?_
        refine .qF (i := 11) rfl (by kernel_rfl) rfl rfl ?_
        refine .qF (i := 12) rfl (by kernel_rfl) rfl rfl ?_
        refine .qF (i := 13) rfl (by kernel_rfl) rfl rfl ?_
        refine .p (i := 14) rfl (by kernel_rfl) .none (q_pickF rfl rfl) ?_
        refine .p (i := 15) rfl (by kernel_rfl) .none (q_assign rfl) ?_
        refine .done (by kernel_rfl) hs ?_
        refine .ret (Fin.ret1 Try.results177 rfl ?_)
        exact ⟨H1, _, hle1, rfl, by
          first
            | exact ⟨fun h => (by cases h), fun h => (hb97 h.tot).elim⟩
            | exact ⟨fun h => (by cases h), fun h => by have := heq.2 h.into; simp_all⟩
            | (rw [i64wrap (by omega)]
               have he : C.drop 1 = ws.drop 1 := by simpa using hb104
               exact ⟨fun h => ⟨hlen, hUs, hb97, heq.1 he, of_decide_eq_true h⟩, fun h => decide_eq_true h.bound⟩), hs.out⟩
theorem bound_CheckProof_spec {H : Heap} {w : World} {σ : List Ent} {v vw vp : Value} {s : Syst} {ws : List Int} {n : Int} {us : List Use} (hs : St H w σ) (hr : RSy H v s) (hrw : RI H vw ws) (hp : RPf H vp n us) :
    Cl Try.prog 91 [v, vw, vp] w fun v w' => ∃ H1 e, HLe H H1 ∧ v = I e ∧ ProofR s ws n us e ∧ St H1 w' σ := by
  obtain ⟨u, rfl, hr⟩ := hr
  obtain ⟨al, cl, rfl⟩ := RL.shape hr
  obtain ⟨aw, cw, rfl⟩ := RI.shape hrw
  obtain ⟨uu, rfl, hU⟩ := hp
  obtain ⟨au, cu, rfl⟩ := RU.shape hU
  refine Cl.of Try.func91 rfl Try.ntmps91 (by simp) (args_cons (k := 0) rfl (args_cons (k := 1) rfl (args_cons (k := 2) rfl (args0)))) ?_
  refine .regSeq ?_
  refine .o (.box hs rfl rfl ?_); intro b3 w hs
  refine .o (.box hs rfl rfl ?_); intro b5 w hs
  refine .q hs (q_assign rfl) ?_
  refine .nil ?_
  refine .seq ?_
  refine .regSeq ?_
  first | refine .q hs (q_loads (vs := [_, _]) rfl Try.isAgg32 Try.sizeOf32) ?_ | refine .q hs (q_loadsR (vs := [_, _]) rfl Try.isAgg32 Try.sizeOf32 (by assumption)) ?_
  refine .q hs (q_move rfl) ?_
  refine .o (.call Try.call176 rfl (bound_checkWeights_spec (s := s) hs ⟨_, rfl, hr⟩ hrw) ?_); rintro _ w ⟨rfl, hs⟩
  refine .q hs (q_assign rfl) ?_
  refine .nil ?_
  refine .regSeq ?_
  refine .q hs (q_move rfl) ?_
  refine .q hs (q_neq rfl rfl) ?_
  refine .nil ?_
  refine (.condN rfl (fun hc12 => ?_) (fun hc12 => ?_))
  · refine .regSeq ?_
    refine .q hs (q_move rfl) ?_
    refine .q hs (q_assign rfl) ?_
    refine .nil ?_
    refine .ret (rT (Fin.ret1 Try.results91 rfl ?_))
    exact ⟨H, _, HLe.refl H, rfl, .ask hc12, hs.out⟩
  · refine .skip ?_
    refine nT ?_
    refine .seq ?_
    refine .regSeq ?_
    first | refine .q hs (q_loads (vs := [_, _]) rfl Try.isAgg32 Try.sizeOf32) ?_ | refine .q hs (q_loadsR (vs := [_, _]) rfl Try.isAgg32 Try.sizeOf32 (by assumption)) ?_
    refine .q hs (q_move rfl) ?_
    first | refine .q hs (q_loads (vs := [_, _]) rfl Try.isAgg40 Try.sizeOf40) ?_ | refine .q hs (q_loadsR (vs := [_, _]) rfl Try.isAgg40 Try.sizeOf40 (by assumption)) ?_
    have hA : askErr s ws = 0 := by simpa using hc12
    refine .o (.call Try.call177 rfl (bound_isProof_spec (s := s) (n := n) (us := us) hs ⟨_, rfl, hr⟩ hrw ⟨_, rfl, hU⟩ hA) ?_); rintro _ w ⟨H1, b, hle1, rfl, hb, hs⟩
    refine .q hs (q_not rfl) ?_
    refine .nil ?_
    refine (.cond rfl (fun hc18 => ?_) (fun hc18 => ?_))
    · refine .regSeq ?_
      refine .q hs (q_assign rfl) ?_
      refine .nil ?_
      refine .ret (rT (Fin.ret1 Try.results91 rfl ?_))
      exact ⟨H1, _, hle1, rfl, .bad hA (fun h => by rw [hb.2 h] at hc18; cases hc18), hs.out⟩
    · refine .skip ?_
      refine nT ?_
      refine .regSeq ?_
      refine .q hs (q_assign rfl) ?_
      refine .nil ?_
      refine .ret (Fin.ret1 Try.results91 rfl ?_)
      exact ⟨H1, _, hle1, rfl, .ok hA (hb.1 (by simpa using hc18)), hs.out⟩
end Go.Proofs.Ytiiokdeehlfeeaa

/-
  Walks: whether a greatest width and its proof are right, by the program and by the reference.
-/
namespace Go.Proofs.Ytiiokdeehlfeeaa
open Go.MW
/-- what CheckWorst tells -/
inductive CWR (a : Quest) (l : List Prb) (n m : Int) (us : List Use) : Int → Prop
  | ask {e : Int} (h : CPrbR a l e) (he : e ≠ 0) : CWR a l n m us e
  | bad {e : Int} (h : CPrbR a l 0) (h1 : ProofR (dblS a l) (dblW a.ws) m us e) (he : e ≠ 0) : CWR a l n m us 24
  | more (h : CPrbR a l 0) (h1 : ProofR (dblS a l) (dblW a.ws) m us 0) (he : n < m) : CWR a l n m us 94
  | ok (h : CPrbR a l 0) (h1 : ProofR (dblS a l) (dblW a.ws) m us 0) (he : ¬ n < m) : CWR a l n m us 0
theorem CWR.uniq {a : Quest} {l : List Prb} {n m : Int} {us : List Use} {e f : Int} (h : CWR a l n m us e) (g : CWR a l n m us f) : e = f := by
  cases h with
  | ask h he =>
    cases g with
    | ask g _ => exact h.uniq g
    | bad g _ _ => exact (he (h.uniq g)).elim
    | more g _ _ => exact (he (h.uniq g)).elim
    | ok g _ _ => exact (he (h.uniq g)).elim
  | bad h h1 he =>
    cases g with
    | ask g ge => exact (ge (g.uniq h)).elim
    | bad g _ _ => rfl
    | more g g1 _ => exact (he (h1.uniq g1)).elim
    | ok g g1 _ => exact (he (h1.uniq g1)).elim
  | more h h1 he =>
    cases g with
    | ask g ge => exact (ge (g.uniq h)).elim
    | bad g g1 ge => exact (ge (g1.uniq h1)).elim
    | more g _ _ => rfl
    | ok g _ ge => exact (ge he).elim
  | ok h h1 he =>
    cases g with
    | ask g ge => exact (ge (g.uniq h)).elim
    | bad g g1 ge => exact (ge (g1.uniq h1)).elim
    | more g _ ge => exact (he ge).elim
    | ok g _ _ => rfl
theorem ref09_CheckWorst_spec {H : Heap} {w : World} {σ : List Ent} {v vl vp : Value} {a : Quest} {l : List Prb} {n m : Int} {us : List Use} (hs : St H w σ) (hr : RAsk H v a) (hp : RPs H vl l) (hq : RPf H vp m us) :
    Cl Try.prog 43 [v, vl, I n, vp] w fun u w' => ∃ H1 e, HLe H H1 ∧ u = I e ∧ CWR a l n m us e ∧ St H1 w' σ := by
  obtain ⟨ul, uw, rfl, hl, hw⟩ := hr
  obtain ⟨ap, cp, rfl⟩ := RPs.shape hp
  obtain ⟨uu, rfl, hU⟩ := hq
  obtain ⟨au, cu, rfl⟩ := RU.shape hU
  refine Cl.of Try.func43 rfl Try.ntmps43 (by simp) (args_cons (k := 0) rfl (args_cons (k := 1) rfl (args_cons (k := 2) rfl (args_cons (k := 3) rfl (args0))))) ?_
  refine .regSeq ?_
  refine .o (.box hs rfl rfl ?_); intro b4 w hs
  refine .o (.box hs rfl rfl ?_); intro b7 w hs
  refine .q hs (q_assign rfl) ?_
  refine .nil ?_
  refine .regSeq ?_
  first | refine .q hs (q_loads (vs := [_, _, _, _]) rfl Try.isAgg34 Try.sizeOf34) ?_ | refine .q hs (q_loadsR (vs := [_, _, _, _]) rfl Try.isAgg34 Try.sizeOf34 (by assumption)) ?_
  refine .q hs (q_move rfl) ?_
  refine .o (.call Try.call41 rfl (ref09_CheckProbes_spec (a := a) hs ⟨_, _, rfl, hl, hw⟩ hp) ?_); rintro _ w ⟨H1, e, hle1, rfl, hC, hs⟩
  refine .q hs (q_assign rfl) ?_
  refine .nil ?_
  refine .seq ?_
  refine .regSeq ?_
  refine .q hs (q_move rfl) ?_
  refine .q hs (q_neq rfl rfl) ?_
  refine .nil ?_
  refine (.condN rfl (fun hc16 => ?_) (fun hc16 => ?_))
  · refine .regSeq ?_
    refine .q hs (q_move rfl) ?_
    refine .q hs (q_assign rfl) ?_
    refine .nil ?_
    refine .ret (rT (Fin.ret1 Try.results43 rfl ?_))
    exact ⟨H1, e, hle1, rfl, .ask hC hc16, hs.out⟩
  · refine .skip ?_
    refine nT ?_
    refine .regSeq ?_
    first | refine .q hs (q_loads (vs := [_, _, _, _]) rfl Try.isAgg34 Try.sizeOf34) ?_ | refine .q hs (q_loadsR (vs := [_, _, _, _]) rfl Try.isAgg34 Try.sizeOf34 (by assumption)) ?_
    refine .q hs (q_move rfl) ?_
    rw [hc16] at hC
    obtain ⟨hok, hlen, hin⟩ := hC.zero
    refine .o (.call Try.call108 rfl (ref09_pairs_spec (a := a) hs ⟨_, _, rfl, hl.mono hle1, hw.mono hle1⟩ (hp.mono hle1) hok hlen (fun p h => (hin p h).inn)) ?_); rintro _ w ⟨H2, vp, vw, hle2, rfl, hvp, hvw, hs⟩
    obtain ⟨ap1, cp1, rfl⟩ := RL.shape hvp; obtain ⟨av1, cv1, rfl⟩ := RI.shape hvw
    have hle12 := hle1.trans hle2
    refine .q hs (q_move rfl) ?_
    refine .q hs (q_extract rfl rfl) ?_
    refine .q hs (q_extract rfl rfl) ?_
    refine .o (.alloc hs Try.zeroValue32 rfl ?_); intro b10 w hs
    refine .o (.stores (vs := [_, _]) hs rfl rfl Try.sizeOf32 ?_); intro w hs
    refine .q hs (q_assign rfl) ?_
    refine .nil ?_
    refine .seq ?_
    refine .regSeq ?_
    first | refine .q hs (q_loads (vs := [_, _]) rfl Try.isAgg32 Try.sizeOf32) ?_ | refine .q hs (q_loadsR (vs := [_, _]) rfl Try.isAgg32 Try.sizeOf32 (by assumption)) ?_
    refine .q hs (q_move rfl) ?_
    first | refine .q hs (q_loads (vs := [_, _]) rfl Try.isAgg40 Try.sizeOf40) ?_ | refine .q hs (q_loadsR (vs := [_, _]) rfl Try.isAgg40 Try.sizeOf40 (by assumption)) ?_
    refine .o (.call Try.call32 rfl (ref02_CheckProof_spec (s := dblS a l) (n := m) (us := us) hs ⟨_, rfl, hvp⟩ hvw ⟨_, rfl, hU.mono hle12⟩) ?_); rintro _ w ⟨e5, rfl, hPf, hs⟩
    refine .q hs (q_neq rfl rfl) ?_
    refine .nil ?_
    refine (.condN rfl (fun hc28 => ?_) (fun hc28 => ?_))
    · refine .regSeq ?_
      refine .q hs (q_assign rfl) ?_
      refine .nil ?_
      refine .ret (rT (Fin.ret1 Try.results43 rfl ?_))
      exact ⟨H2, _, hle12, rfl, .bad hC hPf hc28, hs.out⟩
    · refine .skip ?_
      refine nT ?_
      refine .seq ?_
      refine .regSeq ?_
      first | refine .q hs (q_fa0 rfl fa_api_Proof_0) ?_ | refine .q hs (q_fa rfl fa_api_Proof_0) ?_
      first | refine .q hs (q_load rfl Try.isAgg3) ?_ | refine .q hs (q_loadR rfl Try.isAgg3 (by assumption)) ?_
      refine .q hs (q_move rfl) ?_
      refine .q hs (q_gtr rfl rfl) ?_
      refine .nil ?_
      refine (.condD rfl (fun hc32 => ?_) (fun hc32 => ?_))
      · refine .regSeq ?_
        refine .q hs (q_assign rfl) ?_
        refine .nil ?_
        refine .ret (rT (Fin.ret1 Try.results43 rfl ?_))
        exact ⟨H2, _, hle12, rfl, .more hC (by rw [hc28] at hPf; exact hPf) (by simpa using hc32), hs.out⟩
      · refine .skip ?_
        refine nT ?_
        refine .regSeq ?_
        refine .q hs (q_assign rfl) ?_
        refine .nil ?_
        refine .ret (Fin.ret1 Try.results43 rfl ?_)
        exact ⟨H2, _, hle12, rfl, .ok hC (by rw [hc28] at hPf; exact hPf) (by simpa using hc32), hs.out⟩
/-! ### the program -/
theorem probe_told_none {H : Heap} {w : World} {σ : List Ent} {v vl : Value} {a : Quest} {l : List Prb} {R : Int → Prop} {g : Nat} {cap : List Value} (hs : St H w σ) (hr : RAsk H v a) (hp : RPs H vl l) (hc : ∀ args w, (callFunc g args).run Try.prog w = .ok (.enter g args) w)
    (hg : ∀ H' w σ', HLe H H' → CPrbR a l 0 → St H' w σ' → Cl Try.prog g ([v] ++ cap) w fun u w' => ∃ H'' e, HLe H' H'' ∧ u = .tuple #[.agg #[], I e] ∧ R e ∧ St H'' w' σ') :
    Cl Try.prog 124 [v, vl, .func (.func g) #[] cap.toArray] w fun u w' => ∃ H1 e, HLe H H1 ∧ u = .tuple #[.agg #[], I e] ∧ ((CPrbR a l e ∧ e ≠ 0) ∨ (CPrbR a l 0 ∧ R e)) ∧ St H1 w' σ := by
  obtain ⟨ul, uw, rfl, hl, hw⟩ := hr
  refine Cl.of Try.func124 rfl Try.ntmps124 (by simp) (args_cons (k := 0) rfl (args_cons (k := 1) rfl (args_cons (k := 2) rfl (args0)))) ?_
  refine .regSeq ?_
  refine .o (.box hs rfl rfl ?_); intro b3 w hs
  refine .o (.alloc hs Try.zeroValue161 rfl ?_); intro b6 w hs
  refine .q hs (q_assign rfl) ?_
  refine .nil ?_
  refine .seq ?_
  refine .regSeq ?_
  first | refine .q hs (q_loads (vs := [_, _, _, _]) rfl Try.isAgg34 Try.sizeOf34) ?_ | refine .q hs (q_loadsR (vs := [_, _, _, _]) rfl Try.isAgg34 Try.sizeOf34 (by assumption)) ?_
  refine .q hs (q_move rfl) ?_
  refine .o (.call Try.call40 rfl (probe_CheckProbes_spec (a := a) hs ⟨_, _, rfl, hl, hw⟩ hp) ?_); rintro _ w ⟨H1, e, hle1, rfl, hC, hs⟩
  refine .q hs (q_assign rfl) ?_
  refine .nil ?_
  refine .regSeq ?_
  refine .q hs (q_move rfl) ?_
  refine .q hs (q_neq rfl rfl) ?_
  refine .nil ?_
  refine (.condN rfl (fun hc14 => ?_) (fun hc14 => ?_))
  · refine .regSeq ?_
    refine .o (.alloc hs Try.zeroValue161 rfl ?_); intro b9 w hs
    refine .nil ?_
    refine .regSeq ?_
    first | refine .q hs (q_loads (vs := []) rfl Try.isAgg161 Try.sizeOf161) ?_ | refine .q hs (q_loadsR (vs := []) rfl Try.isAgg161 Try.sizeOf161 (by assumption)) ?_
    refine .q hs (q_move rfl) ?_
    refine .o (.stores (vs := []) hs rfl rfl Try.sizeOf161 ?_); intro w hs
    refine .q hs (q_assign rfl) ?_
    refine .nil ?_
    refine .ret (rT (?_))
    exact Fin.retD [] [] hs fun w hs => ⟨_, results2 Try.results124 (rcells (vs := []) hs rfl Try.isAgg161 Try.sizeOf161) rfl, H1, e, hle1, rfl, .inl ⟨hC, hc14⟩, hs.out⟩
  · refine .skip ?_
    refine nT ?_
    refine .regSeq ?_
    refine .q hs (q_move rfl) ?_
    first | refine .q hs (q_loads (vs := [_, _, _, _]) rfl Try.isAgg34 Try.sizeOf34) ?_ | refine .q hs (q_loadsR (vs := [_, _, _, _]) rfl Try.isAgg34 Try.sizeOf34 (by assumption)) ?_
    rw [hc14] at hC
    refine .o (.callG (first := []) rfl rfl hc (hg _ _ _ hle1 hC hs) ?_); rintro _ w ⟨H2, e2, hle2, rfl, hR, hs⟩
    refine .q hs (q_extract rfl rfl) ?_
    refine .q hs (q_extract rfl rfl) ?_
    refine .o (.stores (vs := []) hs rfl rfl Try.sizeOf161 ?_); intro w hs
    refine .q hs (q_assign rfl) ?_
    refine .nil ?_
    refine .ret ?_
    exact Fin.retD [] [] hs fun w hs => ⟨_, results2 Try.results124 (rcells (vs := []) hs rfl Try.isAgg161 Try.sizeOf161) rfl, H2, e2, hle1.trans hle2, rfl, .inr ⟨hC, hR⟩, hs.out⟩
theorem probe_CheckWorst_1 {H : Heap} {w : World} {σ : List Ent} {v vl vp : Value} {a : Quest} {l : List Prb} {n m : Int} {us : List Use} {bl bp bn : Nat} (hs : St H w σ) (hr : RAsk H v a) (hbl : Row H bl [vl]) (hp : RPs H vl l) (hbp : Row H bp [I m, vp]) (hU : RU H vp us) (hbn : Row H bn [I n]) (hC : CPrbR a l 0) :
    Cl Try.prog 125 [v, .pointer (some ⟨bl, 0, none⟩), .pointer (some ⟨bp, 0, none⟩), .pointer (some ⟨bn, 0, none⟩)] w fun u w' => ∃ H'' e, HLe H H'' ∧ u = .tuple #[.agg #[], I e] ∧ CWR a l n m us e ∧ St H'' w' σ := by
  obtain ⟨ul, uw, rfl, hl, hw⟩ := hr
  obtain ⟨al, cpl, rfl⟩ := RPs.shape hp
  obtain ⟨au, cu, rfl⟩ := RU.shape hU
  obtain ⟨hok, hlen, hin⟩ := hC.zero
  have hb0 := hbl.at 0
  refine Cl.of Try.func125 rfl Try.ntmps125 (by simp) (args_cons (k := 0) rfl (args_cons (k := 1) rfl (args_cons (k := 2) rfl (args_cons (k := 3) rfl (args0))))) ?_
  refine .regSeq ?_
  refine .o (.box hs rfl rfl ?_); intro b4 w hs
  refine .o (.alloc hs Try.zeroValue161 rfl ?_); intro b5 w hs
  refine .q hs (q_assign rfl) ?_
  refine .nil ?_
  refine .regSeq ?_
  first | refine .q hs (q_loads (vs := [_, _, _, _]) rfl Try.isAgg34 Try.sizeOf34) ?_ | refine .q hs (q_loadsR (vs := [_, _, _, _]) rfl Try.isAgg34 Try.sizeOf34 (by assumption)) ?_
  refine .q hs (q_loadR rfl Try.isAgg35 hb0) ?_
  refine .o (.call Try.call98 rfl (probe_double_spec (a := a) hs ⟨_, _, rfl, hl, hw⟩ hp hok hlen (fun p h => (hin p h).inn)) ?_); rintro _ w ⟨H1, ul1, uw1, vp, vw, hle1, rfl, hl1, hw1, hvp, hvw, hs⟩
  obtain ⟨al1, cl1, rfl⟩ := RL.shape hl1; obtain ⟨aw1, cw1, rfl⟩ := RI.shape hw1; obtain ⟨ap1, cp1, rfl⟩ := RL.shape hvp; obtain ⟨av1, cv1, rfl⟩ := RI.shape hvw
  have hp0 := (hbp.mono hle1).cells 0 [I m, .slice au us.length cu]
  refine .o (.alloc hs Try.zeroValue132 rfl ?_); intro b7 w hs
  refine .o (.stores (vs := [_, _, _, _, _, _, _]) hs rfl rfl Try.sizeOf132 ?_); intro w hs
  refine .nil ?_
  refine .seq ?_
  refine .regSeq ?_
  first | refine .q hs (q_fa0 rfl fa_probe_doubled_1) ?_ | refine .q hs (q_fa rfl fa_probe_doubled_1) ?_
  first | refine .q hs (q_loads (vs := [_, _]) rfl Try.isAgg32 Try.sizeOf32) ?_ | refine .q hs (q_loadsR (vs := [_, _]) rfl Try.isAgg32 Try.sizeOf32 (by assumption)) ?_
  first | refine .q hs (q_fa0 rfl fa_probe_doubled_2) ?_ | refine .q hs (q_fa rfl fa_probe_doubled_2) ?_
  first | refine .q hs (q_load rfl Try.isAgg22) ?_ | refine .q hs (q_loadR rfl Try.isAgg22 (by assumption)) ?_
  refine .q hs (q_loadsR (vs := [I m, .slice au us.length cu]) rfl Try.isAgg40 Try.sizeOf40 hp0) ?_
  refine .o (.call Try.call91 rfl (bound_CheckProof_spec (s := dblS a l) (n := m) (us := us) hs ⟨_, rfl, hvp⟩ hvw ⟨_, rfl, hU.mono hle1⟩) ?_); rintro _ w ⟨H2, e5, hle2, rfl, hPf, hs⟩
  have hp1 := ((hbp.mono hle1).mono hle2).cells 0 [I m, .slice au us.length cu]
  have hn1 := ((hbn.mono hle1).mono hle2).at 0
  have hle12 := hle1.trans hle2
  refine .q hs (q_neq rfl rfl) ?_
  refine .nil ?_
  refine (.condN rfl (fun hc17 => ?_) (fun hc17 => ?_))
  · refine .regSeq ?_
    refine .q hs (q_build (cells := []) bld_struct rfl) ?_
    refine .o (.stores (vs := []) hs rfl rfl Try.sizeOf161 ?_); intro w hs
    refine .q hs (q_assign rfl) ?_
    refine .nil ?_
    refine .ret (rT (?_))
    exact Fin.retD [] [] hs fun w hs => ⟨_, results2 Try.results125 (rcells (vs := []) hs rfl Try.isAgg161 Try.sizeOf161) rfl, H2, _, hle12, rfl, .bad hC hPf hc17, hs.out⟩
  · refine .skip ?_
    refine nT ?_
    refine .seq ?_
    refine .regSeq ?_
    first | refine .q hs (q_fa0 rfl fa_api_Proof_0) ?_ | refine .q hs (q_fa rfl fa_api_Proof_0) ?_
    refine .q hs (q_loadR rfl Try.isAgg3 (hp1.get 0 rfl)) ?_
    refine .q hs (q_loadR rfl Try.isAgg3 hn1) ?_
    refine .q hs (q_gtr rfl rfl) ?_
    refine .nil ?_
    refine (.condD rfl (fun hc22 => ?_) (fun hc22 => ?_))
    · refine .regSeq ?_
      refine .q hs (q_build (cells := []) bld_struct rfl) ?_
      refine .o (.stores (vs := []) hs rfl rfl Try.sizeOf161 ?_); intro w hs
      refine .q hs (q_assign rfl) ?_
      refine .nil ?_
      refine .ret (rT (?_))
      exact Fin.retD [] [] hs fun w hs => ⟨_, results2 Try.results125 (rcells (vs := []) hs rfl Try.isAgg161 Try.sizeOf161) rfl, H2, _, hle12, rfl, .more hC (by rw [hc17] at hPf; exact hPf) (by simpa using hc22), hs.out⟩
    · refine .skip ?_
      refine nT ?_
      refine .regSeq ?_
      refine .q hs (q_build (cells := []) bld_struct rfl) ?_
      refine .o (.stores (vs := []) hs rfl rfl Try.sizeOf161 ?_); intro w hs
      refine .q hs (q_assign rfl) ?_
      refine .nil ?_
      refine .ret ?_
      exact Fin.retD [] [] hs fun w hs => ⟨_, results2 Try.results125 (rcells (vs := []) hs rfl Try.isAgg161 Try.sizeOf161) rfl, H2, _, hle12, rfl, .ok hC (by rw [hc17] at hPf; exact hPf) (by simpa using hc22), hs.out⟩
theorem probe_CheckWorst_spec {H : Heap} {w : World} {σ : List Ent} {v vl vp : Value} {a : Quest} {l : List Prb} {n m : Int} {us : List Use} (hs : St H w σ) (hr : RAsk H v a) (hp : RPs H vl l) (hq : RPf H vp m us) :
    Cl Try.prog 42 [v, vl, I n, vp] w fun u w' => ∃ H1 e, HLe H H1 ∧ u = I e ∧ CWR a l n m us e ∧ St H1 w' σ := by
  obtain ⟨ul, uw, rfl, hl, hw⟩ := hr
  obtain ⟨al, cpl, rfl⟩ := RPs.shape hp
  obtain ⟨uu, rfl, hU⟩ := hq
  obtain ⟨au, cu, rfl⟩ := RU.shape hU
  refine Cl.of Try.func42 rfl Try.ntmps42 (by simp) (args_cons (k := 0) rfl (args_cons (k := 1) rfl (args_cons (k := 2) rfl (args_cons (k := 3) rfl (args0))))) ?_
  refine .regSeq ?_
  refine .o (.box hs rfl rfl ?_); intro b4 w hs
  refine .o (.box hs rfl rfl ?_); intro b5 w hs
  refine .o (.box hs rfl rfl ?_); intro b6 w hs
  refine .o (.box hs rfl rfl ?_); intro b7 w hs
  refine .q hs (q_assign rfl) ?_
  refine .nil ?_
  refine .regSeq ?_
  first | refine .q hs (q_loads (vs := [_, _, _, _]) rfl Try.isAgg34 Try.sizeOf34) ?_ | refine .q hs (q_loadsR (vs := [_, _, _, _]) rfl Try.isAgg34 Try.sizeOf34 (by assumption)) ?_
  first | refine .q hs (q_load rfl Try.isAgg35) ?_ | refine .q hs (q_loadR rfl Try.isAgg35 (by assumption)) ?_
  refine .q hs (q_makeFunc (f := []) (c := [_, _, _]) rfl rfl) ?_
  obtain ⟨H0, hle0, hb5, hs⟩ := hs.publish (b := b5) (by repeat constructor)
  obtain ⟨H1, hle1, hb6, hs⟩ := hs.publish (b := b6) (by repeat constructor)
  obtain ⟨H2, hle2, hb7, hs⟩ := hs.publish (b := b7) (by repeat constructor)
  have hle02 := hle0.trans (hle1.trans hle2)
  refine .o (.call Try.call124 rfl (probe_told_none (R := CWR a l n m us) (a := a) (l := l) (cap := [.pointer (some ⟨b5, 0, none⟩), .pointer (some ⟨b7, 0, none⟩), .pointer (some ⟨b6, 0, none⟩)]) hs ⟨_, _, rfl, hl.mono hle02, hw.mono hle02⟩ (hp.mono hle02) Try.call125 ?_) ?_)
  · rintro H' w σ' hle hC hs
    exact probe_CheckWorst_1 (a := a) (l := l) hs ⟨_, _, rfl, (hl.mono hle02).mono hle, (hw.mono hle02).mono hle⟩ ((hb5.mono (hle1.trans hle2)).mono hle) ((hp.mono hle02).mono hle) (hb7.mono hle) ((hU.mono hle02).mono hle) ((hb6.mono hle2).mono hle) hC
  rintro _ w ⟨H3, e, hle3, rfl, hR, hs⟩
  refine .q hs (q_move rfl) ?_
  refine .q hs (q_extract rfl rfl) ?_
  refine .q hs (q_extract rfl rfl) ?_
  refine .o (.alloc hs Try.zeroValue161 rfl ?_); intro b9 w hs
  refine .o (.stores (vs := []) hs rfl rfl Try.sizeOf161 ?_); intro w hs
  refine .q hs (q_assign rfl) ?_
  refine .nil ?_
  refine .regSeq ?_
  refine .q hs (q_move rfl) ?_
  refine .q hs (q_assign rfl) ?_
  refine .nil ?_
  refine .ret (Fin.ret1 Try.results42 rfl ?_)
  exact ⟨H3, e, hle02.trans hle3, rfl, by
    rcases hR with ⟨h1, h2⟩ | ⟨_, h2⟩
    · exact .ask h1 h2
    · exact h2, hs.out⟩
end Go.Proofs.Ytiiokdeehlfeeaa
