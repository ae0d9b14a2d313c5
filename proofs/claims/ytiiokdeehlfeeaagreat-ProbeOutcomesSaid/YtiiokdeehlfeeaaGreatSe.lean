/-
  Texts of these claims, joined: Xd Xe Xf Xg Xh Xi Xj Xk Xl Wq Wr Xm Xn Xo Xp Xq Xr Xs.
-/
import Derived.Test.YtiiokdeehlfeeaaGreatSd
namespace Go.Proofs.YtiiokdeehlfeeaaGreat
open Go.MW
theorem slices_Equal_int {H : Heap} {w : World} {σ : List Ent} {va vb : Value} {A B : List Int} (hs : St H w σ) (hA : RI H va A) (hB : RI H vb B) :
    Cl Tryz.prog 91 [va, vb] w fun v w' => v = .bool (decide (A = B)) ∧ St H w' σ := by
  obtain ⟨aA, cA, rfl⟩ := RI.shape hA
  obtain ⟨aB, cB, rfl⟩ := RI.shape hB
  have hlA := (RI.len hA).2.2
  have hlB := (RI.len hB).2.2
  refine Cl.of Tryz.func91 rfl Tryz.ntmps91 (by simp) (args_cons (k := 0) rfl (args_cons (k := 1) rfl (args0))) ?_
  refine .regSeq (.z zg (.nil (.seq (.regSeq (.z zm (.z (zlen Tryz.runUnderlying25) (.z zm (.z (zlen Tryz.runUnderlying25) (.z zneq ?_)))))))))
  refine .nil ?_
  refine (.condN rfl (fun hc10 => ?_) (fun hc10 => ?_))
  · refine .regSeq (.z zg (.nil ?_))
    refine .ret (rT (Fin.ret1 Tryz.results91 rfl ?_))
    exact ⟨by rw [decide_eq_false (by intro h; subst h; exact hc10 rfl)], hs⟩
  · refine .skip ?_
    refine nT ?_
    refine .seq (.regSeq (.z zm (.z (zlen Tryz.runUnderlying25) (.z zm (.nil ?_)))))
    refine .for (N := A.length) (J := fun k fr w => fr = [(0, .slice aA A.length cA), (1, .slice aB B.length cB)] ∧ (∀ j < k, A[j]? = B[j]?) ∧ St H w σ) (by omega) ?_ ?_ ?_
    · exact .mk ⟨rfl, fun j h => by omega, hs⟩
    · rintro k fr w hk ⟨rfl, h0, hs⟩
      obtain ⟨xA, hxA⟩ := nth hk
      obtain ⟨xB, hxB⟩ := nth (l := B) (k := k) (by omega)
      refine .block (.regSeq (.z zm (.z zg (.nil ?_))))
      refine .seq (.draw mix rfl hs ?_); intro w hs
      refine .z 0 rfl zm ?_; refine .z 1 rfl zm ?_
      refine .ixX (enc := fun x => [I x]) (i := 2) hs rfl (by kernel_rfl) .none hA rfl rfl Tryz.runUnderlying25 Tryz.sizeOf3 hxA rfl ?_; intro b18 o18 hc18; replace hc18 := CellsAt.one hc18
      refine .r (i := 3) hs rfl (by kernel_rfl) .none (q_loadR rfl Tryz.isAgg3 hc18) ?_
      refine .z 4 rfl zm ?_; refine .z 5 rfl zm ?_
      refine .ixX (enc := fun x => [I x]) (i := 6) hs rfl (by kernel_rfl) .none hB rfl rfl Tryz.runUnderlying25 Tryz.sizeOf3 hxB rfl ?_; intro b22 o22 hc22; replace hc22 := CellsAt.one hc22
      refine .r (i := 7) hs rfl (by kernel_rfl) .none (q_loadR rfl Tryz.isAgg3 hc22) ?_
      refine .z 8 rfl zneq ?_; refine .done (by kernel_rfl) hs ?_
      refine (.condN rfl (fun hc24 => ?_) (fun hc24 => ?_))
      · refine .regSeq (.z zg (.nil ?_))
        refine .ret (rB (rT (rB (rT (Fin.ret1 Tryz.results91 rfl ?_)))))
        exact ⟨by rw [decide_eq_false (by intro h; subst h; rw [hxA] at hxB; cases hxB; exact hc24 rfl)], hs⟩
      · refine .skip ?_
        refine nB (nT ?_)
        exact .mk ⟨rfl, fun j hj => by
          by_cases e : j = k
          · subst e; rw [hxA, hxB, hc24]
          · exact h0 j (by omega), hs⟩
    · rintro fr w ⟨rfl, h0, hs⟩
      refine nT ?_
      refine .regSeq (.z zg (.nil ?_))
      refine .ret (Fin.ret1 Tryz.results91 rfl ?_)
      exact ⟨by rw [decide_eq_true (List.ext_getElem? fun j => by
        by_cases e : j < A.length
        · exact h0 j e
        · rw [List.getElem?_eq_none (by omega), List.getElem?_eq_none (by omega)])], hs⟩
set_option maxHeartbeats 8000000 in
theorem bound_isProof_spec {H : Heap} {w : World} {σ : List Ent} {v vw vp : Value} {s : Syst} {ws : List Int} {n : Int} {us : List Use} (hs : St H w σ) (hr : RSy H v s) (hrw : RI H vw ws) (hp : RPf H vp n us) (hA : askErr s ws = 0) :
    Cl Tryz.prog 159 [v, vw, vp] w fun v w' => ∃ H1 b, HLe H H1 ∧ v = .bool b ∧ (b = true ↔ ProofOk s ws n us) ∧ St H1 w' σ := by
  obtain ⟨u, rfl, hr⟩ := hr
  obtain ⟨al, cl, rfl⟩ := RL.shape hr
  obtain ⟨aw, cw, rfl⟩ := RI.shape hrw
  obtain ⟨uu, rfl, hU⟩ := hp
  obtain ⟨au, cu, rfl⟩ := RU.shape hU
  obtain ⟨hok, hwl, hz⟩ := askErr_ok hA
  have hm0 := hok.m0
  have hn65 := hok.n65
  have hll := hok.len
  have hmn : s.many + 1 = (s.n : Int) := by simp only [Syst.n]; omega
  refine Cl.of Tryz.func159 rfl Tryz.ntmps159 (by simp) (args_cons (k := 0) rfl (args_cons (k := 1) rfl (args_cons (k := 2) rfl (args0)))) ?_
  refine .regSeq ?_
  refine .o (.box hs rfl rfl ?_); intro b3 w hs
  refine .o (.box hs rfl rfl ?_); intro b5 w hs
  refine .z zg (.nil (.seq (.regSeq (.z (zfa fa_api_Proof_1) (.y hs (zld Tryz.isAgg61) (.z (zlen Tryz.runUnderlying61) (.z zgtr (.nil ?_))))))))
  refine (.condD rfl (fun hc16 => ?_) (fun hc16 => ?_))
  · refine .regSeq (.z zg (.nil ?_))
    refine .ret (rT (Fin.ret1 Tryz.results159 rfl ?_))
    exact ⟨H, false, HLe.refl H, rfl, ⟨fun h => (by cases h), fun h => by have := h.len; omega⟩, hs.out⟩
  · refine .skip ?_
    refine nT ?_
    refine .regSeq (.z (zfa fa_api_System_0) (.y hs (zld Tryz.isAgg3) (.z zadd ?_)))
    rw [hmn]
    refine .o (.makeI s.n hs rfl rfl Tryz.runUnderlying25 Tryz.typeInfo3 rfl Tryz.sizeOf3 Tryz.zeroValue3 (by omega) ?_); intro b20 w hs
    refine .z zg (.nil (.regSeq (.z zg (.z zg (.nil (.seq (.regSeq (.z (zfa fa_api_Proof_1) (.y hs (zld Tryz.isAgg61) ?_)))))))))
    refine .z (zlen Tryz.runUnderlying61) (.z zm (.nil ?_))
    refine .for (N := us.length) (J := fun k fr w => fr = [(22, .slice au us.length cu), (7, .slice (some ⟨b20, 0, none⟩) s.n s.n), (8, I (timesTo us k)), (9, I (IntKind.i64.wrap (boundTo s us k))), (3, .pointer (some ⟨b3, 0, none⟩)), (5, .pointer (some ⟨b5, 0, none⟩)), (1, .slice aw ws.length cw)] ∧ ∃ C, (C.length = s.n ∧ ∀ v < s.n, gi C v = intoTo s us k v) ∧ (∀ i < k, UseOk s us i) ∧ timesTo us k ≤ 3600000000000 * k ∧ St H w (.blk b20 (Is C) :: .blk b5 [I n, .slice au us.length cu] :: .blk b3 [I s.many, .slice al s.lims.length cl] :: σ)) (by omega) ?_ ?_ ?_
    · exact .mk ⟨rfl, _, ⟨by simp, fun v hv => by rw [gi_replicate _ _ hv]; rfl⟩, fun i hi => by omega, by simp [timesTo, sumTo], hs⟩ (hs := .cons rfl (.cons rfl (.cons rfl (.cons rfl (.cons rfl (.consI rfl (by simp [boundTo, sumTo, i64wrap_eq]) (by repeat (first | exact .nil rfl rfl | refine .cons rfl ?_))))))))
    · rintro k fr w hk ⟨rfl, C, ⟨hC1, hC2⟩, hUs, hTm, hs⟩
      have hx := gu_get hk
      have hu400 : us.length ≤ 400 := by omega
      refine .block (.regSeq (.z zm ?_))
      refine .ixX (enc := Use.c) hs hU rfl rfl Tryz.runUnderlying61 Tryz.sizeOf208 hx rfl ?_; intro b27 o27 hc27
      refine .q hs (q_loadsR (vs := (gu us k).c) rfl Tryz.isAgg208 Tryz.sizeOf208 hc27) ?_
      refine .o (.alloc hs Tryz.zeroValue208 rfl ?_); intro b11 w hs
      refine .z zg ?_
      refine .o (.stores (vs := (gu us k).c) hs rfl rfl Tryz.sizeOf208 ?_); intro w hs
      refine .nil (.seq ?_)
      refine .cut (fun fs w => ∃ p, FSub fs ⟨110, [], [(58, .bool p), (11, .pointer (some ⟨b11, 0, none⟩)), (24, I (k : Int)), (23, I (us.length : Int)), (22, .slice au us.length cu), (7, .slice (some ⟨b20, 0, none⟩) s.n s.n), (8, I (timesTo us k)), (9, I (IntKind.i64.wrap (boundTo s us k))), (3, .pointer (some ⟨b3, 0, none⟩)), (5, .pointer (some ⟨b5, 0, none⟩)), (1, .slice aw ws.length cw)]⟩ ∧ (p = true → ¬ UseOk s us k) ∧ (p = false → UseOk s us k) ∧ St H w (.blk b11 (gu us k).c :: .blk b20 (Is C) :: .blk b5 [I n, .slice au us.length cu] :: .blk b3 [I s.many, .slice al s.lims.length cl] :: σ)) ?_ ?_
      · refine .draw mix rfl hs ?_; intro w hs
        refine .z 0 rfl (zfa fa_api_Use_0) ?_; refine .y 1 rfl hs Tryz.isAgg3 ?_; refine .z 2 rfl (zfa fa_api_System_1) ?_; refine .y 3 rfl hs Tryz.isAgg22 ?_; refine .z 4 rfl (zlen Tryz.runUnderlying22) ?_; refine .z 5 rfl zsub ?_
        refine .e1 (i := 6) (by kernel_rfl) rfl rfl .none hs ?_
        refine .call Tryz.call167 rfl (bound_within_spec hs) ?_; rintro _ w ⟨rfl, hs⟩
        refine .go ?_
        refine .z 7 rfl znot ?_; refine .z 8 rfl zm ?_
        refine .bif (t' := 37) rfl (fun hb37 => ?_) (fun hb37 => ?_)
        · refine .qF (i := 9) rfl (by kernel_rfl) rfl rfl ?_
          refine .qF (i := 10) rfl (by kernel_rfl) rfl rfl ?_
          refine .qF (i := 11) rfl (by kernel_rfl) rfl rfl ?_
          refine .qF (i := 12) rfl (by kernel_rfl) rfl rfl ?_
          refine .z 13 rfl zpT ?_; refine .z 14 rfl zm ?_
          refine .qF (i := 15) rfl (by kernel_rfl) rfl rfl ?_
          refine .qF (i := 16) rfl (by kernel_rfl) rfl rfl ?_
          refine .qF (i := 17) rfl (by kernel_rfl) rfl rfl ?_
          refine .qF (i := 18) rfl (by kernel_rfl) rfl rfl ?_
          refine .qF (i := 19) rfl (by kernel_rfl) rfl rfl ?_
          refine .qF (i := 20) rfl (by kernel_rfl) rfl rfl ?_
          refine .qF (i := 21) rfl (by kernel_rfl) rfl rfl ?_
          refine .qF (i := 22) rfl (by kernel_rfl) rfl rfl ?_
          refine .qF (i := 23) rfl (by kernel_rfl) rfl rfl ?_
          refine .qF (i := 24) rfl (by kernel_rfl) rfl rfl ?_
          refine .qF (i := 25) rfl (by kernel_rfl) rfl rfl ?_
          refine .qF (i := 26) rfl (by kernel_rfl) rfl rfl ?_
          refine .qF (i := 27) rfl (by kernel_rfl) rfl rfl ?_
          refine .qF (i := 28) rfl (by kernel_rfl) rfl rfl ?_
          refine .z 29 rfl zpT ?_; refine .done (by kernel_rfl) hs ?_
          exact nT ⟨_, by repeat (first | exact .nil rfl rfl | refine .cons rfl ?_), by
            intro hp hU
            have h1 := hU.l0; have h2 := hU.l1; have h3 := hU.t0; have h4 := hU.t1; have h5 := hU.ord
            first
              | (cases hp; done)
              | (have := notdec_true.1 hb37; omega)
              | (have := notdec_true.1 hb43; omega)
              | (have := of_decide_eq_true hp; have := h5 (by omega); omega), by
            intro hp
            first
              | (cases hp; done)
              | exact ⟨by have := notdec_false.1 hb37; omega, by have := notdec_false.1 hb37; omega, by have := notdec_false.1 hb43; omega, by have := notdec_false.1 hb43; omega, fun h => by first | omega | (have := of_decide_eq_false hp; omega)⟩, hs⟩
        · refine .z 9 rfl (zfa fa_api_Use_1) ?_; refine .y 10 rfl hs Tryz.isAgg3 ?_
          refine .e1 (i := 11) (by kernel_rfl) rfl rfl (.some rfl rfl) hs ?_
          refine .call Tryz.call167 rfl (bound_within_spec hs) ?_; rintro _ w ⟨rfl, hs⟩
          refine .go ?_
          refine .z 12 rfl znot ?_; refine .z 13 rfl zpF ?_; refine .z 14 rfl zm ?_
          refine .bif (t' := 43) rfl (fun hb43 => ?_) (fun hb43 => ?_)
          · refine .qF (i := 15) rfl (by kernel_rfl) rfl rfl ?_
            refine .qF (i := 16) rfl (by kernel_rfl) rfl rfl ?_
            refine .qF (i := 17) rfl (by kernel_rfl) rfl rfl ?_
            refine .qF (i := 18) rfl (by kernel_rfl) rfl rfl ?_
            refine .qF (i := 19) rfl (by kernel_rfl) rfl rfl ?_
            refine .qF (i := 20) rfl (by kernel_rfl) rfl rfl ?_
            refine .qF (i := 21) rfl (by kernel_rfl) rfl rfl ?_
            refine .qF (i := 22) rfl (by kernel_rfl) rfl rfl ?_
            refine .qF (i := 23) rfl (by kernel_rfl) rfl rfl ?_
            refine .qF (i := 24) rfl (by kernel_rfl) rfl rfl ?_
            refine .qF (i := 25) rfl (by kernel_rfl) rfl rfl ?_
            refine .qF (i := 26) rfl (by kernel_rfl) rfl rfl ?_
            refine .qF (i := 27) rfl (by kernel_rfl) rfl rfl ?_
            refine .qF (i := 28) rfl (by kernel_rfl) rfl rfl ?_
            refine .z 29 rfl zpT ?_; refine .done (by kernel_rfl) hs ?_
            exact nT ⟨_, by repeat (first | exact .nil rfl rfl | refine .cons rfl ?_), by
              intro hp hU
              have h1 := hU.l0; have h2 := hU.l1; have h3 := hU.t0; have h4 := hU.t1; have h5 := hU.ord
              first
                | (cases hp; done)
                | (have := notdec_true.1 hb37; omega)
                | (have := notdec_true.1 hb43; omega)
                | (have := of_decide_eq_true hp; have := h5 (by omega); omega), by
              intro hp
              first
                | (cases hp; done)
                | exact ⟨by have := notdec_false.1 hb37; omega, by have := notdec_false.1 hb37; omega, by have := notdec_false.1 hb43; omega, by have := notdec_false.1 hb43; omega, fun h => by first | omega | (have := of_decide_eq_false hp; omega)⟩, hs⟩
          · refine .z 15 rfl zm ?_; refine .z 16 rfl zgtr ?_; refine .z 17 rfl zm ?_
            refine .bifD (t' := 46) rfl (fun hb46 => ?_) (fun hb46 => ?_)
            · refine .z 18 rfl (zfa fa_api_Proof_1) ?_; refine .y 19 rfl hs Tryz.isAgg61 ?_; refine .z 20 rfl zm ?_; refine .z 21 rfl zsub ?_
              refine .ixX (enc := Use.c) (i := 22) hs rfl (by kernel_rfl) (.some rfl rfl) hU rfl rfl Tryz.runUnderlying61 Tryz.sizeOf208 (gu_get (i := k - 1) (by omega)) (by omega) ?_; intro b51 o51 hc51
              refine .z 23 rfl (zfa fa_api_Use_0) ?_
              refine .r (i := 24) hs rfl (by kernel_rfl) (.some rfl rfl) (q_loadR rfl Tryz.isAgg3 (hc51.get 0 rfl)) ?_
              refine .z 25 rfl (zfa fa_api_Use_0) ?_; refine .y 26 rfl hs Tryz.isAgg3 ?_; refine .z 27 rfl zgeq ?_; refine .z 28 rfl zpT ?_; refine .z 29 rfl zpF ?_; refine .done (by kernel_rfl) hs ?_
              exact nT ⟨_, by repeat (first | exact .nil rfl rfl | refine .cons rfl ?_), by
                intro hp hU
                have h1 := hU.l0; have h2 := hU.l1; have h3 := hU.t0; have h4 := hU.t1; have h5 := hU.ord
                first
                  | (cases hp; done)
                  | (have := notdec_true.1 hb37; omega)
                  | (have := notdec_true.1 hb43; omega)
                  | (have := of_decide_eq_true hp; have := h5 (by omega); omega), by
                intro hp
                first
                  | (cases hp; done)
                  | exact ⟨by have := notdec_false.1 hb37; omega, by have := notdec_false.1 hb37; omega, by have := notdec_false.1 hb43; omega, by have := notdec_false.1 hb43; omega, fun h => by first | omega | (have := of_decide_eq_false hp; omega)⟩, hs⟩
            · refine .qF (i := 18) rfl (by kernel_rfl) rfl rfl ?_
              refine .qF (i := 19) rfl (by kernel_rfl) rfl rfl ?_
              refine .qF (i := 20) rfl (by kernel_rfl) rfl rfl ?_
              refine .qF (i := 21) rfl (by kernel_rfl) rfl rfl ?_
              refine .qF (i := 22) rfl (by kernel_rfl) rfl rfl ?_
              refine .qF (i := 23) rfl (by kernel_rfl) rfl rfl ?_
              refine .qF (i := 24) rfl (by kernel_rfl) rfl rfl ?_
              refine .qF (i := 25) rfl (by kernel_rfl) rfl rfl ?_
              refine .qF (i := 26) rfl (by kernel_rfl) rfl rfl ?_
              refine .qF (i := 27) rfl (by kernel_rfl) rfl rfl ?_
              refine .z 28 rfl zpF ?_; refine .z 29 rfl zpF ?_; refine .done (by kernel_rfl) hs ?_
              exact nT ⟨_, by repeat (first | exact .nil rfl rfl | refine .cons rfl ?_), by
                intro hp hU
                have h1 := hU.l0; have h2 := hU.l1; have h3 := hU.t0; have h4 := hU.t1; have h5 := hU.ord
                first
                  | (cases hp; done)
                  | (have := notdec_true.1 hb37; omega)
                  | (have := notdec_true.1 hb43; omega)
                  | (have := of_decide_eq_true hp; have := h5 (by omega); omega), by
                intro hp
                first
                  | (cases hp; done)
                  | exact ⟨by have := notdec_false.1 hb37; omega, by have := notdec_false.1 hb37; omega, by have := notdec_false.1 hb43; omega, by have := notdec_false.1 hb43; omega, fun h => by first | omega | (have := of_decide_eq_false hp; omega)⟩, hs⟩
      · rintro fs w ⟨p, hfs, hp1, hp2, hs⟩
        refine WE.sub ?_ hfs
        refine (.cond rfl (fun hc58 => ?_) (fun hc58 => ?_))
        · refine .regSeq (.z zg (.nil ?_))
          refine .ret (rT (rB (rT (rB (rT (Fin.ret1 Tryz.results159 rfl ?_))))))
          exact ⟨H, false, HLe.refl H, rfl, ⟨fun h => (by cases h), fun h => (hp1 hc58 (h.use k hk)).elim⟩, hs.out⟩
        · refine .skip ?_
          refine nT ?_
          refine .regSeq ?_
          have hUk := hp2 (by simpa using hc58)
          have hUs' : ∀ i < k + 1, UseOk s us i := fun i hi => by
            by_cases e : i = k
            · subst e; exact hUk
            · exact hUs i (by omega)
          have hTp := times_pos hUs
          have ht0 := hUk.t0; have ht1 := hUk.t1; have hl0 := hUk.l0; have hl1 := hUk.l1
          have hgl := gl_get (ls := s.lims) (i := (gu us k).l.toNat) (by omega)
          obtain ⟨⟨xa0, xa1⟩, ⟨xb0, xb1⟩, xne, xM, -⟩ := hok.lim _ (List.mem_of_getElem? hgl)
          have hbs : boundTo s us (k + 1) = boundTo s us k + (gu us k).t * (ul s us k).M := rfl
          have hts : timesTo us (k + 1) = timesTo us k + (gu us k).t := rfl
          change 0 ≤ (ul s us k).A at xa0; change (ul s us k).A ≤ s.many at xa1
          change 0 ≤ (ul s us k).B at xb0; change (ul s us k).B ≤ s.many at xb1
          change (ul s us k).A ≠ (ul s us k).B at xne
          change -20000 ≤ (ul s us k).M ∧ (ul s us k).M ≤ 20000 at xM
          have hm1 : (gu us k).t * -20000 ≤ (gu us k).t * (ul s us k).M := Int.mul_le_mul_of_nonneg_left xM.1 (by omega)
          have hm2 : (gu us k).t * (ul s us k).M ≤ (gu us k).t * 20000 := Int.mul_le_mul_of_nonneg_left xM.2 (by omega)
          have hib := into_bd hUs (ul s us k).B.toNat
          have hia := into_bd hUs (ul s us k).A.toNat
          have hAn : (ul s us k).A.toNat < s.n := by omega
          have hBn : (ul s us k).B.toNat < s.n := by omega
          have hgA := hC2 _ hAn
          have hgB := hC2 _ hBn
          refine .z (zfa fa_api_System_1) (.y hs (zld Tryz.isAgg22) (.z (zfa fa_api_Use_0) (.y hs (zld Tryz.isAgg3) ?_)))
          refine .ixX (enc := Lim.c) hs hr rfl rfl Tryz.runUnderlying22 Tryz.sizeOf157 hgl (by omega) ?_; intro b63 o63 hc63
          refine .q hs (q_loadsR (vs := (ul s us k).c) rfl Tryz.isAgg157 Tryz.sizeOf157 hc63) ?_
          refine .o (.alloc hs Tryz.zeroValue157 rfl ?_); intro b12 w hs
          refine .o (.stores (vs := (ul s us k).c) hs rfl rfl Tryz.sizeOf157 ?_); intro w hs
          refine .nil ?_
          refine .seq (.draw mix rfl hs ?_); intro w hs
          refine .z 0 rfl zm ?_; refine .z 1 rfl (zfa fa_api_Limit_1) ?_; refine .y 2 rfl hs Tryz.isAgg3 ?_
          refine .p (i := 3) rfl (by kernel_rfl) .none (q_ixO (k := (ul s us k).B.toNat) rfl rfl Tryz.runUnderlying25 Tryz.sizeOf3 (by omega) hBn) ?_
          refine .y 4 rfl hs Tryz.isAgg3 ?_; refine .z 5 rfl (zfa fa_api_Use_1) ?_; refine .y 6 rfl hs Tryz.isAgg3 ?_; refine .z 7 rfl zadd ?_
          refine .p (i := 8) rfl (by kernel_rfl) .none (q_ixO (k := (ul s us k).B.toNat) rfl rfl Tryz.runUnderlying25 Tryz.sizeOf3 (by omega) hBn) ?_
          refine .e1 (i := 9) (by kernel_rfl) rfl rfl .none hs ?_
          refine .store hs rfl rfl Tryz.sizeOf3 ?_; intro w hs
          refine .go ?_
          refine .done (by kernel_rfl) hs ?_
          have hD1 : (C.set (ul s us k).B.toNat (gi C (ul s us k).B.toNat + (gu us k).t)).length = s.n := by rw [List.length_set]; exact hC1
          have hD2 : ∀ v, gi (C.set (ul s us k).B.toNat (gi C (ul s us k).B.toNat + (gu us k).t)) v = if v = (ul s us k).B.toNat then gi C (ul s us k).B.toNat + (gu us k).t else gi C v := fun v => gi_set (by omega) _ v
          generalize C.set (ul s us k).B.toNat (gi C (ul s us k).B.toNat + (gu us k).t) = D at hs hD1 hD2
          have hgD : gi D (ul s us k).A.toNat = gi C (ul s us k).A.toNat := by rw [hD2, if_neg (by omega)]
          refine .seq (.draw mix rfl hs ?_); intro w hs
          refine .z 0 rfl zm ?_; refine .z 1 rfl (zfa fa_api_Limit_0) ?_; refine .y 2 rfl hs Tryz.isAgg3 ?_
          refine .p (i := 3) rfl (by kernel_rfl) .none (q_ixO (k := (ul s us k).A.toNat) rfl rfl Tryz.runUnderlying25 Tryz.sizeOf3 (by omega) hAn) ?_
          refine .y 4 rfl hs Tryz.isAgg3 ?_; refine .z 5 rfl (zfa fa_api_Use_1) ?_; refine .y 6 rfl hs Tryz.isAgg3 ?_; refine .z 7 rfl zsub ?_
          refine .p (i := 8) rfl (by kernel_rfl) .none (q_ixO (k := (ul s us k).A.toNat) rfl rfl Tryz.runUnderlying25 Tryz.sizeOf3 (by omega) hAn) ?_
          refine .e1 (i := 9) (by kernel_rfl) rfl rfl .none hs ?_
          refine .store hs rfl rfl Tryz.sizeOf3 ?_; intro w hs
          refine .go ?_
          refine .done (by kernel_rfl) hs ?_
          refine .regSeq (.z zm (.z (zfa fa_api_Use_1) (.y hs (zld Tryz.isAgg3) (.z zadd (.z zg (.nil (.region (.z zm (.z (zfa fa_api_Use_1) ?_)))))))))
          refine .y hs (zld Tryz.isAgg3) (.z (zfa fa_api_Limit_2) (.y hs (zld Tryz.isAgg3) (.z zmul ?_)))
          refine .q hs (q_add rfl rfl) ?_
          rw [i64wrap_add]
          refine .z zg (.nil ?_)
          refine nB (nT ?_)
          exact .mk ⟨rfl, D.set (ul s us k).A.toNat (gi D (ul s us k).A.toNat - (gu us k).t), ⟨by rw [List.length_set]; exact hD1, fun v hv => by
            have hst : intoTo s us (k + 1) v = intoTo s us k v + (gu us k).t * (ind (ul s us k).B.toNat v - ind (ul s us k).A.toNat v) := rfl
            rw [gi_set (by omega), hst, ← hC2 v hv]
            by_cases e1 : v = (ul s us k).A.toNat
            · have i1 : ind (ul s us k).A.toNat v = 1 := by unfold ind; rw [if_pos e1.symm]
              have i2 : ind (ul s us k).B.toNat v = 0 := by unfold ind; rw [if_neg (by omega)]
              rw [if_pos e1, hgD, i1, i2, e1]; omega
            · have i1 : ind (ul s us k).A.toNat v = 0 := by unfold ind; rw [if_neg (by omega)]
              rw [if_neg e1, hD2, i1]
              by_cases e2 : v = (ul s us k).B.toNat
              · have i2 : ind (ul s us k).B.toNat v = 1 := by unfold ind; rw [if_pos e2.symm]
                rw [if_pos e2, i2, e2]; omega
              · have i2 : ind (ul s us k).B.toNat v = 0 := by unfold ind; rw [if_neg (by omega)]
                rw [if_neg e2, i2]; omega⟩, hUs', by omega, hs.sub (by repeat (first | exact Sub.refl _ | constructor | apply Sub.weaken))⟩ (hs := .cons rfl (.cons rfl (.cons rfl (.cons rfl (.consI rfl hts.symm (.consI rfl (by rw [hbs]) (by repeat (first | exact .nil rfl rfl | refine .cons rfl ?_))))))))
    · rintro fr w ⟨rfl, C, ⟨hC1, hC2⟩, hUs, hTm, hs⟩
      have hlen : us.length ≤ 400 := by omega
      obtain ⟨H1, hle1, hRow, hs⟩ := hs.publish (b := b20) (c := Is C) .here
      have hRC : RI H1 (.slice (some ⟨b20, 0, none⟩) s.n s.n) C := by
        have := Row.RI (xs := C) (spare := []) (by simpa using hRow) s.n (by omega) (by omega)
        rwa [hC1] at this
      have hRT := RI.tail hRC (k := 1) (by have := s.n_pos; omega)
      have hWT := RI.tail (hrw.mono hle1) (k := 1) (by have := s.n_pos; omega)
      have hbd := bound_bd hok hUs
      have heq : C.drop 1 = ws.drop 1 ↔ ∀ v, 1 ≤ v → v < s.n → intoTo s us us.length v = gi ws v := by
        constructor
        · intro h v h1 h2
          rw [← hC2 v h2]
          have := congrArg (fun l => gi l (v - 1)) h
          simpa [gi, List.getD, show 1 + (v - 1) = v by omega, show v - 1 + 1 = v by omega] using this
        · intro h
          refine ext_gi' (by simp [hC1, hwl]) fun k hk => ?_
          have hk' : k + 1 < s.n := by simp at hk; omega
          have := h (k + 1) (by omega) hk'
          rw [← hC2 _ hk'] at this
          simpa [gi, List.getD, Nat.add_comm] using this
      refine nT ?_
      refine .seq (.draw mix rfl hs ?_); intro w hs
      refine .z 0 rfl zm ?_; refine .z 1 rfl zleq ?_; refine .z 2 rfl zm ?_
      refine .bifD (t' := 97) rfl (fun hb97 => ?_) (fun hb97 => ?_)
      · refine .z 3 rfl zm ?_
        refine .p (i := 4) rfl (by kernel_rfl) (.some rfl rfl) (q_sliceLX (k := 1) rfl rfl Tryz.runUnderlying25 Tryz.sizeOf3 rfl (by have := s.n_pos; omega)) ?_
        refine .z 5 rfl zm ?_
        refine .p (i := 6) rfl (by kernel_rfl) (.some rfl rfl) (q_sliceLX (k := 1) rfl rfl Tryz.runUnderlying25 Tryz.sizeOf3 rfl (by have := s.n_pos; omega)) ?_
        refine .e1 (i := 7) (by kernel_rfl) rfl rfl (.some rfl rfl) hs ?_
        refine .call Tryz.call91 rfl (slices_Equal_int hs hRT hWT) ?_; rintro _ w ⟨rfl, hs⟩
        refine .go ?_
        refine .z 8 rfl zpT ?_; refine .z 9 rfl zm ?_
        refine .bif (t' := 104) rfl (fun hb104 => ?_) (fun hb104 => ?_)
        · refine .z 10 rfl zm ?_; refine .z 11 rfl (zfa fa_api_Proof_0) ?_; refine .y 12 rfl hs Tryz.isAgg3 ?_; refine .z 13 rfl zeql ?_; refine .z 14 rfl zpT ?_; refine .z 15 rfl zg ?_; refine .done (by kernel_rfl) hs ?_
          refine .ret (Fin.ret1 Tryz.results159 rfl ?_)
          exact ⟨H1, _, hle1, rfl, by
            first
              | exact ⟨fun h => (by cases h), fun h => (hb97 h.tot).elim⟩
              | exact ⟨fun h => (by cases h), fun h => by have := heq.2 h.into; simp_all⟩
              | (rw [i64wrap (by omega)]
                 have he : C.drop 1 = ws.drop 1 := by simpa using hb104
                 exact ⟨fun h => ⟨hlen, hUs, hb97, heq.1 he, of_decide_eq_true h⟩, fun h => decide_eq_true h.bound⟩), hs.out⟩
        · refine .qF (i := 10) rfl (by kernel_rfl) rfl rfl ?_
          refine .qF (i := 11) rfl (by kernel_rfl) rfl rfl ?_
          refine .qF (i := 12) rfl (by kernel_rfl) rfl rfl ?_
          refine .qF (i := 13) rfl (by kernel_rfl) rfl rfl ?_
          refine .z 14 rfl zpF ?_; refine .z 15 rfl zg ?_; refine .done (by kernel_rfl) hs ?_
          refine .ret (Fin.ret1 Tryz.results159 rfl ?_)
          exact ⟨H1, _, hle1, rfl, by
            first
              | exact ⟨fun h => (by cases h), fun h => (hb97 h.tot).elim⟩
              | exact ⟨fun h => (by cases h), fun h => by have := heq.2 h.into; simp_all⟩
              | (rw [i64wrap (by omega)]
                 have he : C.drop 1 = ws.drop 1 := by simpa using hb104
                 exact ⟨fun h => ⟨hlen, hUs, hb97, heq.1 he, of_decide_eq_true h⟩, fun h => decide_eq_true h.bound⟩), hs.out⟩
      · refine .qF (i := 3) rfl (by kernel_rfl) rfl rfl ?_
        refine .qF (i := 4) rfl (by kernel_rfl) rfl rfl ?_
        refine .qF (i := 5) rfl (by kernel_rfl) rfl rfl ?_
        refine .qF (i := 6) rfl (by kernel_rfl) rfl rfl ?_
        refine .qF (i := 7) rfl (by kernel_rfl) rfl rfl ?_
        refine .z 8 rfl zpF ?_; refine .z 9 rfl zm ?_
        refine .qF (i := 10) rfl (by kernel_rfl) rfl rfl ?_
        refine .qF (i := 11) rfl (by kernel_rfl) rfl rfl ?_
        refine .qF (i := 12) rfl (by kernel_rfl) rfl rfl ?_
        refine .qF (i := 13) rfl (by kernel_rfl) rfl rfl ?_
        refine .z 14 rfl zpF ?_; refine .z 15 rfl zg ?_; refine .done (by kernel_rfl) hs ?_
        refine .ret (Fin.ret1 Tryz.results159 rfl ?_)
        exact ⟨H1, _, hle1, rfl, by
          first
            | exact ⟨fun h => (by cases h), fun h => (hb97 h.tot).elim⟩
            | exact ⟨fun h => (by cases h), fun h => by have := heq.2 h.into; simp_all⟩
            | (rw [i64wrap (by omega)]
               have he : C.drop 1 = ws.drop 1 := by simpa using hb104
               exact ⟨fun h => ⟨hlen, hUs, hb97, heq.1 he, of_decide_eq_true h⟩, fun h => decide_eq_true h.bound⟩), hs.out⟩
theorem bound_CheckProof_spec {H : Heap} {w : World} {σ : List Ent} {v vw vp : Value} {s : Syst} {ws : List Int} {n : Int} {us : List Use} (hs : St H w σ) (hr : RSy H v s) (hrw : RI H vw ws) (hp : RPf H vp n us) :
    Cl Tryz.prog 98 [v, vw, vp] w fun v w' => ∃ H1 e, HLe H H1 ∧ v = I e ∧ ProofR s ws n us e ∧ St H1 w' σ := by
  obtain ⟨u, rfl, hr⟩ := hr
  obtain ⟨al, cl, rfl⟩ := RL.shape hr
  obtain ⟨aw, cw, rfl⟩ := RI.shape hrw
  obtain ⟨uu, rfl, hU⟩ := hp
  obtain ⟨au, cu, rfl⟩ := RU.shape hU
  refine Cl.of Tryz.func98 rfl Tryz.ntmps98 (by simp) (args_cons (k := 0) rfl (args_cons (k := 1) rfl (args_cons (k := 2) rfl (args0)))) ?_
  refine .regSeq ?_
  refine .o (.box hs rfl rfl ?_); intro b3 w hs
  refine .o (.box hs rfl rfl ?_); intro b5 w hs
  refine .z zg (.nil (.seq (.regSeq (.y hs (zls [_, _] Tryz.isAgg24 Tryz.sizeOf24) (.z zm ?_)))))
  refine .o (.call Tryz.call158 rfl (bound_checkWeights_spec (s := s) hs ⟨_, rfl, hr⟩ hrw) ?_); rintro _ w ⟨rfl, hs⟩
  refine .z zg (.nil (.regSeq (.z zm (.z zneq (.nil ?_)))))
  refine (.condN rfl (fun hc12 => ?_) (fun hc12 => ?_))
  · refine .regSeq (.z zm (.z zg (.nil ?_)))
    refine .ret (rT (Fin.ret1 Tryz.results98 rfl ?_))
    exact ⟨H, _, HLe.refl H, rfl, .ask hc12, hs.out⟩
  · refine .skip ?_
    refine nT ?_
    refine .seq (.regSeq (.y hs (zls [_, _] Tryz.isAgg24 Tryz.sizeOf24) (.z zm (.y hs (zls [_, _] Tryz.isAgg63 Tryz.sizeOf63) ?_))))
    have hA : askErr s ws = 0 := by simpa using hc12
    refine .o (.call Tryz.call159 rfl (bound_isProof_spec (s := s) (n := n) (us := us) hs ⟨_, rfl, hr⟩ hrw ⟨_, rfl, hU⟩ hA) ?_); rintro _ w ⟨H1, b, hle1, rfl, hb, hs⟩
    refine .z znot (.nil ?_)
    refine (.cond rfl (fun hc18 => ?_) (fun hc18 => ?_))
    · refine .regSeq (.z zg (.nil ?_))
      refine .ret (rT (Fin.ret1 Tryz.results98 rfl ?_))
      exact ⟨H1, _, hle1, rfl, .bad hA (fun h => by rw [hb.2 h] at hc18; cases hc18), hs.out⟩
    · refine .skip ?_
      refine nT ?_
      refine .regSeq (.z zg (.nil ?_))
      refine .ret (Fin.ret1 Tryz.results98 rfl ?_)
      exact ⟨H1, _, hle1, rfl, .ok hA (hb.1 (by simpa using hc18)), hs.out⟩
end Go.Proofs.YtiiokdeehlfeeaaGreat

namespace Go.Proofs.YtiiokdeehlfeeaaGreat
open Go.MW
inductive CWR (a : Quest) (l : List Prb) (n m : Int) (us : List Use) : Int → Prop
  | ask {e : Int} (h : CPrbR a l e) (he : e ≠ 0) : CWR a l n m us e
  | bad {e : Int} (h : CPrbR a l 0) (h1 : ProofR (dblS a l) (dblW a.ws) m us e) (he : e ≠ 0) : CWR a l n m us 24
  | more (h : CPrbR a l 0) (h1 : ProofR (dblS a l) (dblW a.ws) m us 0) (he : n < m) : CWR a l n m us 94
  | ok (h : CPrbR a l 0) (h1 : ProofR (dblS a l) (dblW a.ws) m us 0) (he : ¬ n < m) : CWR a l n m us 0
theorem CWR.uniq {a : Quest} {l : List Prb} {n m : Int} {us : List Use} {e f : Int} (h : CWR a l n m us e) (g : CWR a l n m us f) : e = f := by
  cases h with
  | ask h he =>
    cases g with
    | ask g _ => exact h.uniq g
    | bad g _ _ => exact (he (h.uniq g)).elim
    | more g _ _ => exact (he (h.uniq g)).elim
    | ok g _ _ => exact (he (h.uniq g)).elim
  | bad h h1 he =>
    cases g with
    | ask g ge => exact (ge (g.uniq h)).elim
    | bad g _ _ => rfl
    | more g g1 _ => exact (he (h1.uniq g1)).elim
    | ok g g1 _ => exact (he (h1.uniq g1)).elim
  | more h h1 he =>
    cases g with
    | ask g ge => exact (ge (g.uniq h)).elim
    | bad g g1 ge => exact (ge (g1.uniq h1)).elim
    | more g _ _ => rfl
    | ok g _ ge => exact (ge he).elim
  | ok h h1 he =>
    cases g with
    | ask g ge => exact (ge (g.uniq h)).elim
    | bad g g1 ge => exact (ge (g1.uniq h1)).elim
    | more g _ ge => exact (he ge).elim
    | ok g _ _ => rfl
theorem probe_told_none {H : Heap} {w : World} {σ : List Ent} {v vl : Value} {a : Quest} {l : List Prb} {R : Int → Prop} {g : Nat} {cap : List Value} (hs : St H w σ) (hr : RAsk H v a) (hp : RPs H vl l) (hc : ∀ args w, (callFunc g args).run Tryz.prog w = .ok (.enter g args) w)
    (hg : ∀ H' w σ', HLe H H' → CPrbR a l 0 → St H' w σ' → Cl Tryz.prog g ([v] ++ cap) w fun u w' => ∃ H'' e, HLe H' H'' ∧ u = .tuple #[.agg #[], I e] ∧ R e ∧ St H'' w' σ') :
    Cl Tryz.prog 89 [v, vl, .func (.func g) #[] cap.toArray] w fun u w' => ∃ H1 e, HLe H H1 ∧ u = .tuple #[.agg #[], I e] ∧ ((CPrbR a l e ∧ e ≠ 0) ∨ (CPrbR a l 0 ∧ R e)) ∧ St H1 w' σ := by
  obtain ⟨ul, uw, rfl, hl, hw⟩ := hr
  refine Cl.of Tryz.func89 rfl Tryz.ntmps89 (by simp) (args_cons (k := 0) rfl (args_cons (k := 1) rfl (args_cons (k := 2) rfl (args0)))) ?_
  refine .regSeq ?_
  refine .o (.box hs rfl rfl ?_); intro b3 w hs
  refine .o (.alloc hs Tryz.zeroValue130 rfl ?_); intro b6 w hs
  refine .z zg (.nil (.seq (.regSeq (.y hs (zls [_, _, _, _] Tryz.isAgg27 Tryz.sizeOf27) (.z zm ?_)))))
  refine .o (.call Tryz.call141 rfl (probe_CheckProbes_spec (a := a) hs ⟨_, _, rfl, hl, hw⟩ hp) ?_); rintro _ w ⟨H1, e, hle1, rfl, hC, hs⟩
  refine .z zg (.nil (.regSeq (.z zm (.z zneq (.nil ?_)))))
  refine (.condN rfl (fun hc14 => ?_) (fun hc14 => ?_))
  · refine .regSeq ?_
    refine .o (.alloc hs Tryz.zeroValue130 rfl ?_); intro b9 w hs
    refine .nil (.regSeq (.y hs (zls [] Tryz.isAgg130 Tryz.sizeOf130) (.z zm ?_)))
    refine .o (.stores (vs := []) hs rfl rfl Tryz.sizeOf130 ?_); intro w hs
    refine .z zg (.nil ?_)
    refine .ret (rT (?_))
    exact Fin.retD [] [] hs fun w hs => ⟨_, results2 Tryz.results89 (rcells (vs := []) hs rfl Tryz.isAgg130 Tryz.sizeOf130) rfl, H1, e, hle1, rfl, .inl ⟨hC, hc14⟩, hs.out⟩
  · refine .skip ?_
    refine nT ?_
    refine .regSeq (.z zm (.y hs (zls [_, _, _, _] Tryz.isAgg27 Tryz.sizeOf27) ?_))
    rw [hc14] at hC
    refine .o (.callG (first := []) rfl rfl hc (hg _ _ _ hle1 hC hs) ?_); rintro _ w ⟨H2, e2, hle2, rfl, hR, hs⟩
    refine .z zex (.z zex ?_)
    refine .o (.stores (vs := []) hs rfl rfl Tryz.sizeOf130 ?_); intro w hs
    refine .z zg (.nil ?_)
    refine .ret ?_
    exact Fin.retD [] [] hs fun w hs => ⟨_, results2 Tryz.results89 (rcells (vs := []) hs rfl Tryz.isAgg130 Tryz.sizeOf130) rfl, H2, e2, hle1.trans hle2, rfl, .inr ⟨hC, hR⟩, hs.out⟩
theorem probe_CheckWorst_1 {H : Heap} {w : World} {σ : List Ent} {v vl vp : Value} {a : Quest} {l : List Prb} {n m : Int} {us : List Use} {bl bp bn : Nat} (hs : St H w σ) (hr : RAsk H v a) (hbl : Row H bl [vl]) (hp : RPs H vl l) (hbp : Row H bp [I m, vp]) (hU : RU H vp us) (hbn : Row H bn [I n]) (hC : CPrbR a l 0) :
    Cl Tryz.prog 97 [v, .pointer (some ⟨bl, 0, none⟩), .pointer (some ⟨bp, 0, none⟩), .pointer (some ⟨bn, 0, none⟩)] w fun u w' => ∃ H'' e, HLe H H'' ∧ u = .tuple #[.agg #[], I e] ∧ CWR a l n m us e ∧ St H'' w' σ := by
  obtain ⟨ul, uw, rfl, hl, hw⟩ := hr
  obtain ⟨al, cpl, rfl⟩ := RPs.shape hp
  obtain ⟨au, cu, rfl⟩ := RU.shape hU
  obtain ⟨hok, hlen, hin⟩ := hC.zero
  have hb0 := hbl.at 0
  refine Cl.of Tryz.func97 rfl Tryz.ntmps97 (by simp) (args_cons (k := 0) rfl (args_cons (k := 1) rfl (args_cons (k := 2) rfl (args_cons (k := 3) rfl (args0))))) ?_
  refine .regSeq ?_
  refine .o (.box hs rfl rfl ?_); intro b4 w hs
  refine .o (.alloc hs Tryz.zeroValue130 rfl ?_); intro b5 w hs
  refine .z zg (.nil (.regSeq (.y hs (zls [_, _, _, _] Tryz.isAgg27 Tryz.sizeOf27) ?_)))
  refine .q hs (q_loadR rfl Tryz.isAgg28 hb0) ?_
  refine .o (.call Tryz.call87 rfl (probe_double_spec (a := a) hs ⟨_, _, rfl, hl, hw⟩ hp hok hlen (fun p h => (hin p h).inn)) ?_); rintro _ w ⟨H1, ul1, uw1, vp, vw, hle1, rfl, hl1, hw1, hvp, hvw, hs⟩
  obtain ⟨al1, cl1, rfl⟩ := RL.shape hl1; obtain ⟨aw1, cw1, rfl⟩ := RI.shape hw1; obtain ⟨ap1, cp1, rfl⟩ := RL.shape hvp; obtain ⟨av1, cv1, rfl⟩ := RI.shape hvw
  have hp0 := (hbp.mono hle1).cells 0 [I m, .slice au us.length cu]
  refine .o (.alloc hs Tryz.zeroValue125 rfl ?_); intro b7 w hs
  refine .o (.stores (vs := [_, _, _, _, _, _, _]) hs rfl rfl Tryz.sizeOf125 ?_); intro w hs
  refine .nil (.seq (.regSeq (.z (zfa fa_probe_doubled_1) (.y hs (zls [_, _] Tryz.isAgg24 Tryz.sizeOf24) (.z (zfa fa_probe_doubled_2) (.y hs (zld Tryz.isAgg25) ?_))))))
  refine .q hs (q_loadsR (vs := [I m, .slice au us.length cu]) rfl Tryz.isAgg63 Tryz.sizeOf63 hp0) ?_
  refine .o (.call Tryz.call98 rfl (bound_CheckProof_spec (s := dblS a l) (n := m) (us := us) hs ⟨_, rfl, hvp⟩ hvw ⟨_, rfl, hU.mono hle1⟩) ?_); rintro _ w ⟨H2, e5, hle2, rfl, hPf, hs⟩
  have hp1 := ((hbp.mono hle1).mono hle2).cells 0 [I m, .slice au us.length cu]
  have hn1 := ((hbn.mono hle1).mono hle2).at 0
  have hle12 := hle1.trans hle2
  refine .z zneq (.nil ?_)
  refine (.condN rfl (fun hc17 => ?_) (fun hc17 => ?_))
  · refine .regSeq (.z (zbd [] bld_struct) ?_)
    refine .o (.stores (vs := []) hs rfl rfl Tryz.sizeOf130 ?_); intro w hs
    refine .z zg (.nil ?_)
    refine .ret (rT (?_))
    exact Fin.retD [] [] hs fun w hs => ⟨_, results2 Tryz.results97 (rcells (vs := []) hs rfl Tryz.isAgg130 Tryz.sizeOf130) rfl, H2, _, hle12, rfl, .bad hC hPf hc17, hs.out⟩
  · refine .skip ?_
    refine nT ?_
    refine .seq (.regSeq (.z (zfa fa_api_Proof_0) ?_))
    refine .q hs (q_loadR rfl Tryz.isAgg3 (hp1.get 0 rfl)) ?_
    refine .q hs (q_loadR rfl Tryz.isAgg3 hn1) ?_
    refine .z zgtr (.nil ?_)
    refine (.condD rfl (fun hc22 => ?_) (fun hc22 => ?_))
    · refine .regSeq (.z (zbd [] bld_struct) ?_)
      refine .o (.stores (vs := []) hs rfl rfl Tryz.sizeOf130 ?_); intro w hs
      refine .z zg (.nil ?_)
      refine .ret (rT (?_))
      exact Fin.retD [] [] hs fun w hs => ⟨_, results2 Tryz.results97 (rcells (vs := []) hs rfl Tryz.isAgg130 Tryz.sizeOf130) rfl, H2, _, hle12, rfl, .more hC (by rw [hc17] at hPf; exact hPf) (by simpa using hc22), hs.out⟩
    · refine .skip ?_
      refine nT ?_
      refine .regSeq (.z (zbd [] bld_struct) ?_)
      refine .o (.stores (vs := []) hs rfl rfl Tryz.sizeOf130 ?_); intro w hs
      refine .z zg (.nil ?_)
      refine .ret ?_
      exact Fin.retD [] [] hs fun w hs => ⟨_, results2 Tryz.results97 (rcells (vs := []) hs rfl Tryz.isAgg130 Tryz.sizeOf130) rfl, H2, _, hle12, rfl, .ok hC (by rw [hc17] at hPf; exact hPf) (by simpa using hc22), hs.out⟩
theorem probe_CheckWorst_spec {H : Heap} {w : World} {σ : List Ent} {v vl vp : Value} {a : Quest} {l : List Prb} {n m : Int} {us : List Use} (hs : St H w σ) (hr : RAsk H v a) (hp : RPs H vl l) (hq : RPf H vp m us) :
    Cl Tryz.prog 37 [v, vl, I n, vp] w fun u w' => ∃ H1 e, HLe H H1 ∧ u = I e ∧ CWR a l n m us e ∧ St H1 w' σ := by
  obtain ⟨ul, uw, rfl, hl, hw⟩ := hr
  obtain ⟨al, cpl, rfl⟩ := RPs.shape hp
  obtain ⟨uu, rfl, hU⟩ := hq
  obtain ⟨au, cu, rfl⟩ := RU.shape hU
  refine Cl.of Tryz.func37 rfl Tryz.ntmps37 (by simp) (args_cons (k := 0) rfl (args_cons (k := 1) rfl (args_cons (k := 2) rfl (args_cons (k := 3) rfl (args0))))) ?_
  refine .regSeq ?_
  refine .o (.box hs rfl rfl ?_); intro b4 w hs
  refine .o (.box hs rfl rfl ?_); intro b5 w hs
  refine .o (.box hs rfl rfl ?_); intro b6 w hs
  refine .o (.box hs rfl rfl ?_); intro b7 w hs
  refine .z zg (.nil (.regSeq (.y hs (zls [_, _, _, _] Tryz.isAgg27 Tryz.sizeOf27) (.y hs (zld Tryz.isAgg28) ?_))))
  refine .q hs (q_makeFunc (f := []) (c := [_, _, _]) rfl rfl) ?_
  obtain ⟨H0, hle0, hb5, hs⟩ := hs.publish (b := b5) (by repeat constructor)
  obtain ⟨H1, hle1, hb6, hs⟩ := hs.publish (b := b6) (by repeat constructor)
  obtain ⟨H2, hle2, hb7, hs⟩ := hs.publish (b := b7) (by repeat constructor)
  have hle02 := hle0.trans (hle1.trans hle2)
  refine .o (.call Tryz.call89 rfl (probe_told_none (R := CWR a l n m us) (a := a) (l := l) (cap := [.pointer (some ⟨b5, 0, none⟩), .pointer (some ⟨b7, 0, none⟩), .pointer (some ⟨b6, 0, none⟩)]) hs ⟨_, _, rfl, hl.mono hle02, hw.mono hle02⟩ (hp.mono hle02) Tryz.call97 ?_) ?_)
  · rintro H' w σ' hle hC hs
    exact probe_CheckWorst_1 (a := a) (l := l) hs ⟨_, _, rfl, (hl.mono hle02).mono hle, (hw.mono hle02).mono hle⟩ ((hb5.mono (hle1.trans hle2)).mono hle) ((hp.mono hle02).mono hle) (hb7.mono hle) ((hU.mono hle02).mono hle) ((hb6.mono hle2).mono hle) hC
  rintro _ w ⟨H3, e, hle3, rfl, hR, hs⟩
  refine .z zm (.z zex (.z zex ?_))
  refine .o (.alloc hs Tryz.zeroValue130 rfl ?_); intro b9 w hs
  refine .o (.stores (vs := []) hs rfl rfl Tryz.sizeOf130 ?_); intro w hs
  refine .z zg (.nil (.regSeq (.z zm (.z zg (.nil ?_)))))
  refine .ret (Fin.ret1 Tryz.results37 rfl ?_)
  exact ⟨H3, e, hle02.trans hle3, rfl, by
    rcases hR with ⟨h1, h2⟩ | ⟨_, h2⟩
    · exact .ask h1 h2
    · exact h2, hs.out⟩
end Go.Proofs.YtiiokdeehlfeeaaGreat

namespace Go.Proofs.YtiiokdeehlfeeaaGreat
open Go.MW
theorem slices_Reverse_int {H : Heap} {w : World} {σ : List Ent} {v : Value} {l : List Int} {en : Ent} (hs : St H w (en :: σ)) (ho : OwnS 1 v (Is l) en) (hl : l.length ≤ 1000000) :
    Cl Tryz.prog 190 [v] w fun _ w' => ∃ en', OwnS 1 v (Is l.reverse) en' ∧ St H w' (en' :: σ) := by
  rcases ho with ⟨a, rfl, h2, rfl⟩ | ⟨b, len, cap, sp, rfl, rfl, h2, h3, h4⟩
  · obtain rfl : l = [] := by
      have := congrArg List.length h2
      exact List.length_eq_zero_iff.1 (by simpa using this)
    have hs := hs.tail
    refine Cl.of Tryz.func190 rfl Tryz.ntmps190 (by simp) (args_cons (k := 0) rfl (args0)) ?_
    refine .regSeq (.z zm (.z (zlen Tryz.runUnderlying25) (.z zsub (.z zg (.z zg (.nil (.block ?_)))))))
    refine .loop (fun _ : Unit => ⟨28, [], [(2, I 0), (3, I (-1))]⟩) (fun _ w => St H w σ) (fun _ => 0) () (by repeat (first | exact .nil rfl rfl | refine .cons rfl ?_)) hs ?_
    rintro _ w hs
    refine .seq (.regSeq (.z zm (.z zm (.z zlss (.nil ?_)))))
    refine (.condD rfl (fun hc9 => ?_) (fun hc9 => ?_))
    · omega
    · refine .exit ?_
      refine xT (xT (xB ?_))
      exact Fin.end0 Tryz.results190 ⟨.nul, .nil 1 a, hs.nul⟩
  obtain rfl : len = l.length := by simpa using h2.symm
  refine Cl.of Tryz.func190 rfl Tryz.ntmps190 (by simp) (args_cons (k := 0) rfl (args0)) ?_
  refine .regSeq (.z zm (.z (zlen Tryz.runUnderlying25) (.z zsub (.z zg (.z zg (.nil (.block ?_)))))))
  refine .loop (fun p : Nat × List Int => ⟨28, [], [(2, I p.1), (3, I ((l.length : Int) - 1 - p.1)), (0, .slice (some ⟨b, 0, none⟩) l.length cap)]⟩) (fun p w => (2 * p.1 ≤ l.length + 1 ∧ TurnedI l p.2 p.1) ∧ St H w (.blk b (Is p.2 ++ sp) :: σ)) (fun p => l.length - p.1) (0, l) (.cons rfl (.consI rfl (by simp) (.cons rfl (.nil rfl rfl)))) ⟨⟨by simp, .start l⟩, hs⟩ ?_
  rintro ⟨i, L⟩ w ⟨⟨h5, h6⟩, hs⟩
  dsimp only at h5 h6 hs ⊢
  have hL := h6.1
  refine .seq (.regSeq (.z zm (.z zm (.z zlss (.nil ?_)))))
  refine (.condD rfl (fun hc9 => ?_) (fun hc9 => ?_))
  · refine .skip ?_
    refine nT ?_
    refine .seq (.block ?_)
    refine .draw mix rfl hs ?_; intro w hs
    refine .z 0 rfl zm ?_; refine .z 1 rfl zm ?_; refine .z 2 rfl zm ?_; refine .z 3 rfl zm ?_; refine .z 4 rfl zm ?_; refine .z 5 rfl zm ?_
    refine .p (i := 6) rfl (by kernel_rfl) .none (q_ixO (k := l.length - 1 - i) rfl rfl Tryz.runUnderlying25 Tryz.sizeOf3 (by omega) (by omega)) ?_
    refine .load (i := 7) hs rfl (by kernel_rfl) .none rfl Tryz.isAgg3 ?_ (hv := Is_gi_sp (by omega) sp)
    refine .z 8 rfl zm ?_; refine .z 9 rfl zm ?_
    first | (refine .ixv 10 rfl hs Tryz.runUnderlying25 Tryz.sizeOf3 ?_; intro b24 o24 hc24) | refine .z 10 rfl (zix Tryz.runUnderlying25 Tryz.sizeOf3) ?_
    refine .load (i := 11) hs rfl (by kernel_rfl) .none rfl Tryz.isAgg3 ?_ (hv := Is_gi_sp (by omega) sp)
    first | (refine .ixv 12 rfl hs Tryz.runUnderlying25 Tryz.sizeOf3 ?_; intro b26 o26 hc26) | refine .z 12 rfl (zix Tryz.runUnderlying25 Tryz.sizeOf3) ?_
    refine .e1 (i := 13) (by kernel_rfl) rfl rfl .none hs ?_
    refine .store hs rfl rfl Tryz.sizeOf3 ?_ (by repeat constructor) (by simp; omega) (Is_set_sp (by omega) sp _); intro w hs
    refine .go ?_
    refine .p (i := 14) rfl (by kernel_rfl) .none (q_ixO (k := l.length - 1 - i) rfl rfl Tryz.runUnderlying25 Tryz.sizeOf3 (by omega) (by omega)) ?_
    refine .e1 (i := 15) (by kernel_rfl) rfl rfl .none hs ?_
    refine .store hs rfl rfl Tryz.sizeOf3 ?_ (by repeat constructor) (by simp; omega) (Is_set_sp (by simp; omega) sp _); intro w hs
    refine .go ?_
    refine .done (by kernel_rfl) hs ?_
    refine nB (nT ?_)
    refine .region (.z zm (.z zadd (.z zm (.z zsub (.z zg (.z zg (.nil ?_)))))))
    refine nT ?_
    exact ⟨(i + 1, _), .cons rfl (.consI rfl (by push_cast; omega) (.cons rfl (.nil rfl rfl))), ⟨⟨by dsimp only; omega, h6.step (by omega)⟩, hs⟩, by dsimp only; omega⟩
  · refine .exit ?_
    refine xT (xT (xB ?_))
    rw [h6.done (by omega)] at hs
    exact Fin.end0 Tryz.results190 ⟨_, .inr ⟨b, l.length, cap, sp, rfl, rfl, by simp, by rw [← h3]; simp, h4⟩, hs⟩
inductive CycR (s : Syst) (xs : List Int) : Int → Prop
  | bad (h : s.check ≠ 0) (h1 : xs = []) : CycR s xs s.check
  | sound (h : s.Ok) (h1 : s.Sound) (h2 : xs = []) : CycR s xs 0
  | chain {st : BS} {x : Arc} {z k : Nat} (h : s.Ok) (h1 : ¬ s.Sound) (h2 : NearR s.n s.arcs st (some x)) (h3 : z = parK st.by_ x.t (s.n + 1)) (h4 : 1 ≤ k) (h5 : k ≤ s.n) (h6 : parK st.by_ z k = z) (h7 : xs = (idxTo st.by_ z k).reverse) : CycR s xs 0
theorem CycR.sound_iff {s : Syst} {xs : List Int} (h : CycR s xs 0) : xs = [] ↔ s.Sound := by
  generalize hz : (0 : Int) = y at h
  cases h with
  | bad h => exact (h hz.symm).elim
  | sound _ h1 h2 => exact ⟨fun _ => h1, fun _ => h2⟩
  | @chain st x z k _ h1 _ _ h4 _ _ h7 => exact ⟨fun h => by
      have := congrArg List.length (h7.symm.trans h)
      rw [List.length_reverse, idxTo_length] at this
      simp at this; omega, fun h => (h1 h).elim⟩
theorem CycR.err {s : Syst} {xs : List Int} {e : Int} (h : CycR s xs e) : e = s.check := by
  cases h with
  | bad => rfl
  | sound h => exact (s.ok_iff.2 h).symm
  | chain h => exact (s.ok_iff.2 h).symm
set_option maxHeartbeats 4000000 in
theorem bound_Cycle_spec {H : Heap} {w : World} {σ : List Ent} {v : Value} {s : Syst} (hs : St H w σ) (hr : RSy H v s) :
    Cl Tryz.prog 153 [v] w fun u w' => ∃ H1 vx xs e, HLe H H1 ∧ u = .tuple #[vx, I e] ∧ RI H1 vx xs ∧ CycR s xs e ∧ St H1 w' σ := by
  obtain ⟨u, rfl, hr⟩ := hr
  obtain ⟨al, cl, rfl⟩ := RL.shape hr
  refine Cl.of Tryz.func153 rfl Tryz.ntmps153 (by simp) (args_cons (k := 0) rfl (args0)) ?_
  refine .regSeq ?_
  refine .o (.box hs rfl rfl ?_); intro b1 w hs
  refine .z zg (.z zg (.nil (.seq (.regSeq (.y hs (zls [_, _] Tryz.isAgg24 Tryz.sizeOf24) ?_)))))
  refine .o (.call Tryz.call113 rfl (bound_Check_spec (s := s) hs ⟨_, rfl, hr⟩) ?_); rintro _ w ⟨rfl, hs⟩
  refine .z zg (.nil (.regSeq (.z zm (.z zneq (.nil ?_)))))
  refine (.condN rfl (fun hc14 => ?_) (fun hc14 => ?_))
  · refine .regSeq (.z zm (.z zg (.z zg (.nil ?_))))
    refine .ret (rT (Fin.ret2 Tryz.results153 rfl rfl ?_))
    exact ⟨H, _, [], _, HLe.refl H, rfl, RS.nil H 1 none 0, .bad hc14 rfl, hs.out⟩
  · refine .skip ?_
    refine nT ?_
    refine .seq (.draw mix rfl hs ?_); intro w hs
    refine .z 0 rfl (zfa fa_api_System_0) ?_; refine .y 1 rfl hs Tryz.isAgg3 ?_; refine .ys 2 rfl hs [_, _] Tryz.isAgg24 Tryz.sizeOf24 ?_
    refine .e1 (i := 3) (by kernel_rfl) rfl rfl .none hs ?_
    have hok : s.Ok := s.ok_iff.1 (by simpa using hc14)
    have hoka := hok.arcs
    have hn : s.n = s.many.toNat + 1 := rfl
    have hm0 := hok.m0
    have hm1 := hok.m1
    refine .call Tryz.call172 rfl (bound_steps_spec (s := s) hs hok ⟨_, rfl, hr⟩) ?_; rintro _ w ⟨H1, b10, hle1, rfl, hit, hs⟩
    refine .go ?_
    refine .e1 (i := 4) (by kernel_rfl) rfl rfl .none hs ?_
    have hnear := bound_nearest_spec (N := s.many.toNat) hs (by omega) (by rw [← hn]; exact hoka) hit Tryz.call196
    rw [Int.toNat_of_nonneg hm0] at hnear
    refine .call Tryz.call171 rfl hnear ?_; rintro _ w ⟨H2, bc, bb, st, ov, vo, hle2, rfl, hov, hnr, hs⟩
    obtain ⟨a', rfl, ha'⟩ := hov.ptr
    refine .go ?_
    refine .z 5 rfl zm ?_; refine .z 6 rfl zex ?_; refine .z 7 rfl zex ?_; refine .z 8 rfl zex ?_; refine .z 9 rfl zg ?_; refine .z 10 rfl zg ?_; refine .z 11 rfl zg ?_; refine .done (by kernel_rfl) hs ?_
    refine .seq (.regSeq (.z zm ?_))
    refine .q hs (q_eqPN rfl rfl Tryz.runUnderlying189) ?_
    refine .nil ?_
    refine (.cond rfl (fun hc26 => ?_) (fun hc26 => ?_))
    · refine .regSeq (.z zg (.z zg (.nil ?_)))
      refine .ret (rT (Fin.ret2 Tryz.results153 rfl rfl ?_))
      exact ⟨H2, _, [], 0, hle1.trans hle2, rfl, RS.nil H2 1 none 0, .sound hok (by
        obtain ⟨r, hN2, hr2⟩ := hnr
        cases ov with
        | none => exact ⟨_, (hN2.sol (by rw [← hn]; exact hoka) (by omega)).1⟩
        | some x => rw [ha'] at hc26; cases hc26) rfl, hs.out⟩
    · refine .skip ?_
      refine nT ?_
      refine .regSeq (.z zm ?_)
      obtain ⟨x, rfl⟩ := OvR.yes ha' hc26
      obtain ⟨b3, e3, hrow⟩ := hov
      cases e3
      have hrowT : cellAt H2 b3 1 = some (I x.t) := hrow.at 1
      have hmn : s.many + 2 = ((s.many.toNat + 2 : Nat) : Int) := by omega
      have hns : ¬ s.Sound := by
        obtain ⟨r, hN2, hr2⟩ := hnr
        exact hN2.none (by rw [← hn]; exact hoka) (by omega) (by have := hr2 (by simp); omega)
      obtain ⟨hlb, hrg, hxt⟩ : st.by_.length = s.many.toNat + 1 ∧ (∀ v < s.many.toNat + 1, (ga st.by_ v).f < s.many.toNat + 1) ∧ x.t < s.many.toNat + 1 := by
        obtain ⟨r, hN2, hr2⟩ := hnr
        exact ⟨hN2.lb, fun v hv => (hN2.rg v hv).1, (hoka.2 x (hN2.ovm x rfl)).2.1⟩
      have hpl := fun k => parK_lt hrg hxt k
      refine .z znc (.z (zfa fa_bound_step_1) ?_)
      refine .q hs (q_loadR rfl Tryz.isAgg3 hrowT) ?_
      refine .z zg (.nil (.seq (.regSeq (.z (zfa fa_api_System_0) (.y hs (zld Tryz.isAgg3) (.z zadd ?_))))))
      rw [hmn]
      refine .z zm (.nil ?_)
      refine .for (N := s.many.toNat + 2) (J := fun k fr w => fr = [(8, I (parK st.by_ x.t k)), (6, .slice (some ⟨bb, 0, none⟩) (s.many.toNat + 1) (s.many.toNat + 1))] ∧ St H2 w (.blk bc (Is st.cost) :: .blk bb (Arcs st.by_) :: .blk b1 [I s.many, .slice al s.lims.length cl] :: σ)) (by omega) ?_ ?_ ?_
      · exact .mk ⟨rfl, hs⟩
      · rintro k fr w hk ⟨rfl, hs⟩
        refine .block (.region (.z zm (.z zm ?_)))
        refine .q hs (q_ixOm (k := parK st.by_ x.t k) rfl rfl Tryz.runUnderlying188 Tryz.sizeOf197 rfl (hpl k)) ?_
        refine .z (zfa fa_bound_step_0) ?_
        refine .q hs (q_load rfl Tryz.isAgg3 (.there .here) (Arcs_get (j := 0) (by rw [hlb]; exact hpl k) (by decide))) ?_
        refine .z zg (.nil ?_)
        refine nB (nT ?_)
        exact .mk ⟨rfl, hs.out⟩
      · rintro fr w ⟨rfl, hs⟩
        obtain ⟨pd, hp1, hp2, hp3⟩ := parK_round hrg hxt (m := s.many.toNat + 2) (by omega)
        have hzl := hpl (s.many.toNat + 2)
        generalize hz : parK st.by_ x.t (s.many.toNat + 2) = z at hp3 hzl ⊢
        have hzk := fun k => parK_lt hrg hzl k
        refine nT ?_
        refine .regSeq (.z zg (.nil (.seq (.regSeq (.z zm (.z zg (.nil (.block ?_))))))))
        refine .loop (fun p : Nat × Value => ⟨62, [], [(9, p.2), (8, I (parK st.by_ z p.1)), (10, I z), (6, .slice (some ⟨bb, 0, none⟩) (s.many.toNat + 1) (s.many.toNat + 1))]⟩)
          (fun p w => p.1 < pd ∧ ∃ en, OwnS 1 p.2 (Is (idxTo st.by_ z p.1)) en ∧ St H2 w (en :: .blk bc (Is st.cost) :: .blk bb (Arcs st.by_) :: .blk b1 [I s.many, .slice al s.lims.length cl] :: σ))
          (fun p => pd - p.1) (0, .slice none 0 0) (by repeat (first | exact .nil rfl rfl | refine .cons rfl ?_))
          ⟨by omega, _, .nil 1 none, hs.nul⟩ ?_
        rintro ⟨k, v9⟩ w ⟨hk, en, hO, hs⟩
        dsimp only at hk hO ⊢
        refine .block (.regSeq (.z zm (.z zm (.z zm ?_))))
        refine .q hs (q_ixOm (k := parK st.by_ z k) rfl rfl Tryz.runUnderlying188 Tryz.sizeOf197 rfl (hzk k)) ?_
        refine .z (zfa fa_bound_step_3) ?_
        refine .q hs (q_load rfl Tryz.isAgg3 (.there (.there .here)) (Arcs_get (j := 3) (by rw [hlb]; exact hzk k) (by decide))) ?_
        refine .o (.buildSlice (cells := [_]) hs bls_sl_int_1 rfl rfl ?_); intro b49 w hs
        refine .o (.append (ys := [I (ga st.by_ (parK st.by_ z k)).l]) hs app_sl_int_int rfl rfl hO (.own .here rfl rfl) (by simp [Value.oneCell']) (fun l' h => by simp [idxTo] at h; omega) ?_); intro v50 en50 w hO2 hs
        refine .z zg (.nil (.regSeq (.z zm (.z zm ?_))))
        refine .q hs (q_ixOm (k := parK st.by_ z k) rfl rfl Tryz.runUnderlying188 Tryz.sizeOf197 rfl (hzk k)) ?_
        refine .z (zfa fa_bound_step_0) ?_
        refine .q hs (q_load rfl Tryz.isAgg3 (by repeat (first | exact .here | refine .there ?_)) (Arcs_get (j := 0) (by rw [hlb]; exact hzk k) (by decide))) ?_
        refine .z zg (.nil (.regSeq (.z zm (.z zm (.z zeql (.nil ?_))))))
        refine (.condD rfl (fun hc58 => ?_) (fun hc58 => ?_))
        · refine .exit ?_
          refine xN (xT (xB (nT ?_)))
          refine .regSeq (.z zm ?_)
          have hO3 : OwnS 1 v50 (Is (idxTo st.by_ z (k + 1))) en50 := by rw [idxTo_succ]; simpa [Is] using hO2
          have hkz : parK st.by_ z (k + 1) = z := by
            have h3 : ((ga st.by_ (parK st.by_ z k)).f : Int) = z := by simpa using hc58
            show (ga st.by_ (parK st.by_ z k)).f = z
            omega
          refine .o (.call Tryz.call190 rfl (slices_Reverse_int hs hO3 (by rw [idxTo_length]; omega)) ?_); rintro _ w ⟨en', hO4, hs⟩
          refine .nil (.regSeq (.z zm (.z zg (.z zg (.nil ?_)))))
          refine .ret (Fin.ret2 Tryz.results153 rfl rfl ?_)
          obtain ⟨H3, hle3, hRI, hs⟩ := OwnS.publishI hO4 (by rw [List.length_reverse, idxTo_length]; omega) hs .here
          exact ⟨H3, _, _, 0, hle1.trans (hle2.trans hle3), rfl, hRI, .chain hok hns (by rw [hn]; exact hnr) (by rw [hn]; exact hz.symm) (by omega) (by omega) hkz rfl, hs.sub (by repeat (first | exact Sub.refl _ | constructor | apply Sub.weaken))⟩
        · refine .skip ?_
          refine nB (nT ?_)
          exact ⟨(k + 1, v50), by repeat (first | exact .nil rfl rfl | refine .cons rfl ?_), ⟨by
            dsimp only
            have : k + 1 ≠ pd := fun e => hc58 (congrArg (Nat.cast : Nat → Int) (show parK st.by_ z (k + 1) = z by rw [e]; exact hp3))
            omega, en50, by rw [idxTo_succ]; simpa [Is] using hO2, hs.sub (by repeat (first | exact Sub.refl _ | constructor | apply Sub.weaken))⟩, by dsimp only; omega⟩
end Go.Proofs.YtiiokdeehlfeeaaGreat

namespace Go.Proofs.YtiiokdeehlfeeaaGreat
open Go.MW
def ROut (H : Heap) (v : Value) (vs : List Int) : Prop := ∃ u, v = .agg #[u] ∧ RI H u vs
theorem ROut.mono {H H' : Heap} {v : Value} {vs : List Int} (h : ROut H v vs) (hl : HLe H H') : ROut H' v vs := by
  obtain ⟨u, h1, h2⟩ := h; exact ⟨u, h1, h2.mono hl⟩
set_option maxHeartbeats 8000000 in
theorem probe_behind_spec {H : Heap} {w : World} {σ : List Ent} {v vl vo : Value} {a : Quest} {l : List Prb} {vs : List Int} (hs : St H w σ) (hr : RAsk H v a) (hp : RPs H vl l) (ho : ROut H vo vs) (hok : AskOk a) (hlen : l.length ≤ 8) (hin : ∀ p ∈ l, PrbOk a p) (hvl : vs.length = l.length) :
    Cl Tryz.prog 78 [v, vl, vo] w fun u w' => ∃ H1 vq S b, HLe H H1 ∧ u = .tuple #[.agg #[I S.many, vq], .bool b] ∧ RL H1 vq S.lims ∧ (b = true ↔ (behS a l vs).Sound) ∧ (b = true → S = behS a l vs) ∧ St H1 w' σ := by
  obtain ⟨ul, uw, rfl, hl, hw⟩ := hr
  obtain ⟨al, cl, rfl⟩ := RL.shape hl
  obtain ⟨aw, cw, rfl⟩ := RI.shape hw
  obtain ⟨ap, cp, rfl⟩ := RPs.shape hp
  obtain ⟨uo, rfl, hvs⟩ := ho
  obtain ⟨ao, co, rfl⟩ := RI.shape hvs
  have hm1 := hok.many
  have hll := hok.lims
  refine Cl.of Tryz.func78 rfl Tryz.ntmps78 (by simp) (args_cons (k := 0) rfl (args_cons (k := 1) rfl (args_cons (k := 2) rfl (args0)))) ?_
  refine .regSeq ?_
  refine .o (.box hs rfl rfl ?_); intro b3 w hs
  refine .o (.box hs rfl rfl ?_); intro b5 w hs
  refine .o (.alloc hs Tryz.zeroValue24 rfl ?_); intro b6 w hs
  refine .z zg (.nil ?_)
  refine .cut (fun fs w => ∃ b8 vq en, FSub fs ⟨99, [], [(8, .pointer (some ⟨b8, 0, none⟩)), (7, .bool false), (6, .pointer (some ⟨b6, 0, none⟩)), (5, .pointer (some ⟨b5, 0, none⟩)), (3, .pointer (some ⟨b3, 0, none⟩)), (1, .slice ap l.length cp)]⟩ ∧ OwnS 4 vq (Lims a.sys.lims) en ∧ St H w (.blk b8 [I a.sys.many, vq] :: en :: .blk b6 [I 0, .slice none 0 0] :: .blk b5 [.slice ao vs.length co] :: .blk b3 [I a.sys.many, .slice al a.sys.lims.length cl, .slice aw a.ws.length cw, I a.width] :: σ)) ?_ ?_
  · refine .draw mix rfl hs ?_; intro w hs
    refine .z 0 rfl (zfa fa_api_Ask_0) ?_; refine .z 1 rfl (zfa fa_api_System_0) ?_; refine .y 2 rfl hs Tryz.isAgg3 ?_; refine .z 3 rfl (zfa fa_api_Ask_0) ?_; refine .z 4 rfl (zfa fa_api_System_1) ?_; refine .y 5 rfl hs Tryz.isAgg22 ?_
    refine .e2 (i := 6) (j := 8) (by kernel_rfl) rfl rfl rfl rfl .none .none hs ?_ ?_
    · refine .call Tryz.call152 rfl (slices_Clone_Lim hs hl (by omega)) ?_; rintro v23 w ⟨en23, hO23, hs⟩
      obtain ⟨a23, l23, c23, rfl, h23⟩ := hO23.shape
      refine .go ?_
      refine .z 7 rfl (zbd [_, _] bld_api_System) ?_
      refine .e1 (i := 8) (by kernel_rfl) rfl rfl .none hs ?_
      refine .alloc hs Tryz.zeroValue24 rfl ?_; intro b8 w hs
      refine .go ?_
      refine .e1 (i := 9) (by kernel_rfl) rfl rfl .none hs ?_
      refine .stores (vs := [_, _]) hs rfl rfl Tryz.sizeOf24 ?_; intro w hs
      refine .go ?_
      refine .done (by kernel_rfl) hs ?_
      exact nT ⟨_, _, _, by repeat (first | exact .nil rfl rfl | refine .cons rfl ?_), hO23, hs.sub (by repeat (first | exact Sub.refl _ | constructor | apply Sub.weaken))⟩
    · refine .alloc hs Tryz.zeroValue24 rfl ?_; intro b8 w hs
      refine .go ?_
      refine .e1 (i := 6) (by kernel_rfl) rfl rfl .none hs ?_
      refine .call Tryz.call152 rfl (slices_Clone_Lim hs hl (by omega)) ?_; rintro v23 w ⟨en23, hO23, hs⟩
      obtain ⟨a23, l23, c23, rfl, h23⟩ := hO23.shape
      refine .go ?_
      refine .z 7 rfl (zbd [_, _] bld_api_System) ?_
      refine .e1 (i := 9) (by kernel_rfl) rfl rfl .none hs ?_
      refine .stores (vs := [_, _]) hs rfl rfl Tryz.sizeOf24 ?_; intro w hs
      refine .go ?_
      refine .done (by kernel_rfl) hs ?_
      exact nT ⟨_, _, _, by repeat (first | exact .nil rfl rfl | refine .cons rfl ?_), hO23, hs.sub (by repeat (first | exact Sub.refl _ | constructor | apply Sub.weaken))⟩
  · rintro fs w ⟨b8, vq0, en0, hfs, hO0, hs⟩
    refine WE.sub ?_ hfs
    refine .seq (.regSeq (.z zm (.z (zlen Tryz.runUnderlying28) (.z zm (.nil ?_)))))
    refine .for (N := l.length) (J := fun k fr w => fr = [(25, .slice ap l.length cp), (8, .pointer (some ⟨b8, 0, none⟩)), (6, .pointer (some ⟨b6, 0, none⟩)), (5, .pointer (some ⟨b5, 0, none⟩)), (3, .pointer (some ⟨b3, 0, none⟩))] ∧   ∃ Hk vq en, HLe H Hk ∧ (∀ i < k, -20000 - (getP l i).t ≤ gi vs i ∧ gi vs i ≤ 20000 + (getP l i).t) ∧ OwnS 4 vq (Lims (a.sys.lims ++ tellTo l vs k)) en ∧   St Hk w (.blk b8 [I a.sys.many, vq] :: en :: .blk b6 [I 0, .slice none 0 0] :: .blk b5 [.slice ao vs.length co] :: .blk b3 [I a.sys.many, .slice al a.sys.lims.length cl, .slice aw a.ws.length cw, I a.width] :: σ)) (by omega) ?_ ?_ ?_
    · exact .mk ⟨rfl, H, vq0, en0, HLe.refl H, fun i hi => by omega, by simpa [tellTo] using hO0, hs⟩
    · rintro k fr w hk ⟨rfl, Hk, vq, en, hlek, hnear, hO, hs⟩
      obtain ⟨avq, lvq, cvq, rfl, hlvq⟩ := hO.shape
      have hx := getP_get hk
      obtain ⟨⟨x1, x2⟩, ⟨x3, x4⟩, lo, hi, hR0, x5, x6⟩ := hin _ (getP_mem hk)
      have hbd := hR0.bd
      refine .block (.regSeq (.z zm ?_))
      refine .ixX (enc := Prb.c) hs (hp.mono hlek) rfl rfl Tryz.runUnderlying28 Tryz.sizeOf54 hx rfl ?_; intro b30 o30 hc30
      refine .q hs (q_loadsR (vs := (getP l k).c) rfl Tryz.isAgg54 Tryz.sizeOf54 hc30) ?_
      refine .o (.alloc hs Tryz.zeroValue54 rfl ?_); intro b10 w hs
      refine .z zg ?_
      refine .o (.stores (vs := (getP l k).c) hs rfl rfl Tryz.sizeOf54 ?_); intro w hs
      refine .nil ?_
      refine .seq (.draw mix rfl hs ?_); intro w hs
      refine .z 0 rfl (zfa fa_api_Ask_0) ?_; refine .ys 1 rfl hs [_, _] Tryz.isAgg24 Tryz.sizeOf24 ?_; refine .ys 2 rfl hs [_, _, _, _] Tryz.isAgg27 Tryz.sizeOf27 ?_; refine .z 3 rfl (zfa fa_api_Probe_0) ?_; refine .y 4 rfl hs Tryz.isAgg3 ?_
      refine .e1 (i := 5) (by kernel_rfl) rfl rfl .none hs ?_
      refine .call Tryz.call74 rfl (probe_one_spec (a := a) (u := (getP l k).u) hs ⟨_, _, rfl, hl.mono hlek, hw.mono hlek⟩ (by omega) (by omega)) ?_; rintro v38 w ⟨H2, hle2, hR1, hs⟩
      obtain ⟨a38, c38, rfl⟩ := RI.shape hR1
      have hlek2 := hlek.trans hle2
      refine .go ?_
      refine .e1 (i := 6) (by kernel_rfl) rfl rfl .none hs ?_
      refine .call Tryz.call73 rfl (bound_Range_spec (s := a.sys) hs ⟨_, rfl, hl.mono hlek2⟩ hR1) ?_; rintro _ w ⟨H3, lo3, hi3, e3, hle3, rfl, hR3, hs⟩
      obtain ⟨rfl, rfl, rfl⟩ := hR3.uniq hR0
      have hlek3 := hlek2.trans hle3
      refine .go ?_
      refine .z 7 rfl zm ?_; refine .z 8 rfl zex ?_; refine .z 9 rfl zex ?_; refine .z 10 rfl zex ?_; refine .z 11 rfl zg ?_; refine .z 12 rfl zg ?_; refine .z 13 rfl zg ?_; refine .done (by kernel_rfl) hs ?_
      refine .regSeq (.z (zfa fa_api_Outcome_0) (.y hs (zld Tryz.isAgg25) (.z zm ?_)))
      refine .ixX (enc := fun x => [I x]) hs (hvs.mono hlek3) rfl rfl Tryz.runUnderlying25 Tryz.sizeOf3 (gi_get (l := vs) (i := k) (by omega)) rfl ?_; intro b46 o46 hc46; replace hc46 := CellsAt.one hc46
      refine .q hs (q_loadR rfl Tryz.isAgg3 hc46) ?_
      refine .z zg (.nil (.seq (.regSeq (.z zm (.z zm (.z (zfa fa_api_Probe_1) (.y hs (zld Tryz.isAgg3) (.z zsub (.z zm ?_)))))))))
      refine .z (zfa fa_api_Probe_1) (.y hs (zld Tryz.isAgg3) (.z zadd ?_))
      refine .o (.call Tryz.call52 rfl (probe_isWithin_spec hs) ?_); rintro _ w ⟨rfl, hs⟩
      refine .z znot (.nil ?_)
      refine (.cond rfl (fun hc58 => ?_) (fun hc58 => ?_))
      · refine .regSeq (.z (zbd [_, _] bld_api_System) ?_)
        refine .o (.stores (vs := [_, _]) hs rfl rfl Tryz.sizeOf24 ?_); intro w hs
        refine .z zg (.nil ?_)
        refine .ret (rT (rB (rT (rB (rT (?_))))))
        have hno : ¬ (behS a l vs).Sound := fun h => by
          have h9 := beh_far hin hk hR0 h
          have h8 := hc58
          rw [decide_eq_true h9] at h8
          first | cases h8 | simp at h8
        exact Fin.retD [] [] hs fun w hs => ⟨_, results2 Tryz.results78 (rcells (vs := [_, _]) hs rfl Tryz.isAgg24 Tryz.sizeOf24) rfl, H3, _, ⟨0, []⟩, false, hlek3, rfl, RS.nil H3 4 none 0, ⟨fun h => (by cases h), fun h => (hno h).elim⟩, fun h => (by cases h), hs.out⟩
      · refine .skip ?_
        refine nT ?_
        refine .region ?_
        have hv := of_decide_eq_true (show decide (lo3 - (getP l k).t ≤ gi vs k ∧ gi vs k ≤ hi3 + (getP l k).t) = true by simpa using hc58)
        refine .z (zfa fa_api_System_1) (.y hs (zld Tryz.isAgg22) (.z (zfa fa_api_Probe_0) (.y hs (zld Tryz.isAgg3) (.z zm (.z (zfa fa_api_Probe_1) (.y hs (zld Tryz.isAgg3) (.z zadd (.z zmin (.z zm ?_)))))))))
        refine .z zadd (.z (zbd [_, _, _, _] bld_api_Limit) (.z (zfa fa_api_Probe_0) (.y hs (zld Tryz.isAgg3) (.z (zfa fa_api_Probe_1) (.y hs (zld Tryz.isAgg3) (.z zm (.z zsub (.z zmin (.z zm ?_)))))))))
        refine .z zadd (.z (zbd [_, _, _, _] bld_api_Limit) ?_)
        refine .o (.buildSlice (cells := Lims (tellL k (getP l k) (gi vs k))) hs bls_sl_api_Limit_2 rfl (by kernel_rfl) ?_); intro b82 w hs
        refine .o (.append (ys := Lims (tellL k (getP l k) (gi vs k))) hs app_sl_api_Limit_api_Limit rfl rfl hO (.own .here rfl rfl) (Lims_cell _) (fun l' h => by rw [Lims_length] at h; simp [tellTo_length] at h; omega) ?_); intro v83 en83 w hO2 hs
        obtain ⟨a83, l83, c83, rfl, h83⟩ := hO2.shape
        refine .z (zfa fa_api_System_1) ?_
        refine .o (.store hs rfl rfl Tryz.sizeOf22 ?_); intro w hs
        refine .nil ?_
        refine nB (nT ?_)
        rw [← Lims_append, List.append_assoc] at hO2
        exact .mk ⟨rfl, H3, _, _, hlek3, fun i hi => by
          by_cases e : i = k
          · subst e; omega
          · exact hnear i (by omega), hO2, hs.sub (by repeat (first | exact Sub.refl _ | constructor | apply Sub.weaken))⟩
    · rintro fr w ⟨rfl, Hk, vq, en, hlek, hnear, hO, hs⟩
      have hbo : (behS a l vs).Ok := behS_ok hok hlen (fun p h => (hin p h).inn) hnear
      have hbl := hbo.len
      obtain ⟨H2, hle2, hRL, hs⟩ := OwnS.publish (m := 4) (cs := (behS a l vs).lims.map Lim.c) hO (fun c hc => by simp only [List.mem_map] at hc; obtain ⟨x, _, rfl⟩ := hc; rfl) (by omega) (by rw [List.length_map]; omega) hs (by repeat constructor)
      obtain ⟨avq, cvq, rfl⟩ := RL.shape hRL
      refine nT ?_
      refine .regSeq (.y hs (zls [_, _] Tryz.isAgg24 Tryz.sizeOf24) ?_)
      refine .o (.call Tryz.call153 rfl (bound_Cycle_spec (s := behS a l vs) hs ⟨_, rfl, hRL⟩) ?_); rintro _ w ⟨H3, vx, xs, e, hle3, rfl, hRx, hCy, hs⟩
      obtain ⟨ax, cx, rfl⟩ := RI.shape hRx
      obtain rfl : e = 0 := by rw [hCy.err]; exact (behS a l vs).ok_iff.2 hbo
      have hiff := hCy.sound_iff
      refine .z zm (.z zex (.z zex (.z zg (.z zg (.nil (.regSeq (.y hs (zls [_, _] Tryz.isAgg24 Tryz.sizeOf24) (.z zm (.z zeql ?_)))))))))
      refine .z zm ?_
      refine .bifD (t' := 94) rfl (fun hb94 => ?_) (fun hb94 => ?_)
      · refine .gT rfl rfl ?_
        refine .z zm ?_
        refine .gT rfl rfl ?_
        refine .z (zlen Tryz.runUnderlying25) ?_
        refine .gT rfl rfl ?_
        refine .z zeql (.z zpT ?_)
        refine .o (.stores (vs := [_, _]) hs rfl rfl Tryz.sizeOf24 ?_); intro w hs
        refine .z zg (.nil ?_)
        refine .ret ?_
        exact Fin.retD [] [] hs fun w hs => ⟨_, results2 Tryz.results78 (rcells (vs := [_, _]) hs rfl Tryz.isAgg24 Tryz.sizeOf24) rfl, H3, _, behS a l vs, _, hlek.trans (hle2.trans hle3), rfl, RS.mono hRL hle3,
          ⟨fun h => hiff.1 (List.length_eq_zero_iff.1 (by have := of_decide_eq_true h; omega)), fun h => decide_eq_true (by rw [hiff.2 h]; rfl)⟩, fun _ => rfl, hs.out⟩
      · refine .gFs 3 3 true rfl rfl rfl ?_
        refine .z zpF ?_
        refine .o (.stores (vs := [_, _]) hs rfl rfl Tryz.sizeOf24 ?_); intro w hs
        refine .z zg (.nil ?_)
        refine .ret ?_
        simp at hb94
end Go.Proofs.YtiiokdeehlfeeaaGreat

namespace Go.Proofs.YtiiokdeehlfeeaaGreat
open Go.MW
inductive COutR (a : Quest) (l : List Prb) (vs : List Int) : Int → Prop
  | ask {e : Int} (h : CPrbR a l e) (he : e ≠ 0) : COutR a l vs e
  | size (h : CPrbR a l 0) (h1 : vs.length ≠ l.length) : COutR a l vs 92
  | ok (h : CPrbR a l 0) (h1 : vs.length = l.length) : COutR a l vs 0
theorem COutR.zero {a : Quest} {l : List Prb} {vs : List Int} (h : COutR a l vs 0) : CPrbR a l 0 ∧ vs.length = l.length := by
  generalize hz : (0 : Int) = y at h
  cases h with
  | ask _ he => exact (he hz.symm).elim
  | size => omega
  | ok h h1 => exact ⟨h, h1⟩
theorem COutR.uniq {a : Quest} {l : List Prb} {vs : List Int} {e f : Int} (h : COutR a l vs e) (g : COutR a l vs f) : e = f := by
  cases h with
  | ask h he =>
    cases g with
    | ask g _ => exact h.uniq g
    | size g _ => exact (he (h.uniq g)).elim
    | ok g _ => exact (he (h.uniq g)).elim
  | size h h1 =>
    cases g with
    | ask g ge => exact (ge (g.uniq h)).elim
    | size => rfl
    | ok _ g1 => exact (h1 g1).elim
  | ok h h1 =>
    cases g with
    | ask g ge => exact (ge (g.uniq h)).elim
    | size _ g1 => exact (g1 h1).elim
    | ok => rfl
inductive PossR (a : Quest) (l : List Prb) (vs : List Int) : Bool → Int → Prop
  | bad {e : Int} (h : COutR a l vs e) (he : e ≠ 0) : PossR a l vs false e
  | ok {b : Bool} (h : COutR a l vs 0) (h1 : b = true ↔ (behS a l vs).Sound) : PossR a l vs b 0
inductive AfterR (a : Quest) (l : List Prb) (vs : List Int) : Quest → Int → Prop
  | bad {e : Int} (h : COutR a l vs e) (he : e ≠ 0) : AfterR a l vs ⟨⟨0, []⟩, [], 0⟩ e
  | none (h : COutR a l vs 0) (h1 : ¬ (behS a l vs).Sound) : AfterR a l vs ⟨⟨0, []⟩, [], 0⟩ 92
  | long (h : COutR a l vs 0) (h1 : (behS a l vs).Sound) (h2 : 150 < (behS a l vs).lims.length) : AfterR a l vs ⟨⟨0, []⟩, [], 0⟩ 2
  | ok (h : COutR a l vs 0) (h1 : (behS a l vs).Sound) (h2 : ¬ 150 < (behS a l vs).lims.length) : AfterR a l vs (behQ a l vs) 0
theorem probe_checkOutcome_spec {H : Heap} {w : World} {σ : List Ent} {v vl vo : Value} {a : Quest} {l : List Prb} {vs : List Int} (hs : St H w σ) (hr : RAsk H v a) (hp : RPs H vl l) (ho : ROut H vo vs) :
    Cl Tryz.prog 77 [v, vl, vo] w fun u w' => ∃ H1 e, HLe H H1 ∧ u = I e ∧ COutR a l vs e ∧ St H1 w' σ := by
  obtain ⟨ul, uw, rfl, hl, hw⟩ := hr
  obtain ⟨ap, cp, rfl⟩ := RPs.shape hp
  obtain ⟨uo, rfl, hvs⟩ := ho
  obtain ⟨ao, co, rfl⟩ := RI.shape hvs
  refine Cl.of Tryz.func77 rfl Tryz.ntmps77 (by simp) (args_cons (k := 0) rfl (args_cons (k := 1) rfl (args_cons (k := 2) rfl (args0)))) ?_
  refine .regSeq ?_
  refine .o (.box hs rfl rfl ?_); intro b3 w hs
  refine .o (.box hs rfl rfl ?_); intro b5 w hs
  refine .z zg (.nil (.seq (.regSeq (.y hs (zls [_, _, _, _] Tryz.isAgg27 Tryz.sizeOf27) (.z zm ?_)))))
  refine .o (.call Tryz.call141 rfl (probe_CheckProbes_spec (a := a) hs ⟨_, _, rfl, hl, hw⟩ hp) ?_); rintro _ w ⟨H1, e, hle1, rfl, hC, hs⟩
  refine .z zg (.nil (.regSeq (.z zm (.z zneq (.nil ?_)))))
  refine (.condN rfl (fun hc12 => ?_) (fun hc12 => ?_))
  · refine .regSeq (.z zm (.z zg (.nil ?_)))
    refine .ret (rT (Fin.ret1 Tryz.results77 rfl ?_))
    exact ⟨H1, e, hle1, rfl, .ask hC hc12, hs.out⟩
  · refine .skip ?_
    refine nT ?_
    refine .seq (.regSeq (.z (zfa fa_api_Outcome_0) (.y hs (zld Tryz.isAgg25) ?_)))
    refine .q hs (q_lenR (hvs.mono hle1) rfl Tryz.runUnderlying25) ?_
    refine .z zm ?_
    refine .q hs (q_lenR (RS.mono hp hle1) rfl Tryz.runUnderlying28) ?_
    refine .z zneq (.nil ?_)
    refine (.condN rfl (fun hc19 => ?_) (fun hc19 => ?_))
    · refine .regSeq (.z zg (.nil ?_))
      refine .ret (rT (Fin.ret1 Tryz.results77 rfl ?_))
      exact ⟨H1, 92, hle1, rfl, .size (by rw [hc12] at hC; exact hC) (by have h9 := hc19; simp at h9; omega), hs.out⟩
    · refine .skip ?_
      refine nT ?_
      refine .regSeq (.z zg (.nil ?_))
      refine .ret (Fin.ret1 Tryz.results77 rfl ?_)
      exact ⟨H1, 0, hle1, rfl, .ok (by rw [hc12] at hC; exact hC) (by have h9 := hc19; simp at h9; omega), hs.out⟩
theorem probe_Possible_spec {H : Heap} {w : World} {σ : List Ent} {v vl vo : Value} {a : Quest} {l : List Prb} {vs : List Int} (hs : St H w σ) (hr : RAsk H v a) (hp : RPs H vl l) (ho : ROut H vo vs) :
    Cl Tryz.prog 25 [v, vl, vo] w fun u w' => ∃ H1 b e, HLe H H1 ∧ u = .tuple #[.bool b, I e] ∧ PossR a l vs b e ∧ St H1 w' σ := by
  obtain ⟨ul, uw, rfl, hl, hw⟩ := hr
  obtain ⟨ap, cp, rfl⟩ := RPs.shape hp
  obtain ⟨uo, rfl, hvs⟩ := ho
  obtain ⟨ao, co, rfl⟩ := RI.shape hvs
  refine Cl.of Tryz.func25 rfl Tryz.ntmps25 (by simp) (args_cons (k := 0) rfl (args_cons (k := 1) rfl (args_cons (k := 2) rfl (args0)))) ?_
  refine .regSeq ?_
  refine .o (.box hs rfl rfl ?_); intro b3 w hs
  refine .o (.box hs rfl rfl ?_); intro b5 w hs
  refine .z zg (.z zg (.nil (.seq (.regSeq (.y hs (zls [_, _, _, _] Tryz.isAgg27 Tryz.sizeOf27) (.z zm (.y hs (zls [_] Tryz.isAgg42 Tryz.sizeOf42) ?_)))))))
  refine .o (.call Tryz.call77 rfl (probe_checkOutcome_spec (a := a) (l := l) (vs := vs) hs ⟨_, _, rfl, hl, hw⟩ hp ⟨_, rfl, hvs⟩) ?_); rintro _ w ⟨H1, e, hle1, rfl, hC, hs⟩
  refine .z zg (.nil (.regSeq (.z zm (.z zneq (.nil ?_)))))
  refine (.condN rfl (fun hc16 => ?_) (fun hc16 => ?_))
  · refine .regSeq (.z zm (.z zg (.z zg (.nil ?_))))
    refine .ret (rT (Fin.ret2 Tryz.results25 rfl rfl ?_))
    exact ⟨H1, false, e, hle1, rfl, .bad hC hc16, hs.out⟩
  · refine .skip ?_
    refine nT ?_
    refine .regSeq (.y hs (zls [_, _, _, _] Tryz.isAgg27 Tryz.sizeOf27) (.z zm (.y hs (zls [_] Tryz.isAgg42 Tryz.sizeOf42) ?_)))
    rw [hc16] at hC
    obtain ⟨hC0, hvl⟩ := hC.zero
    obtain ⟨hok, hlen, hin⟩ := hC0.zero
    refine .o (.call Tryz.call78 rfl (probe_behind_spec (a := a) (l := l) (vs := vs) hs ⟨_, _, rfl, hl.mono hle1, hw.mono hle1⟩ (hp.mono hle1) ⟨_, rfl, hvs.mono hle1⟩ hok hlen hin hvl) ?_); rintro _ w ⟨H2, vq, S, b, hle2, rfl, hRS, hb, -, hs⟩
    obtain ⟨aq, cq, rfl⟩ := RL.shape hRS
    refine .z zm (.z zex (.z zex ?_))
    refine .o (.alloc hs Tryz.zeroValue24 rfl ?_); intro b9 w hs
    refine .o (.stores (vs := [_, _]) hs rfl rfl Tryz.sizeOf24 ?_); intro w hs
    refine .z zg (.nil (.regSeq (.z zm (.z zg (.z zg (.nil ?_))))))
    refine .ret (Fin.ret2 Tryz.results25 rfl rfl ?_)
    exact ⟨H2, b, 0, hle1.trans hle2, rfl, .ok hC hb, hs.out⟩
set_option maxHeartbeats 4000000 in
theorem probe_After_spec {H : Heap} {w : World} {σ : List Ent} {v vl vo : Value} {a : Quest} {l : List Prb} {vs : List Int} (hs : St H w σ) (hr : RAsk H v a) (hp : RPs H vl l) (ho : ROut H vo vs) :
    Cl Tryz.prog 27 [v, vl, vo] w fun u w' => ∃ H1 va q e, HLe H H1 ∧ u = .tuple #[va, I e] ∧ RAsk H1 va q ∧ AfterR a l vs q e ∧ St H1 w' σ := by
  obtain ⟨ul, uw, rfl, hl, hw⟩ := hr
  obtain ⟨aw, cw, rfl⟩ := RI.shape hw
  obtain ⟨ap, cp, rfl⟩ := RPs.shape hp
  obtain ⟨uo, rfl, hvs⟩ := ho
  obtain ⟨ao, co, rfl⟩ := RI.shape hvs
  refine Cl.of Tryz.func27 rfl Tryz.ntmps27 (by simp) (args_cons (k := 0) rfl (args_cons (k := 1) rfl (args_cons (k := 2) rfl (args0)))) ?_
  refine .regSeq ?_
  refine .o (.box hs rfl rfl ?_); intro b3 w hs
  refine .o (.box hs rfl rfl ?_); intro b5 w hs
  refine .o (.alloc hs Tryz.zeroValue27 rfl ?_); intro b6 w hs
  refine .z zg (.nil (.seq (.regSeq (.y hs (zls [_, _, _, _] Tryz.isAgg27 Tryz.sizeOf27) (.z zm (.y hs (zls [_] Tryz.isAgg42 Tryz.sizeOf42) ?_))))))
  refine .o (.call Tryz.call77 rfl (probe_checkOutcome_spec (a := a) (l := l) (vs := vs) hs ⟨_, _, rfl, hl, hw⟩ hp ⟨_, rfl, hvs⟩) ?_); rintro _ w ⟨H1, e, hle1, rfl, hC, hs⟩
  refine .z zg (.nil (.regSeq (.z zm (.z zneq (.nil ?_)))))
  refine (.condN rfl (fun hc16 => ?_) (fun hc16 => ?_))
  · refine .regSeq (.z (zbd [_, _, _, _] bld_api_Ask) (.z zm ?_))
    refine .o (.stores (vs := [_, _, _, _]) hs rfl rfl Tryz.sizeOf27 ?_); intro w hs
    refine .z zg (.nil ?_)
    refine .ret (rT (?_))
    exact Fin.retD [] [] hs fun w hs => ⟨_, results2 Tryz.results27 (rcells (vs := [_, _, _, _]) hs rfl Tryz.isAgg27 Tryz.sizeOf27) rfl, H1, _, ⟨⟨0, []⟩, [], 0⟩, e, hle1, rfl, ⟨_, _, rfl, RS.nil H1 4 none 0, RS.nil H1 1 none 0⟩, .bad hC hc16, hs.out⟩
  · refine .skip ?_
    refine nT ?_
    refine .regSeq (.y hs (zls [_, _, _, _] Tryz.isAgg27 Tryz.sizeOf27) (.z zm (.y hs (zls [_] Tryz.isAgg42 Tryz.sizeOf42) ?_)))
    rw [hc16] at hC
    obtain ⟨hC0, hvl⟩ := hC.zero
    obtain ⟨hok, hlen, hin⟩ := hC0.zero
    have hwl := hok.wl
    have hmn := hok.many
    refine .o (.call Tryz.call78 rfl (probe_behind_spec (a := a) (l := l) (vs := vs) hs ⟨_, _, rfl, hl.mono hle1, hw.mono hle1⟩ (hp.mono hle1) ⟨_, rfl, hvs.mono hle1⟩ hok hlen hin hvl) ?_); rintro _ w ⟨H2, vq, S, b, hle2, rfl, hRS, hb, hbS, hs⟩
    obtain ⟨aq, cq, rfl⟩ := RL.shape hRS
    have hle12 := hle1.trans hle2
    refine .z zm (.z zex (.z zex ?_))
    refine .o (.alloc hs Tryz.zeroValue24 rfl ?_); intro b9 w hs
    refine .o (.stores (vs := [_, _]) hs rfl rfl Tryz.sizeOf24 ?_); intro w hs
    refine .z zg (.nil (.seq (.block (.regSeq (.z zm (.z znot (.z zg (.nil ?_))))))))
    refine (.cond rfl (fun hc26 => ?_) (fun hc26 => ?_))
    · refine .regSeq (.z (zbd [_, _, _, _] bld_api_Ask) ?_)
      refine .o (.stores (vs := [_, _, _, _]) hs rfl rfl Tryz.sizeOf27 ?_); intro w hs
      refine .z zg (.nil ?_)
      refine .ret (rB (rT (?_)))
      exact Fin.retD [] [] hs fun w hs => ⟨_, results2 Tryz.results27 (rcells (vs := [_, _, _, _]) hs rfl Tryz.isAgg27 Tryz.sizeOf27) rfl, H2, _, ⟨⟨0, []⟩, [], 0⟩, 92, hle12, rfl, ⟨_, _, rfl, RS.nil H2 4 none 0, RS.nil H2 1 none 0⟩, .none hC (fun h => by simp [hb.2 h] at hc26), hs.out⟩
    · refine .regSeq (.z (zfa fa_api_System_1) (.y hs (zld Tryz.isAgg22) ?_))
      refine .q hs (q_lenR hRS rfl Tryz.runUnderlying22) ?_
      refine .z zgtr (.z zg (.nil ?_))
      refine (.condD rfl (fun hc30 => ?_) (fun hc30 => ?_))
      · refine .regSeq (.z (zbd [_, _, _, _] bld_api_Ask) ?_)
        refine .o (.stores (vs := [_, _, _, _]) hs rfl rfl Tryz.sizeOf27 ?_); intro w hs
        refine .z zg (.nil ?_)
        refine .ret (rB (rT (?_)))
        obtain rfl := hbS (by simpa using hc26)
        exact Fin.retD [] [] hs fun w hs => ⟨_, results2 Tryz.results27 (rcells (vs := [_, _, _, _]) hs rfl Tryz.isAgg27 Tryz.sizeOf27) rfl, H2, _, ⟨⟨0, []⟩, [], 0⟩, 2, hle12, rfl, ⟨_, _, rfl, RS.nil H2 4 none 0, RS.nil H2 1 none 0⟩, .long hC (hb.1 (by simpa using hc26)) (by have h9 := hc30; simp at h9; omega), hs.out⟩
      · refine .skip ?_
        refine nB (nT ?_)
        refine .seq (.draw mix rfl hs ?_); intro w hs
        refine .ys 0 rfl hs [_, _] Tryz.isAgg24 Tryz.sizeOf24 ?_; refine .z 1 rfl (zfa fa_api_Ask_1) ?_; refine .y 2 rfl hs Tryz.isAgg25 ?_; refine .z 4 rfl (zfa fa_api_Ask_2) ?_; refine .y 5 rfl hs Tryz.isAgg3 ?_
        refine .e1 (i := 3) (by kernel_rfl) rfl rfl .none hs ?_
        refine .call Tryz.call81 rfl (slices_Clone_int hs (hw.mono hle12) (by rw [hwl]; simp only [Syst.n]; omega)) ?_; rintro v39 w ⟨en39, hO39, hs⟩
        obtain ⟨H3, hle3, hRW, hs⟩ := OwnS.publishI hO39 (by rw [hwl]; simp only [Syst.n]; omega) hs .here
        obtain ⟨aw9, cw9, rfl⟩ := RI.shape hRW
        refine .go ?_
        refine .z 6 rfl (zbd [_, _, _, _] bld_api_Ask) ?_
        refine .e1 (i := 7) (by kernel_rfl) rfl rfl .none hs ?_
        refine .stores (vs := [_, _, _, _]) hs rfl rfl Tryz.sizeOf27 ?_; intro w hs
        refine .go ?_
        refine .z 8 rfl zg ?_; refine .done (by kernel_rfl) hs ?_
        refine .ret ?_
        obtain rfl := hbS (by simpa using hc26)
        exact Fin.retD [] [] hs fun w hs => ⟨_, results2 Tryz.results27 (rcells (vs := [_, _, _, _]) hs rfl Tryz.isAgg27 Tryz.sizeOf27) rfl, H3, _, behQ a l vs, 0, hle12.trans hle3, rfl, ⟨_, _, rfl, RL.mono hRS hle3, hRW⟩, .ok hC (hb.1 (by simpa using hc26)) (by have h9 := hc30; simp at h9; omega), hs.out⟩
end Go.Proofs.YtiiokdeehlfeeaaGreat

namespace Go.Proofs.YtiiokdeehlfeeaaGreat
open Go.MW
structure KeepsP (s : Syst) (x : List Int) : Prop where
  len : x.length = s.n
  zero : gi x 0 = 0
  free : ∀ v < s.n, -1000000000 ≤ gi x v ∧ gi x v ≤ 1000000000
  feas : Feas s.arcs (gi x)
theorem ref02_Close_spec {H : Heap} {w : World} {σ : List Ent} {v : Value} {s : Syst} (hs : St H w σ) (hr : RSy H v s) :
    Cl Tryz.prog 124 [v] w fun u w' => ∃ H1 vt e, HLe H H1 ∧ u = .tuple #[vt, I e] ∧ ((s.check ≠ 0 ∧ e = s.check ∧ vt = .slice none 0 0) ∨ (s.Ok ∧ ¬ s.Sound ∧ e = 23 ∧ vt = .slice none 0 0) ∨ (s.Ok ∧ s.Sound ∧ e = 0 ∧ ∃ rs, RT H1 vt rs ∧ Sq s.n rs ∧ WaysT s.n s.arcs (gt rs))) ∧ St H1 w' σ := by
  obtain ⟨ul, rfl, hl⟩ := hr
  obtain ⟨al, cl, rfl⟩ := RL.shape hl
  refine Cl.of Tryz.func124 rfl Tryz.ntmps124 (by simp) (args_cons (k := 0) rfl (args0)) ?_
  refine .regSeq ?_
  refine .o (.box hs rfl rfl ?_); intro b1 w hs
  refine .z zg (.z zg (.nil (.regSeq (.y hs (zls [_, _] Tryz.isAgg24 Tryz.sizeOf24) ?_))))
  refine .o (.call Tryz.call117 rfl (ref02_Check_spec (s := s) hs ⟨_, rfl, hl⟩) ?_); rintro _ w ⟨rfl, hs⟩
  refine .z zg (.nil (.seq (.regSeq (.z zm (.z zneq (.nil ?_))))))
  refine (.condN rfl (fun hc9 => ?_) (fun hc9 => ?_))
  · refine .regSeq (.z zm (.z zg (.z zg (.nil ?_))))
    refine .ret (rT (Fin.ret2 Tryz.results124 rfl rfl ?_))
    exact ⟨H, _, _, HLe.refl H, rfl, .inl ⟨hc9, rfl, rfl⟩, hs.out⟩
  · refine .skip ?_
    refine nT ?_
    refine .regSeq (.y hs (zls [_, _] Tryz.isAgg24 Tryz.sizeOf24) ?_)
    have hok : s.Ok := s.ok_iff.1 (by simpa using hc9)
    have hm1 := hok.m1
    refine .o (.call Tryz.call126 rfl (ref02_Ways_spec (s := s) hs ⟨_, rfl, hl⟩ hok) ?_); rintro v12 w ⟨H1, rs, hle1, hRT, hSq, hWT, hs⟩
    obtain ⟨at', ct, rfl⟩ := hRT.shape
    refine .z zg (.nil (.seq (.regSeq (.z zm ?_))))
    refine .o (.call Tryz.call154 rfl (ref02_Sound_spec hs hRT hSq (by simp only [Syst.n]; omega)) ?_); rintro _ w ⟨b, rfl, hb, hs⟩
    have hbs := hb.trans (sound_diag hok hWT).symm
    refine .z znot (.nil ?_)
    refine (.cond rfl (fun hc15 => ?_) (fun hc15 => ?_))
    · refine .regSeq (.z zg (.z zg (.nil ?_)))
      refine .ret (rT (Fin.ret2 Tryz.results124 rfl rfl ?_))
      exact ⟨H1, _, _, hle1, rfl, .inr (.inl ⟨hok, fun h => by simp [hbs.2 h] at hc15, rfl, rfl⟩), hs.out⟩
    · refine .skip ?_
      refine nT ?_
      refine .regSeq (.z zm (.z zg (.z zg (.nil ?_))))
      refine .ret (Fin.ret2 Tryz.results124 rfl rfl ?_)
      exact ⟨H1, _, _, hle1, rfl, .inr (.inr ⟨hok, hbs.1 (by simpa using hc15), rfl, rs, hRT, hSq, hWT⟩), hs.out⟩
end Go.Proofs.YtiiokdeehlfeeaaGreat

namespace Go.Proofs.YtiiokdeehlfeeaaGreat
open Go.MW
theorem ref02_keeps_spec {H : Heap} {w : World} {σ : List Ent} {v vx : Value} {s : Syst} {x : List Int} (hs : St H w σ) (hr : RSy H v s) (hx : RI H vx x) (hok : s.Ok) :
    Cl Tryz.prog 188 [v, vx] w fun u w' => ∃ b, u = .bool b ∧ (b = true ↔ KeepsP s x) ∧ St H w' σ := by
  obtain ⟨ul, rfl, hl⟩ := hr
  obtain ⟨al, cl, rfl⟩ := RL.shape hl
  obtain ⟨ax, cx, rfl⟩ := RI.shape hx
  have hm0 := hok.m0
  have hm1 := hok.m1
  have hll := hok.len
  have hlx := (RI.len hx).2.2
  have hnn : (s.n : Int) = s.many + 1 := by simp only [Syst.n]; omega
  refine Cl.of Tryz.func188 rfl Tryz.ntmps188 (by simp) (args_cons (k := 0) rfl (args_cons (k := 1) rfl (args0))) ?_
  refine .regSeq ?_
  refine .o (.box hs rfl rfl ?_); intro b2 w hs
  refine .z zg (.nil (.seq (.regSeq (.z zm (.z (zlen Tryz.runUnderlying25) (.z (zfa fa_api_System_0) (.y hs (zld Tryz.isAgg3) (.z zadd (.z zneq ?_)))))))))
  refine .z zm ?_
  refine .bifN (t' := 15) rfl (fun hb15 => ?_) (fun hb15 => ?_)
  · refine .gFs 4 6 false rfl rfl rfl ?_
    refine .z zpT (.nil ?_)
    refine (.condT rfl rfl ?_)
    refine .regSeq (.z zg (.nil ?_))
    refine .ret (rT (Fin.ret1 Tryz.results188 rfl ?_))
    exact ⟨false, rfl, ⟨fun h => (by cases h), fun h => by
      have h8 := h.len
      have h9 := h.zero
      exfalso
      first | (have h7 := hb15; simp at h7; omega) | (simp_all; done)⟩, hs.out⟩
  · refine .gT rfl rfl ?_
    refine .z zm ?_
    refine .gT rfl rfl ?_
    refine .ixX (enc := fun x => [I x]) hs hx rfl rfl Tryz.runUnderlying25 Tryz.sizeOf3 (gi_get (l := x) (i := 0) (by omega)) rfl ?_; intro b17 o17 hc17; replace hc17 := CellsAt.one hc17
    refine .gT rfl rfl ?_
    refine .q hs (q_loadR rfl Tryz.isAgg3 hc17) ?_
    refine .gT rfl rfl ?_
    refine .z zneq (.z zpF (.nil ?_))
    refine (.condN rfl (fun hc20 => ?_) (fun hc20 => ?_))
    · refine .regSeq (.z zg (.nil ?_))
      refine .ret (rT (Fin.ret1 Tryz.results188 rfl ?_))
      exact ⟨false, rfl, ⟨fun h => (by cases h), fun h => by
        have h8 := h.len
        have h9 := h.zero
        exfalso
        first | (have h7 := hb15; simp at h7; omega) | (simp_all; done)⟩, hs.out⟩
    · refine .skip ?_
      refine nT ?_
      refine .seq (.regSeq (.z zm (.z (zlen Tryz.runUnderlying25) (.z zm (.nil ?_)))))
      refine .for (N := x.length) (J := fun k fr w => fr = [(21, .slice ax x.length cx), (1, .slice ax x.length cx), (2, .pointer (some ⟨b2, 0, none⟩))] ∧ (∀ i < k, -1000000000 ≤ gi x i ∧ gi x i ≤ 1000000000) ∧ St H w (.blk b2 [I s.many, .slice al s.lims.length cl] :: σ)) (by omega) ?_ ?_ ?_
      · exact .mk ⟨rfl, fun i hi => by omega, hs⟩
      · rintro k fr w hk ⟨rfl, h0, hs⟩
        refine .block (.regSeq ?_)
        refine .ixX (enc := fun x => [I x]) hs hx rfl rfl Tryz.runUnderlying25 Tryz.sizeOf3 (gi_get hk) rfl ?_; intro b25 o25 hc25; replace hc25 := CellsAt.one hc25
        refine .q hs (q_loadR rfl Tryz.isAgg3 hc25) ?_
        refine .z zg (.nil (.regSeq (.z zm ?_)))
        refine .o (.call Tryz.call174 rfl (ref02_within_spec hs) ?_); rintro _ w ⟨rfl, hs⟩
        refine .z znot (.nil ?_)
        refine (.cond rfl (fun hc29 => ?_) (fun hc29 => ?_))
        · refine .regSeq (.z zg (.nil ?_))
          refine .ret (rB (rT (rB (rT (Fin.ret1 Tryz.results188 rfl ?_)))))
          exact ⟨false, rfl, ⟨fun h => (by cases h), fun h => by
            have h8 := h.free k (by have := h.len; omega)
            exfalso
            have h7 := hc29
            rw [decide_eq_true h8] at h7
            simp at h7⟩, hs.out⟩
        · refine .skip ?_
          refine nB (nT ?_)
          exact .mk ⟨rfl, fun i hi => by
            by_cases e : i = k
            · subst e; exact of_decide_eq_true (by simpa using hc29)
            · exact h0 i (by omega), hs⟩
      · rintro fr w ⟨rfl, h0, hs⟩
        refine nT ?_
        refine .seq (.regSeq (.z (zfa fa_api_System_1) (.y hs (zld Tryz.isAgg22) (.z (zlen Tryz.runUnderlying22) (.z zm (.nil ?_))))))
        refine .for (N := s.lims.length) (J := fun k fr w => fr = [(32, .slice al s.lims.length cl), (1, .slice ax x.length cx)] ∧ (∀ i < k, ∀ y, s.lims[i]? = some y → gi x y.B.toNat ≤ gi x y.A.toNat + y.M) ∧ St H w (.blk b2 [I s.many, .slice al s.lims.length cl] :: σ)) (by omega) ?_ ?_ ?_
        · exact .mk ⟨rfl, fun i hi => by omega, hs⟩
        · rintro k fr w hk ⟨rfl, h1, hs⟩
          obtain ⟨y, hy⟩ := nth hk
          obtain ⟨⟨y1, y2⟩, ⟨y3, y4⟩, y5, y6, -⟩ := hok.lim y (List.mem_of_getElem? hy)
          have z1 := h0 y.B.toNat (by omega)
          have z2 := h0 y.A.toNat (by omega)
          refine .block (.regSeq ?_)
          refine .ixX (enc := Lim.c) hs hl rfl rfl Tryz.runUnderlying22 Tryz.sizeOf157 hy rfl ?_; intro b36 o36 hc36
          refine .q hs (q_loadsR (vs := y.c) rfl Tryz.isAgg157 Tryz.sizeOf157 hc36) ?_
          refine .o (.alloc hs Tryz.zeroValue157 rfl ?_); intro b8 w hs
          refine .o (.stores (vs := y.c) hs rfl rfl Tryz.sizeOf157 ?_); intro w hs
          refine .nil ?_
          refine .seq (.draw mix rfl hs ?_); intro w hs
          refine .z 0 rfl zm ?_; refine .z 1 rfl (zfa fa_api_Limit_1) ?_; refine .y 2 rfl hs Tryz.isAgg3 ?_
          refine .ixX (enc := fun x => [I x]) (i := 3) hs rfl (by kernel_rfl) .none hx rfl rfl Tryz.runUnderlying25 Tryz.sizeOf3 (gi_get (l := x) (i := y.B.toNat) (by omega)) (by omega) ?_; intro b41 o41 hc41; replace hc41 := CellsAt.one hc41
          refine .r (i := 4) hs rfl (by kernel_rfl) .none (q_loadR rfl Tryz.isAgg3 hc41) ?_
          refine .z 5 rfl zm ?_; refine .z 6 rfl (zfa fa_api_Limit_0) ?_; refine .y 7 rfl hs Tryz.isAgg3 ?_
          refine .ixX (enc := fun x => [I x]) (i := 8) hs rfl (by kernel_rfl) .none hx rfl rfl Tryz.runUnderlying25 Tryz.sizeOf3 (gi_get (l := x) (i := y.A.toNat) (by omega)) (by omega) ?_; intro b46 o46 hc46; replace hc46 := CellsAt.one hc46
          refine .r (i := 9) hs rfl (by kernel_rfl) .none (q_loadR rfl Tryz.isAgg3 hc46) ?_
          refine .z 10 rfl zsub ?_; refine .z 11 rfl (zfa fa_api_Limit_2) ?_; refine .y 12 rfl hs Tryz.isAgg3 ?_; refine .z 13 rfl zgtr ?_; refine .done (by kernel_rfl) hs ?_
          refine (.condD rfl (fun hc51 => ?_) (fun hc51 => ?_))
          · refine .regSeq (.z zg (.nil ?_))
            refine .ret (rB (rT (rB (rT (Fin.ret1 Tryz.results188 rfl ?_)))))
            exact ⟨false, rfl, ⟨fun h => (by cases h), fun h => by
              have h8 := feas_iff.1 h.feas y (List.mem_of_getElem? hy)
              exfalso; omega⟩, hs.out⟩
          · refine .skip ?_
            refine nB (nT ?_)
            exact .mk ⟨rfl, fun i hi z hz => by
              by_cases e : i = k
              · subst e; rw [hy] at hz; cases hz; omega
              · exact h1 i (by omega) z hz, hs.out⟩
        · rintro fr w ⟨rfl, h1, hs⟩
          refine nT ?_
          refine .regSeq (.z zg (.nil ?_))
          refine .ret (Fin.ret1 Tryz.results188 rfl ?_)
          exact ⟨true, rfl, ⟨fun _ => ⟨by omega, by first | omega | (simp_all; done), fun v hv => h0 v (by omega), feas_iff.2 fun y hy => by
            obtain ⟨i, hi⟩ := List.getElem?_of_mem hy
            exact h1 i (List.getElem?_eq_some_iff.1 hi).1 y hi⟩, fun _ => rfl⟩, hs.out⟩
inductive CPtR (s : Syst) (x : List Int) : Int → Prop
  | bad (h : s.check ≠ 0) : CPtR s x s.check
  | off (h : s.Ok) (h1 : ¬ KeepsP s x) : CPtR s x 25
  | ok (h : s.Ok) (h1 : KeepsP s x) : CPtR s x 0
theorem CPtR.uniq {s : Syst} {x : List Int} {e f : Int} (h : CPtR s x e) (g : CPtR s x f) : e = f := by
  cases h with
  | bad h =>
    cases g with
    | bad => rfl
    | off g _ => exact (h (s.ok_iff.2 g)).elim
    | ok g _ => exact (h (s.ok_iff.2 g)).elim
  | off h h1 =>
    cases g with
    | bad g => exact (g (s.ok_iff.2 h)).elim
    | off => rfl
    | ok _ g1 => exact (h1 g1).elim
  | ok h h1 =>
    cases g with
    | bad g => exact (g (s.ok_iff.2 h)).elim
    | off _ g1 => exact (g1 h1).elim
    | ok => rfl
theorem ref02_CheckPoint_spec {H : Heap} {w : World} {σ : List Ent} {v vx : Value} {s : Syst} {x : List Int} (hs : St H w σ) (hr : RSy H v s) (hx : RI H vx x) :
    Cl Tryz.prog 147 [v, vx] w fun u w' => ∃ e, u = I e ∧ CPtR s x e ∧ St H w' σ := by
  obtain ⟨ul, rfl, hl⟩ := hr
  obtain ⟨al, cl, rfl⟩ := RL.shape hl
  obtain ⟨ax, cx, rfl⟩ := RI.shape hx
  refine Cl.of Tryz.func147 rfl Tryz.ntmps147 (by simp) (args_cons (k := 0) rfl (args_cons (k := 1) rfl (args0))) ?_
  refine .regSeq ?_
  refine .o (.box hs rfl rfl ?_); intro b2 w hs
  refine .z zg (.nil (.regSeq (.y hs (zls [_, _] Tryz.isAgg24 Tryz.sizeOf24) ?_)))
  refine .o (.call Tryz.call117 rfl (ref02_Check_spec (s := s) hs ⟨_, rfl, hl⟩) ?_); rintro _ w ⟨rfl, hs⟩
  refine .z zg (.nil (.seq (.regSeq (.z zm (.z zneq (.nil ?_))))))
  refine (.condN rfl (fun hc9 => ?_) (fun hc9 => ?_))
  · refine .regSeq (.z zm (.z zg (.nil ?_)))
    refine .ret (rT (Fin.ret1 Tryz.results147 rfl ?_))
    exact ⟨_, rfl, .bad hc9, hs.out⟩
  · refine .skip ?_
    refine nT ?_
    refine .seq (.regSeq (.y hs (zls [_, _] Tryz.isAgg24 Tryz.sizeOf24) (.z zm ?_)))
    have hok : s.Ok := s.ok_iff.1 (by simpa using hc9)
    refine .o (.call Tryz.call188 rfl (ref02_keeps_spec (s := s) hs ⟨_, rfl, hl⟩ hx hok) ?_); rintro _ w ⟨b, rfl, hb, hs⟩
    refine .z znot (.nil ?_)
    refine (.cond rfl (fun hc14 => ?_) (fun hc14 => ?_))
    · refine .regSeq (.z zg (.nil ?_))
      refine .ret (rT (Fin.ret1 Tryz.results147 rfl ?_))
      exact ⟨_, rfl, .off hok (fun h => by simp [hb.2 h] at hc14), hs.out⟩
    · refine .skip ?_
      refine nT ?_
      refine .regSeq (.z zg (.nil ?_))
      refine .ret (Fin.ret1 Tryz.results147 rfl ?_)
      exact ⟨_, rfl, .ok hok (hb.1 (by simpa using hc14)), hs.out⟩
end Go.Proofs.YtiiokdeehlfeeaaGreat

namespace Go.Proofs.YtiiokdeehlfeeaaGreat
open Go.MW
set_option maxHeartbeats 4000000 in
theorem ref02_Point_spec {H : Heap} {w : World} {σ : List Ent} {v vp : Value} {s : Syst} {picks : List Int} (hs : St H w σ) (hr : RSy H v s) (hp : RI H vp picks) :
    Cl Tryz.prog 101 [v, vp] w fun u w' => ∃ H1 vx x e, HLe H H1 ∧ u = .tuple #[vx, I e] ∧ RI H1 vx x ∧ PointR s picks x e ∧ St H1 w' σ := by
  obtain ⟨ul, rfl, hl⟩ := hr
  obtain ⟨al, cl, rfl⟩ := RL.shape hl
  obtain ⟨ap, cp, rfl⟩ := RI.shape hp
  refine Cl.of Tryz.func101 rfl Tryz.ntmps101 (by simp) (args_cons (k := 0) rfl (args_cons (k := 1) rfl (args0))) ?_
  refine .regSeq ?_
  refine .o (.box hs rfl rfl ?_); intro b2 w hs
  refine .z zg (.z zg (.nil (.regSeq (.y hs (zls [_, _] Tryz.isAgg24 Tryz.sizeOf24) ?_))))
  refine .o (.call Tryz.call124 rfl (ref02_Close_spec (s := s) hs ⟨_, rfl, hl⟩) ?_); rintro _ w ⟨H1, vt, e, hle1, rfl, hcase, hs⟩
  refine .z zm (.z zex (.z zex (.z zg (.z zg (.nil (.seq (.regSeq (.z zm (.z zneq ?_)))))))))
  refine .nil ?_
  refine (.condN rfl (fun hc20 => ?_) (fun hc20 => ?_))
  · refine .regSeq (.z zm (.z zg (.z zg (.nil ?_))))
    refine .ret (rT (Fin.ret2 Tryz.results101 rfl rfl ?_))
    rcases hcase with ⟨h1, rfl, rfl⟩ | ⟨h1, h2, rfl, rfl⟩ | ⟨_, _, rfl, _⟩
    · exact ⟨H1, _, [], _, hle1, rfl, RS.nil H1 1 none 0, .bad h1, hs.out⟩
    · exact ⟨H1, _, [], _, hle1, rfl, RS.nil H1 1 none 0, .clash h1 h2, hs.out⟩
    · exact (hc20 rfl).elim
  · refine .skip ?_
    refine nT ?_
    refine .regSeq ?_
    subst hc20
    obtain ⟨hok, hsd, rs, hRT, hSq, hWT⟩ : s.Ok ∧ s.Sound ∧ ∃ rs, RT H1 vt rs ∧ Sq s.n rs ∧ WaysT s.n s.arcs (gt rs) := by
      rcases hcase with ⟨h1, h2, _⟩ | ⟨_, _, h2, _⟩ | ⟨h1, h2, _, h3⟩
      · exact (h1 h2.symm).elim
      · omega
      · exact ⟨h1, h2, h3⟩
    obtain ⟨at', ct, rfl⟩ := hRT.shape
    have hTS := hok.tabS hsd hWT
    have hrl := hSq.1
    have hm0 := hok.m0
    have hm1 := hok.m1
    have hnn : (s.n : Int) = s.many + 1 := by simp only [Syst.n]; omega
    refine .o (.buildSlice (cells := [_]) hs bls_sl_int_1 rfl rfl ?_); intro b22 w hs
    refine .z zg (.nil (.seq (.regSeq (.z zg (.nil (.block ?_))))))
    refine .loop (fun p : List Int × Value => ⟨109, [], [(9, I (p.1.length : Int)), (8, p.2), (6, .slice at' rs.length ct), (2, .pointer (some ⟨b2, 0, none⟩)), (1, .slice ap picks.length cp)]⟩)
      (fun p w => PtsR (gt rs) (pickI picks) p.1 ∧ p.1.length ≤ s.n ∧ ∃ en, OwnS 1 p.2 (Is p.1) en ∧ St H1 w (en :: .blk b2 [I s.many, .slice al s.lims.length cl] :: σ))
      (fun p => s.n - p.1.length) ([0], .slice (some ⟨b22, 0, none⟩) 1 1) (by repeat (first | exact .nil rfl rfl | refine .cons rfl ?_))
      ⟨.start, s.n_pos, _, .full (len := 1) rfl, hs⟩ ?_
    rintro ⟨X, v8⟩ w ⟨hP, hXn, en, hO, hs⟩
    dsimp only at hP hXn hO ⊢
    have hI := hP.inv (fun i n hn => pickI_bd picks i hn) hTS hXn
    have hX0 := hI.l0
    have hO1 := hO
    obtain ⟨b, cap, sp, rfl, rfl, hcap⟩ := hO.some hX0
    refine .seq (.regSeq (.z zm (.z (zfa fa_api_System_0) (.y hs (zld Tryz.isAgg3) (.z zleq (.nil ?_))))))
    refine (.condD rfl (fun hc26 => ?_) (fun hc26 => ?_))
    · refine .skip ?_
      refine nT ?_
      refine .seq (.block (.regSeq (.z zg (.nil ?_))))
      have hXl : X.length < s.n := by omega
      refine .regSeq (.z zg (.nil (.seq (.regSeq (.z zm (.z (zlen Tryz.runUnderlying25) (.z zm (.nil ?_))))))))
      refine .for (N := X.length) (J := fun k fr w => ∃ lo hi, fr = [(10, I lo), (11, I hi), (9, I (X.length : Int)), (8, .slice (some ⟨b, 0, none⟩) X.length cap), (6, .slice at' rs.length ct), (2, .pointer (some ⟨b2, 0, none⟩)), (1, .slice ap picks.length cp)] ∧   LoI (gt rs) X X.length k lo ∧ HiI (gt rs) X X.length k hi ∧ St H1 w (.blk b (Is X ++ sp) :: .blk b2 [I s.many, .slice al s.lims.length cl] :: σ)) (by omega) ?_ ?_ ?_
      · exact .mk ⟨_, _, rfl, .start _ _ _, .start _ _ _, hs⟩
      · rintro k fr w hk ⟨lo, hi, rfl, hLo, hHi, hs⟩
        have hXk := hI.bd k hk
        have hr1 : (gr rs X.length).length = s.n := hSq.2 _ hXl
        have hr2 : (gr rs k).length = s.n := hSq.2 _ (by omega)
        have hb1 : gi (gr rs X.length) k ≠ 1000000000 → -1400000 ≤ gi (gr rs X.length) k ∧ gi (gr rs X.length) k ≤ 1400000 := fun h => hTS.bd X.length k hXl (by omega) h
        have hb2 : gi (gr rs k) X.length ≠ 1000000000 → -1400000 ≤ gi (gr rs k) X.length ∧ gi (gr rs k) X.length ≤ 1400000 := fun h => hTS.bd k X.length (by omega) hXl h
        refine .block (.regSeq (.z zm (.z zg (.nil ?_))))
        refine .cut (fun fs w => ∃ lo', FSub fs ⟨109, [], [(10, I lo'), (12, I (k : Int)), (31, I (k : Int)), (30, I (X.length : Int)), (11, I hi), (9, I (X.length : Int)), (8, .slice (some ⟨b, 0, none⟩) X.length cap), (6, .slice at' rs.length ct), (2, .pointer (some ⟨b2, 0, none⟩)), (1, .slice ap picks.length cp)]⟩ ∧ LoI (gt rs) X X.length (k + 1) lo' ∧ St H1 w (.blk b (Is X ++ sp) :: .blk b2 [I s.many, .slice al s.lims.length cl] :: σ)) ?_ ?_
        · refine .regSeq (.z zm (.z zm ?_))
          refine .ixT hs hRT rfl rfl Tryz.runUnderlying29 Tryz.sizeOf25 (show X.length < rs.length by omega) rfl ?_; intro b36 o36 a36 c36 hc36 hR36
          refine .q hs (q_loadR rfl Tryz.isAgg25 hc36) ?_
          refine .z zm ?_
          refine .ixY hs hR36 rfl rfl Tryz.runUnderlying25 Tryz.sizeOf3 (gi_get (l := gr rs X.length) (i := k) (by omega)) rfl ?_; intro b39 o39 hc39
          refine .q hs (q_loadR rfl Tryz.isAgg3 hc39) ?_
          refine .z zneq (.nil ?_)
          refine (.condN rfl (fun hc41 => ?_) (fun hc41 => ?_))
          · refine .draw mix rfl hs ?_; intro w hs
            refine .z 0 rfl zm ?_; refine .z 1 rfl zm ?_; refine .z 2 rfl zm ?_; refine .z 3 rfl (zix Tryz.runUnderlying25 Tryz.sizeOf3) ?_
            refine .load (i := 4) hs rfl (by kernel_rfl) .none rfl Tryz.isAgg3 ?_ (hv := Is_gi_sp hk sp)
            refine .z 5 rfl zm ?_; refine .z 6 rfl zm ?_
            refine .ixT (i := 7) hs rfl (by kernel_rfl) .none hRT rfl rfl Tryz.runUnderlying29 Tryz.sizeOf25 (show X.length < rs.length by omega) rfl ?_; intro b49 o49 a49 c49 hc49 hR49
            refine .r (i := 8) hs rfl (by kernel_rfl) .none (q_loadR rfl Tryz.isAgg25 hc49) ?_
            refine .z 9 rfl zm ?_
            refine .ixX (enc := fun x => [I x]) (i := 10) hs rfl (by kernel_rfl) .none hR49 rfl rfl Tryz.runUnderlying25 Tryz.sizeOf3 (gi_get (l := gr rs X.length) (i := k) (by omega)) rfl ?_; intro b52 o52 hc52; replace hc52 := CellsAt.one hc52
            refine .r (i := 11) hs rfl (by kernel_rfl) .none (q_loadR rfl Tryz.isAgg3 hc52) ?_
            refine .z 12 rfl zsub ?_; refine .z 13 rfl zmax ?_; refine .z 14 rfl zg ?_; refine .done (by kernel_rfl) hs ?_
            refine nT ?_
            exact ⟨_, by repeat (first | exact .nil rfl rfl | refine .cons rfl ?_), hLo.put hc41 (by have := hb1 hc41; have := hXk; have := hTS.n65; show -1000000000 ≤ gi X k - gi (gr rs X.length) k; omega), hs⟩
          · refine .skip ?_
            refine nT ?_
            exact ⟨_, by repeat (first | exact .nil rfl rfl | refine .cons rfl ?_), hLo.skip hc41, hs⟩
        · rintro fs w ⟨lo', hfs, hLo', hs⟩
          refine WE.sub ?_ hfs
          refine .regSeq (.z zm (.z zm ?_))
          refine .ixT hs hRT rfl rfl Tryz.runUnderlying29 Tryz.sizeOf25 (show k < rs.length by omega) rfl ?_; intro b58 o58 a58 c58 hc58 hR58
          refine .q hs (q_loadR rfl Tryz.isAgg25 hc58) ?_
          refine .z zm ?_
          refine .ixY hs hR58 rfl rfl Tryz.runUnderlying25 Tryz.sizeOf3 (gi_get (l := gr rs k) (i := X.length) (by omega)) rfl ?_; intro b61 o61 hc61
          refine .q hs (q_loadR rfl Tryz.isAgg3 hc61) ?_
          refine .z zneq (.nil ?_)
          refine (.condN rfl (fun hc63 => ?_) (fun hc63 => ?_))
          · refine .draw mix rfl hs ?_; intro w hs
            refine .z 0 rfl zm ?_; refine .z 1 rfl zm ?_; refine .z 2 rfl zm ?_; refine .z 3 rfl (zix Tryz.runUnderlying25 Tryz.sizeOf3) ?_
            refine .load (i := 4) hs rfl (by kernel_rfl) .none rfl Tryz.isAgg3 ?_ (hv := Is_gi_sp hk sp)
            refine .z 5 rfl zm ?_; refine .z 6 rfl zm ?_
            refine .ixT (i := 7) hs rfl (by kernel_rfl) .none hRT rfl rfl Tryz.runUnderlying29 Tryz.sizeOf25 (show k < rs.length by omega) rfl ?_; intro b71 o71 a71 c71 hc71 hR71
            refine .r (i := 8) hs rfl (by kernel_rfl) .none (q_loadR rfl Tryz.isAgg25 hc71) ?_
            refine .z 9 rfl zm ?_
            refine .ixX (enc := fun x => [I x]) (i := 10) hs rfl (by kernel_rfl) .none hR71 rfl rfl Tryz.runUnderlying25 Tryz.sizeOf3 (gi_get (l := gr rs k) (i := X.length) (by omega)) rfl ?_; intro b74 o74 hc74; replace hc74 := CellsAt.one hc74
            refine .r (i := 11) hs rfl (by kernel_rfl) .none (q_loadR rfl Tryz.isAgg3 hc74) ?_
            refine .z 12 rfl zadd ?_; refine .z 13 rfl zmin ?_; refine .z 14 rfl zg ?_; refine .done (by kernel_rfl) hs ?_
            refine nB (nT ?_)
            exact .mk ⟨lo', _, rfl, hLo', hHi.put hc63 (by have := hb2 hc63; have := hXk; have := hTS.n65; show gi X k + gi (gr rs k) X.length ≤ 1000000000; omega), hs⟩
          · refine .skip ?_
            refine nB (nT ?_)
            exact .mk ⟨lo', _, rfl, hLo', hHi.skip hc63, hs⟩
      · rintro fr w ⟨lo, hi, rfl, hLo, hHi, hs⟩
        have hlb := hLo.bd hI hTS hXl (Nat.le_refl _)
        have hhb := hHi.bd hI hTS hXl (Nat.le_refl _)
        have hle := hI.le hTS hXl rfl hLo hHi
        simp only [free] at hlb hhb hle
        have hpk := pickI_bd picks ((X.length : Int) - 1) (n := hi - lo + 1)
        refine nT ?_
        refine .regSeq (.z zg (.nil ?_))
        refine .cut (fun fs w => FSub fs ⟨109, [], [(13, I (chooseI lo hi (pickI picks ((X.length : Int) - 1) (hi - lo + 1)))), (9, I (X.length : Int)), (8, .slice (some ⟨b, 0, none⟩) X.length cap), (6, .slice at' rs.length ct), (2, .pointer (some ⟨b2, 0, none⟩)), (1, .slice ap picks.length cp)]⟩ ∧ St H1 w (.blk b (Is X ++ sp) :: .blk b2 [I s.many, .slice al s.lims.length cl] :: σ)) ?_ ?_
        · refine .block (.regSeq (.z zm (.z zneq (.z zm ?_))))
          refine .bifN (t' := 82) rfl (fun hb82 => ?_) (fun hb82 => ?_)
          · refine .gT rfl rfl ?_
            refine .z zm ?_
            refine .gT rfl rfl ?_
            refine .z zneq (.z zpT (.z zg (.nil ?_)))
            refine (.condN rfl (fun hc79 => ?_) (fun hc79 => ?_))
            · refine .region (.z zm (.z zm (.z zm (.z zsub (.z zm (.z zm (.z zsub (.z zadd ?_))))))))
              refine .o (.call Tryz.call160 rfl (ref02_Pick_spec hs (hp.mono hle1) (by omega) (by omega)) ?_); rintro _ w ⟨rfl, hs⟩
              have hq1 : hi ≠ 1000000000 := by simpa using hc79
              have hq2 := hle (by simpa using hb82) hq1
              have hq3 := hpk (by omega)
              refine .z zadd (.z zg (.nil ?_))
              refine nB (nT ?_)
              refine ⟨.consI rfl ?_ (by repeat (first | exact .nil rfl rfl | refine .cons rfl ?_)), hs⟩
              unfold chooseI
              simp only [free] at *
              split <;> (try split) <;> first | rfl | omega | (simp_all; done) | (exfalso; simp_all; omega)
            · refine .regSeq (.z zm (.z zneq (.z zg (.nil ?_))))
              refine (.condN rfl (fun hc96 => ?_) (fun hc96 => ?_))
              · refine .region (.z zm (.z zg (.nil ?_)))
                refine nB (nT ?_)
                refine ⟨.consI rfl ?_ (by repeat (first | exact .nil rfl rfl | refine .cons rfl ?_)), hs⟩
                unfold chooseI
                simp only [free] at *
                split <;> (try split) <;> first | rfl | omega | (simp_all; done) | (exfalso; simp_all; omega)
              · refine .regSeq (.z zm (.z zneq (.z zg (.nil ?_))))
                refine (.condN rfl (fun hc100 => ?_) (fun hc100 => ?_))
                · refine .region (.z zm (.z zg (.nil ?_)))
                  refine nB (nT ?_)
                  refine ⟨.consI rfl ?_ (by repeat (first | exact .nil rfl rfl | refine .cons rfl ?_)), hs⟩
                  unfold chooseI
                  simp only [free] at *
                  split <;> (try split) <;> first | rfl | omega | (simp_all; done) | (exfalso; simp_all; omega)
                · refine .skip ?_
                  refine nB (nT ?_)
                  refine ⟨.consI rfl ?_ (by repeat (first | exact .nil rfl rfl | refine .cons rfl ?_)), hs⟩
                  unfold chooseI
                  simp only [free] at *
                  split <;> (try split) <;> first | rfl | omega | (simp_all; done) | (exfalso; simp_all; omega)
          · refine .gFs 2 2 true rfl rfl rfl ?_
            refine .z zpF (.z zg (.nil ?_))
            refine (.condF rfl rfl ?_)
            refine .regSeq (.z zm (.z zneq (.z zg (.nil ?_))))
            refine (.condN rfl (fun hc96 => ?_) (fun hc96 => ?_))
            · refine .region (.z zm (.z zg (.nil ?_)))
              refine nB (nT ?_)
              refine ⟨.consI rfl ?_ (by repeat (first | exact .nil rfl rfl | refine .cons rfl ?_)), hs⟩
              unfold chooseI
              simp only [free] at *
              split <;> (try split) <;> first | rfl | omega | (simp_all; done) | (exfalso; simp_all; omega)
            · refine .regSeq (.z zm (.z zneq (.z zg (.nil ?_))))
              refine (.condN rfl (fun hc100 => ?_) (fun hc100 => ?_))
              · refine .region (.z zm (.z zg (.nil ?_)))
                refine nB (nT ?_)
                refine ⟨.consI rfl ?_ (by repeat (first | exact .nil rfl rfl | refine .cons rfl ?_)), hs⟩
                unfold chooseI
                simp only [free] at *
                split <;> (try split) <;> first | rfl | omega | (simp_all; done) | (exfalso; simp_all; omega)
              · refine .skip ?_
                refine nB (nT ?_)
                refine ⟨.consI rfl ?_ (by repeat (first | exact .nil rfl rfl | refine .cons rfl ?_)), hs⟩
                unfold chooseI
                simp only [free] at *
                split <;> (try split) <;> first | rfl | omega | (simp_all; done) | (exfalso; simp_all; omega)
        · rintro fs w ⟨hfs, hs⟩
          refine WE.sub ?_ hfs
          refine .region (.z zm (.z zm ?_))
          refine .o (.buildSlice (cells := [_]) hs bls_sl_int_1 rfl rfl ?_); intro b106 w hs
          refine .o (.append (ys := Is [chooseI lo hi (pickI picks ((X.length : Int) - 1) (hi - lo + 1))]) hs app_sl_int_int rfl rfl hO1 (.own .here rfl rfl) (Is_cell _) (fun l' h => by simp at h; have := hTS.n65; omega) ?_); intro v107 en107 w hO2 hs
          rw [← List.map_append] at hO2
          refine .z zg (.nil ?_)
          refine nB (nT ?_)
          refine .region (.z zm (.z zadd (.z zg (.nil ?_))))
          refine nT ?_
          exact ⟨(X ++ [chooseI lo hi (pickI picks ((X.length : Int) - 1) (hi - lo + 1))], v107), .consI rfl (by simp) (by repeat (first | exact .nil rfl rfl | refine .cons rfl ?_)), ⟨hP.snoc hLo hHi, by simp; omega, _, hO2, hs.sub (by repeat (first | exact Sub.refl _ | constructor | apply Sub.weaken))⟩, by simp; omega⟩
    · refine .exit ?_
      refine xT (xT (xB (nT ?_)))
      refine .regSeq (.z zm (.z zg (.z zg (.nil ?_))))
      refine .ret (Fin.ret2 Tryz.results101 rfl rfl ?_)
      obtain ⟨H2, hle2, hRX, hs⟩ := OwnS.publishI hO1 (by have := hTS.n65; omega) hs .here
      exact ⟨H2, _, X, 0, hle1.trans hle2, rfl, hRX, .ok hok hsd ⟨gt rs, hWT, hP, by omega⟩, hs.out⟩
theorem ref09_Hull_spec {H : Heap} {w : World} {σ : List Ent} {v vp : Value} {a : Quest} {picks : List Int} (hs : St H w σ) (hr : RAsk H v a) (hp : RI H vp picks) :
    Cl Tryz.prog 39 [v, vp] w fun u w' => ∃ H1 x e, HLe H H1 ∧ RI H1 u x ∧ PointR a.sys picks x e ∧ St H1 w' σ := by
  obtain ⟨ul, uw, rfl, hl, hw⟩ := hr
  obtain ⟨ap, cp, rfl⟩ := RI.shape hp
  refine Cl.of Tryz.func39 rfl Tryz.ntmps39 (by simp) (args_cons (k := 0) rfl (args_cons (k := 1) rfl (args0))) ?_
  refine .regSeq ?_
  refine .o (.box hs rfl rfl ?_); intro b2 w hs
  refine .z zg (.nil (.regSeq (.z (zfa fa_api_Ask_0) (.y hs (zls [_, _] Tryz.isAgg24 Tryz.sizeOf24) (.z zm ?_)))))
  refine .o (.call Tryz.call101 rfl (ref02_Point_spec (s := a.sys) hs ⟨_, rfl, hl⟩ hp) ?_); rintro _ w ⟨H1, vx, x, e, hle1, rfl, hR, hP, hs⟩
  refine .z zm (.z zex (.z zex (.z zg (.z zg (.nil (.regSeq (.z zm (.z zg (.nil ?_)))))))))
  refine .ret (Fin.ret1 Tryz.results39 rfl ?_)
  exact ⟨H1, x, e, hle1, hR, hP, hs.out⟩
theorem ref09_Told_spec {H : Heap} {w : World} {σ : List Ent} {vl vx vp : Value} {l : List Prb} {x picks : List Int} {n : Int} (hs : St H w σ) (hl : RPs H vl l) (hx : RI H vx x) (hp : RI H vp picks) (hin : ∀ p ∈ l, (1 ≤ p.u ∧ p.u ≤ n) ∧ (0 ≤ p.t ∧ p.t ≤ 1000)) (hxl : n < x.length)
    (hlen : l.length ≤ 1000) (hpl : picks.length ≤ 4611686018427387904) (hxb : ∀ v < x.length, -1000000000 ≤ gi x v ∧ gi x v ≤ 1000000000) :
    Cl Tryz.prog 38 [vl, vx, vp] w fun u w' => ∃ H1, HLe H H1 ∧ ROut H1 u (toldV l x picks l.length) ∧ St H1 w' σ := by
  obtain ⟨al, cl, rfl⟩ := RPs.shape hl
  obtain ⟨ax, cx, rfl⟩ := RI.shape hx
  obtain ⟨ap, cp, rfl⟩ := RI.shape hp
  refine Cl.of Tryz.func38 rfl Tryz.ntmps38 (by simp) (args_cons (k := 0) rfl (args_cons (k := 1) rfl (args_cons (k := 2) rfl (args0)))) ?_
  refine .regSeq ?_
  refine .o (.alloc hs Tryz.zeroValue42 rfl ?_); intro b6 w hs
  refine .nil (.regSeq ?_)
  refine .o (.alloc hs Tryz.zeroValue42 rfl ?_); intro b7 w hs
  refine .nil (.seq (.regSeq (.z zg (.nil (.block ?_)))))
  refine .loop (fun p : Nat => ⟨45, [], [(8, I (p : Int)), (7, .pointer (some ⟨b7, 0, none⟩)), (6, .pointer (some ⟨b6, 0, none⟩)), (0, .slice al l.length cl), (1, .slice ax x.length cx), (2, .slice ap picks.length cp)]⟩)
    (fun p w => p ≤ l.length ∧ ∃ v7 en, OwnS 1 v7 (Is (toldV l x picks p)) en ∧ St H w (en :: .blk b7 [v7] :: .blk b6 [.slice none 0 0] :: σ))
    (fun p => l.length - p) 0 (by repeat (first | exact .nil rfl rfl | refine .cons rfl ?_))
    ⟨by omega, _, _, .nil 1 none, hs.nul⟩ ?_
  rintro k w ⟨hk, v7, en, hO, hs⟩
  obtain ⟨a7, l7, c7, rfl, h7⟩ := hO.shape
  refine .seq (.regSeq (.z zm (.z zm (.z (zlen Tryz.runUnderlying28) (.z zlss (.nil ?_))))))
  refine (.condD rfl (fun hc13 => ?_) (fun hc13 => ?_))
  · refine .skip ?_
    refine nT ?_
    refine .seq (.block (.regSeq ?_))
    have hk' : k < l.length := by omega
    have hg := getP_get hk'
    obtain ⟨⟨u1, u2⟩, t1, t2⟩ := hin _ (getP_mem hk')
    have hbx := hxb (getP l k).u.toNat (by omega)
    have hm1 := Int.emod_nonneg (atI picks k) (b := 2 * (getP l k).t + 1) (by omega)
    have hm2 := Int.emod_lt_of_pos (atI picks k) (b := 2 * (getP l k).t + 1) (by omega)
    refine .z zm (.z zm ?_)
    refine .ixX hs hl rfl rfl Tryz.runUnderlying28 Tryz.sizeOf54 hg rfl ?_; intro b18 o18 hc18
    refine .z (zfa fa_api_Probe_1) ?_
    refine .q hs (q_loadR rfl Tryz.isAgg3 (hc18.get 1 rfl)) ?_
    refine .z zg (.nil ?_)
    refine .draw mix rfl hs ?_; intro w hs
    refine .z 0 rfl (zfa fa_api_Outcome_0) ?_; refine .y 1 rfl hs Tryz.isAgg25 ?_; refine .z 2 rfl zm ?_; refine .z 3 rfl zm ?_; refine .z 4 rfl zm ?_
    refine .ixX (enc := Prb.c) (i := 5) hs rfl (by kernel_rfl) .none hl rfl rfl Tryz.runUnderlying28 Tryz.sizeOf54 hg rfl ?_; intro b26 o26 hc26
    refine .z 6 rfl (zfa fa_api_Probe_0) ?_
    refine .r (i := 7) hs rfl (by kernel_rfl) .none (q_loadR rfl Tryz.isAgg3 (hc26.get 0 rfl)) ?_
    refine .ixX (enc := fun x => [I x]) (i := 8) hs rfl (by kernel_rfl) .none hx rfl rfl Tryz.runUnderlying25 Tryz.sizeOf3 (gi_get (l := x) (i := (getP l k).u.toNat) (by omega)) (by omega) ?_; intro b29 o29 hc29; replace hc29 := CellsAt.one hc29
    refine .r (i := 9) hs rfl (by kernel_rfl) .none (q_loadR rfl Tryz.isAgg3 hc29) ?_
    refine .z 10 rfl zm ?_; refine .z 11 rfl zm ?_; refine .z 13 rfl zm ?_; refine .z 14 rfl zmul ?_; refine .z 15 rfl zadd ?_; refine .z 18 rfl zm ?_
    refine .e1 (i := 12) (by kernel_rfl) rfl rfl .none hs ?_
    refine .call Tryz.call100 rfl (ref09_at_spec hs hp hpl) ?_; rintro _ w ⟨rfl, hs⟩
    refine .go ?_
    refine .e1 (i := 16) (by kernel_rfl) rfl rfl .none hs ?_
    refine .call Tryz.call99 rfl (ref09_mod_spec hs (by omega)) ?_; rintro _ w ⟨rfl, hs⟩
    refine .go ?_
    refine .z 17 rfl zadd ?_; refine .z 19 rfl zsub ?_
    refine .e1 (i := 20) (by kernel_rfl) rfl rfl .none hs ?_
    refine .buildSlice (cells := [I (tell1 x picks k (getP l k))]) hs bls_sl_int_1 rfl rfl ?_; intro b41 w hs
    refine .go ?_
    refine .e1 (i := 21) (by kernel_rfl) rfl rfl .none hs ?_
    refine .append (ys := Is [tell1 x picks k (getP l k)]) hs app_sl_int_int rfl rfl hO (.own .here rfl rfl) (Is_cell _) (fun l' h => by rw [List.length_map, toldV_length] at h; omega) ?_; intro v42 en42 w hO2 hs
    obtain ⟨a42, l42, c42, rfl, h42⟩ := hO2.shape
    refine .go ?_
    refine .z 22 rfl (zfa fa_api_Outcome_0) ?_
    refine .e1 (i := 23) (by kernel_rfl) rfl rfl .none hs ?_
    refine .store hs rfl rfl Tryz.sizeOf25 ?_; intro w hs
    refine .go ?_
    refine .done (by kernel_rfl) hs ?_
    refine nB (nT ?_)
    refine .region (.z zm (.z zadd (.z zg (.nil ?_))))
    refine nT ?_
    rw [← List.map_append, ← toldV_succ] at hO2
    exact ⟨k + 1, .consI rfl (by push_cast; omega) (by repeat (first | exact .nil rfl rfl | refine .cons rfl ?_)), ⟨by omega, _, _, hO2, hs.sub (by repeat (first | exact Sub.refl _ | constructor | apply Sub.weaken))⟩, by omega⟩
  · refine .exit ?_
    refine xT (xT (xB (nT ?_)))
    refine .regSeq (.y hs (zls [_] Tryz.isAgg42 Tryz.sizeOf42) ?_)
    refine .o (.stores (vs := [_]) hs rfl rfl Tryz.sizeOf42 ?_); intro w hs
    refine .nil ?_
    refine .ret ?_
    obtain rfl : k = l.length := by omega
    obtain ⟨H2, hle2, hRV, hs⟩ := OwnS.publishI hO (by rw [toldV_length]; omega) hs (by repeat constructor)
    exact Fin.retD [] [] hs fun w hs => ⟨_, results1 Tryz.results38 (rcells (vs := [_]) hs rfl Tryz.isAgg42 Tryz.sizeOf42), H2, hle2, ⟨_, rfl, hRV⟩, hs.out⟩
end Go.Proofs.YtiiokdeehlfeeaaGreat

namespace Go.Proofs.YtiiokdeehlfeeaaGreat
open Go.MW
def ValR (a : Quest) (p : Prb) (lo hi e : Int) : Prop := (CPrbR a [p] e ∧ e ≠ 0 ∧ lo = 0 ∧ hi = 0) ∨ (CPrbR a [p] 0 ∧ e = 0 ∧ ∃ l h, RangeR a.sys (oneW a.sys.many p.u) l h 0 ∧ lo = l - p.t ∧ hi = h + p.t)
theorem ValR.uniq {a : Quest} {p : Prb} {lo hi e lo' hi' e' : Int} (h : ValR a p lo hi e) (g : ValR a p lo' hi' e') : lo = lo' ∧ hi = hi' ∧ e = e' := by
  rcases h with ⟨h1, h2, h3, h4⟩ | ⟨h1, h2, l, u, h3, h4, h5⟩
  · rcases g with ⟨g1, g2, g3, g4⟩ | ⟨g1, g2, _⟩
    · exact ⟨by omega, by omega, h1.uniq g1⟩
    · exact (h2 (h1.uniq g1)).elim
  · rcases g with ⟨g1, g2, g3, g4⟩ | ⟨g1, g2, l', u', g3, g4, g5⟩
    · exact (g2 (g1.uniq h1)).elim
    · obtain ⟨rfl, rfl, _⟩ := h3.uniq g3
      exact ⟨by omega, by omega, by omega⟩
theorem probe_told_Range {R : Int → Int → Int → Prop} {H : Heap} {w : World} {σ : List Ent} {v vl : Value} {a : Quest} {l : List Prb} {g : Nat} {cap : List Value} (hs : St H w σ) (hr : RAsk H v a) (hp : RPs H vl l) (hc : ∀ args w, (callFunc g args).run Tryz.prog w = .ok (.enter g args) w)
    (hg : ∀ H' w σ', HLe H H' → CPrbR a l 0 → St H' w σ' → Cl Tryz.prog g ([v] ++ cap) w fun u w' => ∃ H'' lo hi e, HLe H' H'' ∧ u = .tuple #[.agg #[I lo, I hi], I e] ∧ R lo hi e ∧ St H'' w' σ') :
    Cl Tryz.prog 71 [v, vl, .func (.func g) #[] cap.toArray] w fun u w' => ∃ H1 lo hi e, HLe H H1 ∧ u = .tuple #[.agg #[I lo, I hi], I e] ∧ ((CPrbR a l e ∧ e ≠ 0 ∧ lo = 0 ∧ hi = 0) ∨ (CPrbR a l 0 ∧ R lo hi e)) ∧ St H1 w' σ := by
  obtain ⟨ul, uw, rfl, hl, hw⟩ := hr
  refine Cl.of Tryz.func71 rfl Tryz.ntmps71 (by simp) (args_cons (k := 0) rfl (args_cons (k := 1) rfl (args_cons (k := 2) rfl (args0)))) ?_
  refine .regSeq ?_
  refine .o (.box hs rfl rfl ?_); intro b3 w hs
  refine .o (.alloc hs Tryz.zeroValue50 rfl ?_); intro b6 w hs
  refine .z zg (.nil (.seq (.regSeq (.y hs (zls [_, _, _, _] Tryz.isAgg27 Tryz.sizeOf27) (.z zm ?_)))))
  refine .o (.call Tryz.call141 rfl (probe_CheckProbes_spec (a := a) hs ⟨_, _, rfl, hl, hw⟩ hp) ?_); rintro _ w ⟨H1, e, hle1, rfl, hC, hs⟩
  refine .z zg (.nil (.regSeq (.z zm (.z zneq (.nil ?_)))))
  refine (.condN rfl (fun hc14 => ?_) (fun hc14 => ?_))
  · refine .regSeq ?_
    refine .o (.alloc hs Tryz.zeroValue50 rfl ?_); intro b9 w hs
    refine .nil (.regSeq (.y hs (zls [_, _] Tryz.isAgg50 Tryz.sizeOf50) (.z zm ?_)))
    refine .o (.stores (vs := [_, _]) hs rfl rfl Tryz.sizeOf50 ?_); intro w hs
    refine .z zg (.nil ?_)
    refine .ret (rT (?_))
    exact Fin.retD [] [] hs fun w hs => ⟨_, results2 Tryz.results71 (rcells (vs := [_, _]) hs rfl Tryz.isAgg50 Tryz.sizeOf50) rfl, H1, 0, 0, e, hle1, rfl, .inl ⟨hC, hc14, rfl, rfl⟩, hs.out⟩
  · refine .skip ?_
    refine nT ?_
    refine .regSeq (.z zm (.y hs (zls [_, _, _, _] Tryz.isAgg27 Tryz.sizeOf27) ?_))
    rw [hc14] at hC
    refine .o (.callG (first := []) rfl rfl hc (hg _ _ _ hle1 hC hs) ?_); rintro _ w ⟨H2, lo, hi, e2, hle2, rfl, hR, hs⟩
    refine .z zex (.z zex ?_)
    refine .o (.stores (vs := [_, _]) hs rfl rfl Tryz.sizeOf50 ?_); intro w hs
    refine .z zg (.nil ?_)
    refine .ret ?_
    exact Fin.retD [] [] hs fun w hs => ⟨_, results2 Tryz.results71 (rcells (vs := [_, _]) hs rfl Tryz.isAgg50 Tryz.sizeOf50) rfl, H2, lo, hi, e2, hle1.trans hle2, rfl, .inr ⟨hC, hR⟩, hs.out⟩
theorem probe_Values_1 {H : Heap} {w : World} {σ : List Ent} {v : Value} {a : Quest} {b : Nat} {p : Prb} (hs : St H w σ) (hr : RAsk H v a) (hb : Row H b p.c) (hok : AskOk a) (hp : PrbIn a p) :
    Cl Tryz.prog 72 [v, .pointer (some ⟨b, 0, none⟩)] w fun u w' => ∃ H'' lo hi e, HLe H H'' ∧ u = .tuple #[.agg #[I lo, I hi], I e] ∧ (∃ l h, RangeR a.sys (oneW a.sys.many p.u) l h e ∧ lo = l - p.t ∧ hi = h + p.t) ∧ St H'' w' σ := by
  obtain ⟨ul, uw, rfl, hl, hw⟩ := hr
  obtain ⟨⟨u1, u2⟩, t1, t2⟩ := hp
  have hm1 := hok.many
  have hb0 : cellAt H b 0 = some (I p.u) := hb.at 0
  refine Cl.of Tryz.func72 rfl Tryz.ntmps72 (by simp) (args_cons (k := 0) rfl (args_cons (k := 1) rfl (args0))) ?_
  refine .regSeq ?_
  refine .o (.box hs rfl rfl ?_); intro b2 w hs
  refine .o (.alloc hs Tryz.zeroValue50 rfl ?_); intro b3 w hs
  refine .z zg (.nil ?_)
  refine .seq (.draw mix rfl hs ?_); intro w hs
  refine .z 0 rfl (zfa fa_api_Ask_0) ?_; refine .ys 1 rfl hs [_, _] Tryz.isAgg24 Tryz.sizeOf24 ?_; refine .ys 2 rfl hs [_, _, _, _] Tryz.isAgg27 Tryz.sizeOf27 ?_; refine .z 3 rfl (zfa fa_api_Probe_0) ?_; refine .y 4 rfl hs Tryz.isAgg3 ?_
  refine .e1 (i := 5) (by kernel_rfl) rfl rfl .none hs ?_
  refine .call Tryz.call74 rfl (probe_one_spec (a := a) (u := p.u) hs ⟨_, _, rfl, hl, hw⟩ (by omega) (by omega)) ?_; rintro v14 w ⟨H1, hle1, hR1, hs⟩
  obtain ⟨a14, c14, rfl⟩ := RI.shape hR1
  refine .go ?_
  refine .e1 (i := 6) (by kernel_rfl) rfl rfl .none hs ?_
  refine .call Tryz.call73 rfl (bound_Range_spec (s := a.sys) hs ⟨_, rfl, hl.mono hle1⟩ hR1) ?_; rintro _ w ⟨H2, lo, hi, e, hle2, rfl, hR, hs⟩
  have hbd := hR.bd
  have hb1 : cellAt H2 b 1 = some (I p.t) := (hb.mono (hle1.trans hle2)).at 1
  refine .go ?_
  refine .z 7 rfl zm ?_; refine .z 8 rfl zex ?_; refine .z 9 rfl zex ?_; refine .z 10 rfl zex ?_; refine .z 11 rfl zg ?_; refine .z 12 rfl zg ?_; refine .z 13 rfl zg ?_; refine .done (by kernel_rfl) hs ?_
  refine .regSeq (.z zm (.z (zfa fa_api_Probe_1) (.y hs (zld Tryz.isAgg3) (.z zsub (.z zm (.z (zfa fa_api_Probe_1) (.y hs (zld Tryz.isAgg3) (.z zadd (.z (zbd [_, _] bld_api_Range) ?_)))))))))
  refine .z zm ?_
  refine .o (.stores (vs := [_, _]) hs rfl rfl Tryz.sizeOf50 ?_); intro w hs
  refine .z zg (.nil ?_)
  refine .ret ?_
  exact Fin.endD [] [] hs fun w hs => ⟨_, results2 Tryz.results72 (rcells (vs := [_, _]) hs rfl Tryz.isAgg50 Tryz.sizeOf50) rfl, H2, _, _, e, hle1.trans hle2, rfl, ⟨lo, hi, hR, rfl, rfl⟩, hs.out⟩
theorem probe_Values_spec {H : Heap} {w : World} {σ : List Ent} {v : Value} {a : Quest} {p : Prb} (hs : St H w σ) (hr : RAsk H v a) :
    Cl Tryz.prog 23 [v, .agg p.c.toArray] w fun u w' => ∃ H1 lo hi e, HLe H H1 ∧ u = .tuple #[.agg #[I lo, I hi], I e] ∧ ValR a p lo hi e ∧ St H1 w' σ := by
  obtain ⟨ul, uw, rfl, hl, hw⟩ := hr
  refine Cl.of Tryz.func23 rfl Tryz.ntmps23 (by simp) (args_cons (k := 0) rfl (args_cons (k := 1) rfl (args0))) ?_
  refine .regSeq ?_
  refine .o (.box hs rfl rfl ?_); intro b2 w hs
  refine .o (.box hs rfl rfl ?_); intro b3 w hs
  refine .o (.alloc hs Tryz.zeroValue50 rfl ?_); intro b4 w hs
  refine .z zg (.nil (.regSeq (.y hs (zls [_, _, _, _] Tryz.isAgg27 Tryz.sizeOf27) (.y hs (zls [_, _] Tryz.isAgg54 Tryz.sizeOf54) ?_))))
  refine .o (.buildSlice (cells := [_, _]) hs bls_sl_api_Probe_1 rfl rfl ?_); intro b8 w hs
  refine .q hs (q_makeFunc (f := []) (c := [_]) rfl rfl) ?_
  obtain ⟨H0, hle0, hRP, hs⟩ := OwnS.publish (m := 2) (v := .slice (some ⟨b8, 0, none⟩) 1 1) (cs := [p.c]) (.full (len := 1) rfl) (fun c hc => by simp only [List.mem_singleton] at hc; subst hc; rfl) (by omega) (by simp) hs .here
  obtain ⟨H1, hle1, hb3, hs⟩ := hs.publish (b := b3) (by repeat constructor)
  have hle01 := hle0.trans hle1
  refine .o (.call Tryz.call71 rfl (probe_told_Range (R := fun lo hi e => ∃ l h, RangeR a.sys (oneW a.sys.many p.u) l h e ∧ lo = l - p.t ∧ hi = h + p.t) (a := a) (l := [p]) (cap := [.pointer (some ⟨b3, 0, none⟩)]) hs ⟨_, _, rfl, hl.mono hle01, hw.mono hle01⟩ (RS.mono hRP hle1) Tryz.call72 ?_) ?_)
  · rintro H' w σ' hle hC hs
    obtain ⟨hok, hlen, hin⟩ := hC.zero
    exact probe_Values_1 (a := a) (p := p) hs ⟨_, _, rfl, (hl.mono hle01).mono hle, (hw.mono hle01).mono hle⟩ (hb3.mono hle) hok (hin p (by simp)).inn
  rintro _ w ⟨H2, lo, hi, e, hle2, rfl, hcase, hs⟩
  refine .z zex (.z zex ?_)
  refine .o (.stores (vs := [_, _]) hs rfl rfl Tryz.sizeOf50 ?_); intro w hs
  refine .z zg (.nil ?_)
  refine .ret ?_
  refine Fin.endD [] [] hs fun w hs => ⟨_, results2 Tryz.results23 (rcells (vs := [_, _]) hs rfl Tryz.isAgg50 Tryz.sizeOf50) rfl, H2, lo, hi, e, hle01.trans hle2, rfl, ?_, hs.out⟩
  rcases hcase with ⟨h1, h2, h3, h4⟩ | ⟨h1, l, h, h2, h3, h4⟩
  · exact .inl ⟨h1, h2, h3, h4⟩
  · obtain ⟨hok, hlen, hin⟩ := h1.zero
    obtain ⟨_, _, l', h', h5, _⟩ := hin p (by simp)
    obtain ⟨rfl, rfl, rfl⟩ := h2.uniq h5
    exact .inr ⟨h1, rfl, _, _, h2, h3, h4⟩
end Go.Proofs.YtiiokdeehlfeeaaGreat

namespace Go.Proofs.YtiiokdeehlfeeaaGreat
open Go.MW
set_option maxHeartbeats 4000000 in
theorem ref09_Made_spec {H : Heap} {w : World} {σ : List Ent} {cs : List Value} {r : Raw} (hs : St H w σ) (hr : RRawC H cs r) (hin : r.In) :
    Cl Tryz.prog 93 [.agg cs.toArray] w fun u w' => ∃ H1, HLe H H1 ∧ RAsk H1 u (madeQ r) ∧ St H1 w' σ := by
  obtain ⟨vh, vl, vw, rfl, h1, h2, h3⟩ := hr
  obtain ⟨ah, ch, rfl⟩ := RI.shape h1
  obtain ⟨al, cl, e2⟩ := h2.shape
  obtain ⟨aw, cw, rfl⟩ := RI.shape h3
  rw [List.length_map] at e2
  subst e2
  have i1 := hin.hull.1
  have i2 := hin.ws.1
  have i3 := hin.lims
  have eN : 1 + (r.hull.length : Int) % 5 = (mN r : Int) := by unfold mN; omega
  have hN := mN_bd r
  refine Cl.of Tryz.func93 rfl Tryz.ntmps93 (by simp) (args_cons (k := 0) rfl (args0)) ?_
  refine .regSeq ?_
  refine .o (.box hs rfl rfl ?_); intro b1 w hs
  refine .o (.alloc hs Tryz.zeroValue27 rfl ?_); intro b2 w hs
  refine .nil (.regSeq (.z (zfa fa_moorsomref09_Raw_0) (.y hs (zld Tryz.isAgg25) (.z (zlen Tryz.runUnderlying25) ?_))))
  refine .o (.call Tryz.call99 rfl (ref09_mod_spec hs (by decide)) ?_); rintro _ w ⟨rfl, hs⟩
  refine .z zadd ?_
  rw [eN]
  refine .z zg (.nil (.regSeq ?_))
  refine .o (.buildSlice (cells := [_]) hs bls_sl_int_1 rfl rfl ?_); intro b18 w hs
  refine .z zg (.nil (.regSeq (.z (zfa fa_moorsomref09_Raw_3) (.y hs (zld Tryz.isAgg3) ?_))))
  refine .o (.call Tryz.call99 rfl (ref09_mod_spec hs (by decide)) ?_); rintro _ w ⟨rfl, hs⟩
  refine .o (.buildSlice (cells := [_]) hs bls_sl_int_1 rfl rfl ?_); intro b22 w hs
  refine .z (zbd [_, _, _, _] bld_api_Ask) ?_
  refine .o (.alloc hs Tryz.zeroValue27 rfl ?_); intro b5 w hs
  refine .o (.stores (vs := [_, _, _, _]) hs rfl rfl Tryz.sizeOf27 ?_); intro w hs
  refine .nil (.regSeq (.z zm (.z (zfa fa_api_Ask_0) (.z (zfa fa_api_System_0) ?_))))
  refine .o (.store hs rfl rfl Tryz.sizeOf3 ?_); intro w hs
  refine .nil (.seq (.regSeq (.z zg (.nil (.block ?_)))))
  refine .loop (fun p : Nat × Value => ⟨149, [], [(6, I (p.1 : Int)), (4, p.2), (3, I (mN r : Int)), (1, .pointer (some ⟨b1, 0, none⟩)), (2, .pointer (some ⟨b2, 0, none⟩)), (5, .pointer (some ⟨b5, 0, none⟩))]⟩)
    (fun p w => p.1 ≤ mN r ∧ ∃ vl vw en4 enl enw, OwnS 1 p.2 (Is (mHull r p.1)) en4 ∧ OwnS 4 vl (Lims (baseLims r p.1)) enl ∧ OwnS 1 vw (Is (mWs r p.1)) enw ∧
      St H w (.blk b5 [I (mN r : Int), vl, vw, I (r.width % 400)] :: .blk b1 [.slice ah r.hull.length ch, .slice al r.lims.length cl, .slice aw r.ws.length cw, I r.width] :: .blk b2 [I 0, .slice none 0 0, .slice none 0 0, I 0] :: en4 :: enl :: enw :: σ))
    (fun p => mN r - p.1) (0, .slice (some ⟨b18, 0, none⟩) 1 1) (by repeat (first | exact .nil rfl rfl | refine .cons rfl ?_))
    ⟨by omega, _, _, _, _, _, .full rfl, .nil 4 none, .full rfl, hs.nul.sub (by repeat (first | exact Sub.refl _ | constructor | apply Sub.weaken))⟩ ?_
  rintro ⟨k, v4⟩ w ⟨hk, vl, vw, en4, enl, enw, hO4, hOl, hOw, hs⟩
  dsimp only at hk hO4 hOl hOw ⊢
  obtain ⟨a4, l4, c4, rfl, h4⟩ := hO4.shape
  obtain ⟨al2, ll2, cl2, rfl, hl2⟩ := hOl.shape
  obtain ⟨aw2, lw2, cw2, rfl, hw2⟩ := hOw.shape
  refine .seq (.regSeq (.z zm (.z zm (.z zlss (.nil ?_)))))
  refine (.condD rfl (fun hc29 => ?_) (fun hc29 => ?_))
  · refine .skip ?_
    refine nT ?_
    refine .seq (.block (.regSeq (.z (zfa fa_moorsomref09_Raw_0) (.y hs (zld Tryz.isAgg25) (.z zm ?_)))))
    refine .o (.call Tryz.call100 rfl (ref09_at_spec hs h1 (by omega)) ?_); rintro _ w ⟨rfl, hs⟩
    refine .o (.call Tryz.call99 rfl (ref09_mod_spec hs (by decide)) ?_); rintro _ w ⟨rfl, hs⟩
    refine .z zg (.nil (.regSeq (.z zm (.z zm ?_))))
    refine .o (.buildSlice (cells := [_]) hs bls_sl_int_1 rfl rfl ?_); intro b39 w hs
    refine .o (.append (ys := [I (mH r k)]) hs app_sl_int_int rfl rfl hO4 (.own .here rfl rfl) (by simp [Value.oneCell']) (fun l h => by simp [mHull] at h; omega) ?_); intro v40 en40 w hO4' hs
    refine .z zg (.nil (.regSeq (.z (zfa fa_moorsomref09_Raw_0) (.y hs (zld Tryz.isAgg25) (.z zm ?_)))))
    refine .o (.call Tryz.call100 rfl (ref09_at_spec hs h1 (by omega)) ?_); rintro _ w ⟨rfl, hs⟩
    refine .z zquo ?_
    rw [i64wrap (tdiv_bd (atI_in hin.hull.2 k) (by decide))]
    refine .o (.call Tryz.call99 rfl (ref09_mod_spec hs (by decide)) ?_); rintro _ w ⟨rfl, hs⟩
    refine .z zg (.nil (.regSeq (.z (zfa fa_moorsomref09_Raw_0) (.y hs (zld Tryz.isAgg25) (.z zm ?_)))))
    refine .o (.call Tryz.call100 rfl (ref09_at_spec hs h1 (by omega)) ?_); rintro _ w ⟨rfl, hs⟩
    refine .z zquo ?_
    rw [i64wrap (tdiv_bd (atI_in hin.hull.2 k) (by decide))]
    refine .o (.call Tryz.call99 rfl (ref09_mod_spec hs (by decide)) ?_); rintro _ w ⟨rfl, hs⟩
    refine .z zg (.nil (.regSeq (.z (zfa fa_api_Ask_0) (.z (zfa fa_api_System_1) (.y hs (zld Tryz.isAgg22) (.z zm (.z zadd (.z zm (.z zm ?_)))))))))
    refine .z zadd (.z zm (.z zadd (.z (zbd [_, _, _, _] bld_api_Limit) (.z zm (.z zadd (.z zm (.z zm (.z zsub (.z zm ?_)))))))))
    refine .z zadd (.z (zbd [_, _, _, _] bld_api_Limit) ?_)
    refine .o (.buildSlice (cells := Lims (baseOne r k)) hs bls_sl_api_Limit_2 rfl (by kernel_rfl) ?_); intro b72 w hs
    refine .o (.append (ys := Lims (baseOne r k)) hs app_sl_api_Limit_api_Limit rfl rfl hOl (.own .here rfl rfl) (Lims_cell _) (fun l h => by rw [Lims_length, baseLims_length] at h; omega) ?_); intro v73 en73 w hOl' hs
    obtain ⟨a73, l73, c73, rfl, h73⟩ := hOl'.shape
    refine .z (zfa fa_api_Ask_0) (.z (zfa fa_api_System_1) ?_)
    refine .o (.store hs rfl rfl Tryz.sizeOf22 ?_); intro w hs
    refine .nil ?_
    refine .draw mix rfl hs ?_; intro w hs
    refine .z 0 rfl (zfa fa_api_Ask_1) ?_; refine .y 1 rfl hs Tryz.isAgg25 ?_; refine .z 2 rfl (zfa fa_moorsomref09_Raw_2) ?_; refine .y 3 rfl hs Tryz.isAgg25 ?_; refine .z 4 rfl zm ?_
    refine .e1 (i := 5) (by kernel_rfl) rfl rfl .none hs ?_
    refine .call Tryz.call100 rfl (ref09_at_spec hs h3 (by omega)) ?_; rintro _ w ⟨rfl, hs⟩
    refine .go ?_
    refine .e1 (i := 6) (by kernel_rfl) rfl rfl .none hs ?_
    refine .call Tryz.call99 rfl (ref09_mod_spec hs (by decide)) ?_; rintro _ w ⟨rfl, hs⟩
    refine .go ?_
    have hb0 := Int.emod_nonneg (atI r.ws (k : Int)) (b := 13) (by decide)
    have hb1 := Int.emod_lt_of_pos (atI r.ws (k : Int)) (b := 13) (by decide)
    refine .z 7 rfl zsub ?_
    refine .e1 (i := 8) (by kernel_rfl) rfl rfl .none hs ?_
    refine .buildSlice (cells := [_]) hs bls_sl_int_1 rfl rfl ?_; intro b84 w hs
    refine .go ?_
    refine .e1 (i := 9) (by kernel_rfl) rfl rfl .none hs ?_
    refine .append (ys := [I (atI r.ws (k : Int) % 13 - 4)]) hs app_sl_int_int rfl rfl hOw (.own .here rfl rfl) (by simp [Value.oneCell']) (fun l h => by simp [mWs] at h; omega) ?_; intro v85 en85 w hOw' hs
    obtain ⟨a85, l85, c85, rfl, h85⟩ := hOw'.shape
    refine .go ?_
    refine .z 10 rfl (zfa fa_api_Ask_1) ?_
    refine .e1 (i := 11) (by kernel_rfl) rfl rfl .none hs ?_
    refine .store hs rfl rfl Tryz.sizeOf25 ?_; intro w hs
    refine .go ?_
    refine .done (by kernel_rfl) hs ?_
    refine nB (nT ?_)
    refine .region (.z zm (.z zadd (.z zg (.nil ?_))))
    refine nT ?_
    have e4 : Is (mHull r k) ++ [I (mH r k)] = Is (mHull r (k + 1)) := by rw [mHull_snoc]; simp [Is]
    have ew : Is (mWs r k) ++ [I (atI r.ws (k : Int) % 13 - 4)] = Is (mWs r (k + 1)) := by rw [mWs_snoc]; simp [Is]
    rw [e4] at hO4'; rw [ew] at hOw'; rw [← Lims_append] at hOl'
    exact ⟨(k + 1, v40), .consI rfl (by push_cast; omega) (by repeat (first | exact .nil rfl rfl | refine .cons rfl ?_)), ⟨by dsimp only; omega, _, _, _, _, _, hO4', hOl', hOw', hs.sub (by repeat (first | exact Sub.refl _ | constructor | apply Sub.weaken))⟩, by dsimp only; omega⟩
  · refine .exit ?_
    refine xT (xT (xB (nT ?_)))
    refine .seq (.regSeq (.z zg (.nil (.block ?_))))
    obtain rfl : k = mN r := by omega
    obtain ⟨H1, hle1, hRh, hs⟩ := hO4.publishI (by rw [mHull_length]; omega) hs (by repeat constructor)
    refine .loop (fun k : Nat => ⟨149, [], [(10, I (k : Int)), (4, .slice a4 l4 c4), (3, I (mN r : Int)), (1, .pointer (some ⟨b1, 0, none⟩)), (2, .pointer (some ⟨b2, 0, none⟩)), (5, .pointer (some ⟨b5, 0, none⟩))]⟩)
      (fun k w => k ≤ min r.lims.length 8 ∧ ∃ vl enl, OwnS 4 vl (Lims (baseLims r (mN r) ++ moreLims r k)) enl ∧
        St H1 w (.blk b5 [I (mN r : Int), vl, .slice aw2 lw2 cw2, I (r.width % 400)] :: .blk b1 [.slice ah r.hull.length ch, .slice al r.lims.length cl, .slice aw r.ws.length cw, I r.width] :: .blk b2 [I 0, .slice none 0 0, .slice none 0 0, I 0] :: enl :: enw :: σ))
      (fun k => 8 - k) 0 (by repeat (first | exact .nil rfl rfl | refine .cons rfl ?_))
      ⟨by omega, _, _, by simpa [moreLims] using hOl, hs.sub (by repeat (first | exact Sub.refl _ | constructor | apply Sub.weaken))⟩ ?_
    rintro k w ⟨hk, vl, enl, hOl, hs⟩
    obtain ⟨al2, ll2, cl2, rfl, hl2⟩ := hOl.shape
    have h2' := h2.mono hle1
    refine .seq (.regSeq (.z zm (.z (zfa fa_moorsomref09_Raw_1) (.y hs (zld Tryz.isAgg73) (.z (zlen Tryz.runUnderlying73) (.z zlss (.z zm ?_)))))))
    refine .bifD (t' := 92) rfl (fun hb92 => ?_) (fun hb92 => ?_)
    · refine .gT rfl rfl ?_
      refine .z zm ?_
      refine .gT rfl rfl ?_
      refine .z zlss (.z zpT (.nil ?_))
      refine (.condD rfl (fun hc95 => ?_) (fun hc95 => ?_))
      · refine .skip ?_
        refine nT ?_
        refine .seq (.block (.regSeq (.z (zfa fa_moorsomref09_Raw_1) (.y hs (zld Tryz.isAgg73) (.z zm ?_)))))
        obtain ⟨x, hx⟩ := nth (l := r.lims) (k := k) (by omega)
        refine .ixX (enc := Tri.v) hs h2' rfl rfl Tryz.runUnderlying73 Tryz.sizeOf179 hx rfl ?_; intro b101 o101 hc101
        first | refine .q hs (q_ixA0 (k := 0) rfl rfl Tryz.runUnderlying179 Tryz.sizeOf3 rfl (by decide)) ?_ | refine .q hs (q_ixA (k := 0) rfl rfl Tryz.runUnderlying179 Tryz.sizeOf3 rfl (by decide)) ?_
        refine .q hs (q_loadR rfl Tryz.isAgg3 (hc101.get 0 rfl)) ?_
        refine .z zm (.z zadd ?_)
        refine .o (.call Tryz.call99 rfl (ref09_mod_spec hs (by omega)) ?_); rintro _ w ⟨rfl, hs⟩
        refine .z zg (.nil (.regSeq (.z (zfa fa_moorsomref09_Raw_1) (.y hs (zld Tryz.isAgg73) (.z zm ?_)))))
        refine .ixX (enc := Tri.v) hs h2' rfl rfl Tryz.runUnderlying73 Tryz.sizeOf179 hx rfl ?_; intro b110 o110 hc110
        first | refine .q hs (q_ixA0 (k := 1) rfl rfl Tryz.runUnderlying179 Tryz.sizeOf3 rfl (by decide)) ?_ | refine .q hs (q_ixA (k := 1) rfl rfl Tryz.runUnderlying179 Tryz.sizeOf3 rfl (by decide)) ?_
        refine .q hs (q_loadR rfl Tryz.isAgg3 (hc110.get 1 rfl)) ?_
        refine .z zm (.z zadd ?_)
        refine .o (.call Tryz.call99 rfl (ref09_mod_spec hs (by omega)) ?_); rintro _ w ⟨rfl, hs⟩
        have xa0 := Int.emod_nonneg x.a (b := (mN r : Int) + 1) (by omega)
        have xa1 := Int.emod_lt_of_pos x.a (b := (mN r : Int) + 1) (by omega)
        have xb0 := Int.emod_nonneg x.b (b := (mN r : Int) + 1) (by omega)
        have xb1 := Int.emod_lt_of_pos x.b (b := (mN r : Int) + 1) (by omega)
        have xc0 := Int.emod_nonneg x.c (b := 25) (by decide)
        have xc1 := Int.emod_lt_of_pos x.c (b := 25) (by decide)
        have hha := mHull_bd r (mN r) (x.a % ((mN r : Int) + 1)).toNat
        have hhb := mHull_bd r (mN r) (x.b % ((mN r : Int) + 1)).toNat
        refine .z zg (.nil (.regSeq (.z zm (.z zm (.z zneq (.nil ?_))))))
        refine (.condN rfl (fun hc118 => ?_) (fun hc118 => ?_))
        · refine .draw mix rfl hs ?_; intro w hs
          refine .z 0 rfl (zfa fa_api_Ask_0) ?_; refine .z 1 rfl (zfa fa_api_System_1) ?_; refine .y 2 rfl hs Tryz.isAgg22 ?_; refine .z 3 rfl zm ?_; refine .z 4 rfl zm ?_; refine .z 5 rfl zm ?_; refine .z 6 rfl zm ?_
          refine .ixX (enc := fun x => [I x]) (i := 7) hs rfl (by kernel_rfl) .none hRh rfl rfl Tryz.runUnderlying25 Tryz.sizeOf3 (gi_get (l := mHull r (mN r)) (i := (x.b % ((mN r : Int) + 1)).toNat) (by rw [mHull_length]; omega)) (by omega) ?_; intro b126 o126 hc126; replace hc126 := CellsAt.one hc126
          refine .r (i := 8) hs rfl (by kernel_rfl) .none (q_loadR rfl Tryz.isAgg3 hc126) ?_
          refine .z 9 rfl zm ?_; refine .z 10 rfl zm ?_
          refine .ixX (enc := fun x => [I x]) (i := 11) hs rfl (by kernel_rfl) .none hRh rfl rfl Tryz.runUnderlying25 Tryz.sizeOf3 (gi_get (l := mHull r (mN r)) (i := (x.a % ((mN r : Int) + 1)).toNat) (by rw [mHull_length]; omega)) (by omega) ?_; intro b130 o130 hc130; replace hc130 := CellsAt.one hc130
          refine .r (i := 12) hs rfl (by kernel_rfl) .none (q_loadR rfl Tryz.isAgg3 hc130) ?_
          refine .z 13 rfl zsub ?_; refine .z 14 rfl (zfa fa_moorsomref09_Raw_1) ?_; refine .y 15 rfl hs Tryz.isAgg73 ?_; refine .z 16 rfl zm ?_
          refine .ixX (enc := Tri.v) (i := 17) hs rfl (by kernel_rfl) .none h2' rfl rfl Tryz.runUnderlying73 Tryz.sizeOf179 hx rfl ?_; intro b136 o136 hc136
          first | refine .p (i := 18) rfl (by kernel_rfl) .none (q_ixA0 (k := 2) rfl rfl Tryz.runUnderlying179 Tryz.sizeOf3 rfl (by decide)) ?_ | refine .p (i := 18) rfl (by kernel_rfl) .none (q_ixA (k := 2) rfl rfl Tryz.runUnderlying179 Tryz.sizeOf3 rfl (by decide)) ?_
          refine .r (i := 19) hs rfl (by kernel_rfl) .none (q_loadR rfl Tryz.isAgg3 (hc136.get 2 rfl)) ?_
          refine .z 22 rfl zm ?_; refine .z 23 rfl zadd ?_
          refine .e1 (i := 20) (by kernel_rfl) rfl rfl .none hs ?_
          refine .call Tryz.call99 rfl (ref09_mod_spec hs (by decide)) ?_; rintro _ w ⟨rfl, hs⟩
          refine .go ?_
          refine .z 21 rfl zadd ?_; refine .z 24 rfl (zbd [_, _, _, _] bld_api_Limit) ?_
          refine .e1 (i := 25) (by kernel_rfl) rfl rfl .none hs ?_
          refine .buildSlice (cells := Lim.c ⟨x.a % ((mN r : Int) + 1), x.b % ((mN r : Int) + 1), gi (mHull r (mN r)) (x.b % ((mN r : Int) + 1)).toNat - gi (mHull r (mN r)) (x.a % ((mN r : Int) + 1)).toNat + x.c % 25, 20 + k⟩) hs bls_sl_api_Limit_1 rfl rfl ?_; intro b144 w hs
          refine .go ?_
          refine .e1 (i := 26) (by kernel_rfl) rfl rfl .none hs ?_
          refine .append (ys := Lim.c ⟨x.a % ((mN r : Int) + 1), x.b % ((mN r : Int) + 1), gi (mHull r (mN r)) (x.b % ((mN r : Int) + 1)).toNat - gi (mHull r (mN r)) (x.a % ((mN r : Int) + 1)).toNat + x.c % 25, 20 + k⟩) hs app_sl_api_Limit_api_Limit rfl rfl hOl (.own .here rfl rfl) (by simp [Lim.c, Value.oneCell']) (fun l h => by have := moreLims_length r k; rw [Lims_length, List.length_append, baseLims_length] at h; omega) ?_; intro v145 en145 w hOl' hs
          obtain ⟨a145, l145, c145, rfl, h145⟩ := hOl'.shape
          refine .go ?_
          refine .z 27 rfl (zfa fa_api_Ask_0) ?_; refine .z 28 rfl (zfa fa_api_System_1) ?_
          refine .e1 (i := 29) (by kernel_rfl) rfl rfl .none hs ?_
          refine .store hs rfl rfl Tryz.sizeOf22 ?_; intro w hs
          refine .go ?_
          refine .done (by kernel_rfl) hs ?_
          refine nB (nT ?_)
          refine .region (.z zm (.z zadd (.z zg (.nil ?_))))
          refine nT ?_
          rw [← Lims_one, ← Lims_append, List.append_assoc, show moreLims r k ++ [_] = moreLims r (k + 1) by rw [moreLims_succ hx]; unfold moreOne; rw [if_neg hc118]] at hOl'
          exact ⟨k + 1, .consI rfl (by push_cast; omega) (by repeat (first | exact .nil rfl rfl | refine .cons rfl ?_)), ⟨by omega, _, _, hOl', hs.sub (by repeat (first | exact Sub.refl _ | constructor | apply Sub.weaken))⟩, by omega⟩
        · refine .skip ?_
          refine nB (nT ?_)
          refine .region (.z zm (.z zadd (.z zg (.nil ?_))))
          refine nT ?_
          rw [show moreLims r k = moreLims r (k + 1) by rw [moreLims_succ hx]; unfold moreOne; rw [if_pos hc118]; simp] at hOl
          exact ⟨k + 1, .consI rfl (by push_cast; omega) (by repeat (first | exact .nil rfl rfl | refine .cons rfl ?_)), ⟨by omega, _, _, hOl, hs.sub (by repeat (first | exact Sub.refl _ | constructor | apply Sub.weaken))⟩, by omega⟩
      · refine .exit ?_
        refine xT (xT (xB (nT ?_)))
        refine .regSeq (.y hs (zls [_, _, _, _] Tryz.isAgg27 Tryz.sizeOf27) ?_)
        refine .o (.stores (vs := [_, _, _, _]) hs rfl rfl Tryz.sizeOf27 ?_); intro w hs
        refine .nil ?_
        refine .ret ?_
        obtain rfl : k = min r.lims.length 8 := by omega
        obtain ⟨H2, g1, g2, hs⟩ := OwnS.publish (cs := (madeQ r).sys.lims.map Lim.c) hOl (fun c hc => by simp only [List.mem_map] at hc; obtain ⟨x, _, rfl⟩ := hc; rfl) (by omega) (by have := (madeQ_made r).lims; rw [List.length_map]; omega) hs (by repeat constructor)
        obtain ⟨H3, g3, g4, hs⟩ := hOw.publishI (by rw [mWs_length]; omega) hs (by repeat constructor)
        exact Fin.retD [] [] hs fun w hs => ⟨_, results1 Tryz.results93 (rcells (vs := [_, _, _, _]) hs rfl Tryz.isAgg27 Tryz.sizeOf27), H3, hle1.trans (g1.trans g3), ⟨_, _, rfl, RS.mono g2 g3, g4⟩, hs.out⟩
    · refine .gFs 2 5 true rfl rfl rfl ?_
      refine .z zpF (.nil ?_)
      refine (.condF rfl rfl ?_)
      refine .exit ?_
      refine xT (xT (xB (nT ?_)))
      refine .regSeq (.y hs (zls [_, _, _, _] Tryz.isAgg27 Tryz.sizeOf27) ?_)
      refine .o (.stores (vs := [_, _, _, _]) hs rfl rfl Tryz.sizeOf27 ?_); intro w hs
      refine .nil ?_
      refine .ret ?_
      obtain rfl : k = min r.lims.length 8 := by omega
      obtain ⟨H2, g1, g2, hs⟩ := OwnS.publish (cs := (madeQ r).sys.lims.map Lim.c) hOl (fun c hc => by simp only [List.mem_map] at hc; obtain ⟨x, _, rfl⟩ := hc; rfl) (by omega) (by have := (madeQ_made r).lims; rw [List.length_map]; omega) hs (by repeat constructor)
      obtain ⟨H3, g3, g4, hs⟩ := hOw.publishI (by rw [mWs_length]; omega) hs (by repeat constructor)
      exact Fin.retD [] [] hs fun w hs => ⟨_, results1 Tryz.results93 (rcells (vs := [_, _, _, _]) hs rfl Tryz.isAgg27 Tryz.sizeOf27), H3, hle1.trans (g1.trans g3), ⟨_, _, rfl, RS.mono g2 g3, g4⟩, hs.out⟩
end Go.Proofs.YtiiokdeehlfeeaaGreat

namespace Go.Proofs.YtiiokdeehlfeeaaGreat
open Go.MW
theorem ref09_Probes_spec {H : Heap} {w : World} {σ : List Ent} {v vl : Value} {a : Quest} {l : List Two} {most : Nat} (hs : St H w σ) (hr : RAsk H v a) (hl : RS H 2 vl (l.map Two.v)) (hm : 1 ≤ a.sys.many ∧ a.sys.many ≤ 1000) (h8 : most ≤ 100) :
    Cl Tryz.prog 94 [v, vl, I (most : Int)] w fun u w' => ∃ H1, HLe H H1 ∧ RPs H1 u (prbsOf a.sys.many l most) ∧ St H1 w' σ := by
  obtain ⟨ul, uw, rfl, h1, h2⟩ := hr
  obtain ⟨al, cl, e2⟩ := hl.shape
  rw [List.length_map] at e2
  subst e2
  refine Cl.of Tryz.func94 rfl Tryz.ntmps94 (by simp) (args_cons (k := 0) rfl (args_cons (k := 1) rfl (args_cons (k := 2) rfl (args0)))) ?_
  refine .regSeq ?_
  refine .o (.box hs rfl rfl ?_); intro b3 w hs
  refine .z zg (.nil (.regSeq (.z zg (.nil (.seq (.regSeq (.z zg (.nil (.block ?_)))))))))
  refine .loop (fun p : Nat × Value => ⟨41, [], [(8, I (p.1 : Int)), (7, p.2), (1, .slice al l.length cl), (2, I (most : Int)), (3, .pointer (some ⟨b3, 0, none⟩))]⟩)
    (fun p w => p.1 ≤ min most l.length ∧ ∃ en, OwnS 2 p.2 (Prbs (prbsOf a.sys.many l p.1)) en ∧ St H w (en :: .blk b3 [I a.sys.many, ul, uw, I a.width] :: σ))
    (fun p => 100 - p.1) (0, .slice none 0 0) (by repeat (first | exact .nil rfl rfl | refine .cons rfl ?_))
    ⟨by omega, _, .nil 2 none, hs.nul⟩ ?_
  rintro ⟨k, v7⟩ w ⟨hk, en, hO, hs⟩
  dsimp only at hk hO ⊢
  refine .seq (.regSeq (.z zm (.z zm (.z (zlen Tryz.runUnderlying76) (.z zlss (.z zm ?_))))))
  refine .bifD (t' := 13) rfl (fun hb13 => ?_) (fun hb13 => ?_)
  · refine .gT rfl rfl ?_
    refine .z zm ?_
    refine .gT rfl rfl ?_
    refine .z zm ?_
    refine .gT rfl rfl ?_
    refine .z zlss (.z zpT (.nil ?_))
    refine (.condD rfl (fun hc17 => ?_) (fun hc17 => ?_))
    · refine .skip ?_
      refine nT ?_
      refine .seq (.block ?_)
      refine .draw mix rfl hs ?_; intro w hs
      refine .z 0 rfl zm ?_; refine .z 1 rfl zm ?_; refine .z 2 rfl zm ?_
      obtain ⟨x, hx⟩ := nth (l := l) (k := k) (by omega)
      have hb0 := Int.emod_nonneg x.a (b := a.sys.many) (by omega)
      have hb1 := Int.emod_lt_of_pos x.a (b := a.sys.many) (by omega)
      refine .ixX (enc := Two.v) (i := 3) hs rfl (by kernel_rfl) .none hl rfl rfl Tryz.runUnderlying76 Tryz.sizeOf180 hx rfl ?_; intro b23 o23 hc23
      first | refine .p (i := 4) rfl (by kernel_rfl) .none (q_ixA0 (k := 0) rfl rfl Tryz.runUnderlying180 Tryz.sizeOf3 rfl (by decide)) ?_ | refine .p (i := 4) rfl (by kernel_rfl) .none (q_ixA (k := 0) rfl rfl Tryz.runUnderlying180 Tryz.sizeOf3 rfl (by decide)) ?_
      refine .r (i := 5) hs rfl (by kernel_rfl) .none (q_loadR rfl Tryz.isAgg3 (hc23.get 0 rfl)) ?_
      refine .z 6 rfl (zfa fa_api_Ask_0) ?_; refine .z 7 rfl (zfa fa_api_System_0) ?_; refine .y 8 rfl hs Tryz.isAgg3 ?_; refine .z 11 rfl zm ?_; refine .z 12 rfl zm ?_
      refine .ixX (enc := Two.v) (i := 13) hs rfl (by kernel_rfl) .none hl rfl rfl Tryz.runUnderlying76 Tryz.sizeOf180 hx rfl ?_; intro b33 o33 hc33
      first | refine .p (i := 14) rfl (by kernel_rfl) .none (q_ixA0 (k := 1) rfl rfl Tryz.runUnderlying180 Tryz.sizeOf3 rfl (by decide)) ?_ | refine .p (i := 14) rfl (by kernel_rfl) .none (q_ixA (k := 1) rfl rfl Tryz.runUnderlying180 Tryz.sizeOf3 rfl (by decide)) ?_
      refine .r (i := 15) hs rfl (by kernel_rfl) .none (q_loadR rfl Tryz.isAgg3 (hc33.get 1 rfl)) ?_
      refine .e1 (i := 9) (by kernel_rfl) rfl rfl .none hs ?_
      refine .call Tryz.call99 rfl (ref09_mod_spec hs (by omega)) ?_; rintro _ w ⟨rfl, hs⟩
      refine .go ?_
      refine .z 10 rfl zadd ?_
      refine .e1 (i := 16) (by kernel_rfl) rfl rfl .none hs ?_
      refine .call Tryz.call99 rfl (ref09_mod_spec hs (by decide)) ?_; rintro _ w ⟨rfl, hs⟩
      refine .go ?_
      refine .z 17 rfl (zbd [_, _] bld_api_Probe) ?_
      refine .e1 (i := 18) (by kernel_rfl) rfl rfl .none hs ?_
      refine .buildSlice (cells := (prbOf a.sys.many x).c) hs bls_sl_api_Probe_1 rfl rfl ?_; intro b38 w hs
      refine .go ?_
      refine .e1 (i := 19) (by kernel_rfl) rfl rfl .none hs ?_
      refine .append (ys := (prbOf a.sys.many x).c) hs app_sl_api_Probe_api_Probe rfl rfl hO (.own .here rfl rfl) (by simp [Prb.c, Value.oneCell']) (fun l' h => by rw [Prbs_length, prbsOf_len] at h; omega) ?_; intro v39 en39 w hO' hs
      refine .go ?_
      refine .z 20 rfl zg ?_; refine .done (by kernel_rfl) hs ?_
      refine nB (nT ?_)
      refine .region (.z zm (.z zadd (.z zg (.nil ?_))))
      refine nT ?_
      exact ⟨(k + 1, v39), .consI rfl (by push_cast; omega) (by repeat (first | exact .nil rfl rfl | refine .cons rfl ?_)), ⟨by dsimp only; omega, en39, by rw [prbsOf_snoc hx, Prbs_append]; simpa [Prbs] using hO', hs.sub (by repeat (first | exact Sub.refl _ | constructor | apply Sub.weaken))⟩, by dsimp only; omega⟩
    · refine .exit ?_
      refine xT (xT (xB (nT ?_)))
      refine .regSeq (.z zm (.z zg (.nil ?_)))
      refine .ret (Fin.ret1 Tryz.results94 rfl ?_)
      have e : prbsOf a.sys.many l k = prbsOf a.sys.many l most := by
        unfold prbsOf
        congr 1
        by_cases h : most ≤ l.length
        · rw [show k = most by omega]
        · rw [List.take_of_length_le (by omega), List.take_of_length_le (by omega)]
      rw [e] at hO
      obtain ⟨H2, g1, g2, hs⟩ := OwnS.publish (cs := (prbsOf a.sys.many l most).map Prb.c) hO (fun c hc => by simp only [List.mem_map] at hc; obtain ⟨x, _, rfl⟩ := hc; rfl) (by omega) (by rw [List.length_map, prbsOf_len]; omega) hs (by repeat constructor)
      exact ⟨H2, g1, g2, hs.out⟩
  · refine .gFs 3 4 true rfl rfl rfl ?_
    refine .z zpF (.nil ?_)
    refine (.condF rfl rfl ?_)
    refine .exit ?_
    refine xT (xT (xB (nT ?_)))
    refine .regSeq (.z zm (.z zg (.nil ?_)))
    refine .ret (Fin.ret1 Tryz.results94 rfl ?_)
    have e : prbsOf a.sys.many l k = prbsOf a.sys.many l most := by
      unfold prbsOf
      congr 1
      by_cases h : most ≤ l.length
      · rw [show k = most by omega]
      · rw [List.take_of_length_le (by omega), List.take_of_length_le (by omega)]
    rw [e] at hO
    obtain ⟨H2, g1, g2, hs⟩ := OwnS.publish (cs := (prbsOf a.sys.many l most).map Prb.c) hO (fun c hc => by simp only [List.mem_map] at hc; obtain ⟨x, _, rfl⟩ := hc; rfl) (by omega) (by rw [List.length_map, prbsOf_len]; omega) hs (by repeat constructor)
    exact ⟨H2, g1, g2, hs.out⟩
theorem law09_made_spec {H : Heap} {w : World} {σ : List Ent} {cs : List Value} {c : Case} {most : Nat} (hs : St H w σ) (hr : RCase H cs c) (hin : c.raw.In) (h8 : most ≤ 100) :
    Cl Tryz.prog 35 [.agg cs.toArray, I (most : Int)] w fun u w' => ∃ H1 va vl, HLe H H1 ∧ u = .tuple #[va, vl] ∧ RAsk H1 va (madeQ c.raw) ∧ RPs H1 vl (prbsOf (mN c.raw) c.prbs most) ∧ St H1 w' σ := by
  obtain ⟨rs, vp, rfl, hrr, hp⟩ := hr
  have hrr' := hrr
  obtain ⟨vh, vl, vw, rfl, h1, h2, h3⟩ := hrr'
  have hN := mN_bd c.raw
  refine Cl.of Tryz.func35 rfl Tryz.ntmps35 (by simp) (args_cons (k := 0) rfl (args_cons (k := 1) rfl (args0))) ?_
  refine .regSeq ?_
  refine .o (.box hs rfl rfl ?_); intro b2 w hs
  refine .o (.alloc hs Tryz.zeroValue27 rfl ?_); intro b4 w hs
  refine .z zg (.nil (.regSeq (.z (zfa fa_moorsomlaw09_Case_0) (.y hs (zls [_, _, _, _] Tryz.isAgg75 Tryz.sizeOf75) ?_))))
  refine .o (.call Tryz.call93 rfl (ref09_Made_spec hs hrr hin) ?_); rintro _ w ⟨H1, hle1, ⟨ul, uw, rfl, g1, g2⟩, hs⟩
  obtain ⟨aul, cul, rfl⟩ := RL.shape g1
  obtain ⟨auw, cuw, rfl⟩ := RI.shape g2
  refine .o (.alloc hs Tryz.zeroValue27 rfl ?_); intro b6 w hs
  refine .o (.stores (vs := [_, _, _, _]) hs rfl rfl Tryz.sizeOf27 ?_); intro w hs
  refine .nil ?_
  refine .seq (.draw mix rfl hs ?_); intro w hs
  refine .ys 0 rfl hs [_, _, _, _] Tryz.isAgg27 Tryz.sizeOf27 ?_; refine .ys 1 rfl hs [_, _, _, _] Tryz.isAgg27 Tryz.sizeOf27 ?_; refine .z 2 rfl (zfa fa_moorsomlaw09_Case_1) ?_; refine .y 3 rfl hs Tryz.isAgg76 ?_; refine .z 4 rfl zm ?_
  refine .e1 (i := 5) (by kernel_rfl) rfl rfl .none hs ?_
  refine .call Tryz.call94 rfl (ref09_Probes_spec (a := madeQ c.raw) hs ⟨_, _, rfl, g1, g2⟩ (hp.mono hle1) (by show (1 : Int) ≤ (mN c.raw : Int) ∧ (mN c.raw : Int) ≤ 1000; omega) h8) ?_; rintro _ w ⟨H2, hle2, hP, hs⟩
  refine .go ?_
  refine .e1 (i := 6) (by kernel_rfl) rfl rfl .none hs ?_
  refine .stores (vs := [_, _, _, _]) hs rfl rfl Tryz.sizeOf27 ?_; intro w hs
  refine .go ?_
  refine .z 7 rfl zg ?_; refine .done (by kernel_rfl) hs ?_
  refine .ret ?_
  exact Fin.retD [] [] hs fun w hs => ⟨_, results2 Tryz.results35 (rcells (vs := [_, _, _, _]) hs rfl Tryz.isAgg27 Tryz.sizeOf27) rfl, H2, _, _, hle1.trans hle2, rfl, ⟨_, _, rfl, g1.mono hle2, g2.mono hle2⟩, hP, hs.out⟩
theorem made_worst {a : Quest} {l : List Prb} {n e : Int} {us : List Use} (hM : MadeQ a) (hl : l.length ≤ 8) (hp : ∀ p ∈ l, PrbIn a p) (h : (CPrbR a l e ∧ e ≠ 0 ∧ n = 0 ∧ us = []) ∨ (CPrbR a l 0 ∧ e = 0 ∧ ShownR a l n us)) : e = 0 ∧ ShownR a l n us := by
  rcases h with ⟨h1, h2, _⟩ | ⟨_, h1, h2⟩
  · exact (h2 (h1.uniq (hM.prbs hl hp))).elim
  · exact ⟨h1, h2⟩
end Go.Proofs.YtiiokdeehlfeeaaGreat

namespace Go.Proofs.YtiiokdeehlfeeaaGreat
open Go.MW
theorem made_hull {a : Quest} {picks x : List Int} {e : Int} (hM : MadeQ a) (h : PointR a.sys picks x e) : e = 0 ∧ PointP a.sys picks x := by
  cases h with
  | bad h => exact (h (a.sys.ok_iff.2 hM.ok)).elim
  | clash _ h => exact (h hM.hull).elim
  | ok _ _ h => exact ⟨rfl, h⟩
theorem made_out {a : Quest} {l : List Prb} {vs : List Int} (hM : MadeQ a) (hl : l.length ≤ 8) (hp : ∀ p ∈ l, PrbIn a p) (hv : vs.length = l.length) : COutR a l vs 0 := .ok (hM.prbs hl hp) hv
theorem made_short {a : Quest} {l : List Prb} {vs : List Int} (hM : MadeQ a) (hl : l.length ≤ 8) : (behS a l vs).lims.length ≤ 150 := by
  have := hM.lims
  simp only [behS, List.length_append, tellTo_length]; omega
theorem made_after {a : Quest} {l : List Prb} {vs : List Int} {q : Quest} {e : Int} (hM : MadeQ a) (hl : l.length ≤ 8) (hp : ∀ p ∈ l, PrbIn a p) (hv : vs.length = l.length) (hs : (behS a l vs).Sound) (h : AfterR a l vs q e) : e = 0 ∧ q = behQ a l vs := by
  cases h with
  | bad h he => exact (he (h.uniq (made_out hM hl hp hv))).elim
  | none _ h => exact (h hs).elim
  | long _ _ h => exact absurd (made_short (vs := vs) hM hl) (by omega)
  | ok _ _ _ => exact ⟨rfl, rfl⟩
theorem made_prb {a : Quest} {l : List Prb} (hM : MadeQ a) (hp : ∀ p ∈ l, PrbIn a p) : ∀ p ∈ l, PrbOk a p := fun p h => hM.prb (hp p h)
theorem made_beh_ask {a : Quest} {l : List Prb} {vs : List Int} (hM : MadeQ a) (hl : l.length ≤ 8) (hp : ∀ p ∈ l, PrbIn a p) (hs : (behS a l vs).Sound) : AskOk (behQ a l vs) := beh_ask hM.ask hl (made_prb hM hp) hs (made_short hM hl)
end Go.Proofs.YtiiokdeehlfeeaaGreat

namespace Go.Proofs.YtiiokdeehlfeeaaGreat
open Go.MW
theorem IndexFunc_int {H : Heap} {w : World} {σ : List Ent} {v : Value} {ls : List Int} {g : Nat} {cap : List Value} {q : Int → Prop} (hs : St H w σ) (hr : RI H v ls)
    (hc : ∀ args w, (callFunc g args).run Tryz.prog w = .ok (.enter g args) w) (hp : ∀ w l, St H w σ → Cl Tryz.prog g ([I l] ++ cap) w fun u w' => ∃ b, u = .bool b ∧ (b = true ↔ q l) ∧ St H w' σ) :
    Cl Tryz.prog 161 [v, .func (.func g) #[] cap.toArray] w fun u w' => ∃ i, u = I i ∧ (0 ≤ i ↔ ∃ p ∈ ls, q p) ∧ St H w' σ := by
  obtain ⟨a, c, rfl⟩ := RI.shape hr
  have hl := (RI.len hr).2.2
  refine Cl.of Tryz.func161 rfl Tryz.ntmps161 (by simp) (args_cons (k := 0) rfl (args_cons (k := 1) rfl (args0))) ?_
  refine .regSeq (.z zg (.nil (.seq (.regSeq (.z zm (.z (zlen Tryz.runUnderlying25) (.z zm (.nil ?_))))))))
  refine .for (N := ls.length) (J := fun k fr w => fr = [(1, .func (.func g) #[] cap.toArray), (0, .slice a ls.length c)] ∧ St H w σ ∧ ∀ j < k, ∀ l, ls[j]? = some l → ¬ q l) (by omega) ?_ ?_ ?_
  · exact .mk ⟨rfl, hs, fun j hj => by omega⟩
  · rintro k fr w hk ⟨rfl, hs, hno⟩
    obtain ⟨l, hl⟩ := nth hk
    refine .block (.regSeq (.z zm (.z zg (.nil (.regSeq (.z zm (.z zm (.z zm ?_))))))))
    first | (refine .ixv hs Tryz.runUnderlying25 Tryz.sizeOf3 ?_; intro b14 o14 hc14) | refine .z (zix Tryz.runUnderlying25 Tryz.sizeOf3) ?_
    refine .y hs (zld Tryz.isAgg3) ?_
    refine .o (.callG (first := []) rfl rfl hc (hp _ _ hs) ?_); rintro _ w ⟨b16, rfl, hb16, hs⟩
    refine .nil ?_
    refine (.cond rfl (fun hc16 => ?_) (fun hc16 => ?_))
    · refine .regSeq (.z zm (.z zg (.nil ?_)))
      refine .ret (rB (rT (rB (rT (Fin.ret1 Tryz.results161 rfl ?_)))))
      exact ⟨_, rfl, ⟨fun _ => ⟨l, List.mem_of_getElem? hl, hb16.1 hc16⟩, fun _ => by omega⟩, hs⟩
    · refine .skip ?_
      refine nB (nT ?_)
      exact .mk ⟨rfl, hs, upto_succ hno hl (fun h => by rw [hb16.2 h] at hc16; cases hc16)⟩
  · rintro fr w ⟨rfl, hs, hno⟩
    refine nT ?_
    refine .regSeq (.z zg (.nil ?_))
    refine .ret (Fin.ret1 Tryz.results161 rfl ?_)
    exact ⟨_, rfl, ⟨fun h => by omega, fun ⟨p, h1, h2⟩ => by
      obtain ⟨j, hj⟩ := List.getElem?_of_mem h1
      exact (hno j (List.getElem?_eq_some_iff.1 hj).1 p hj h2).elim⟩, hs⟩
theorem ContainsFunc_int {H : Heap} {w : World} {σ : List Ent} {v : Value} {ls : List Int} {g : Nat} {cap : List Value} {q : Int → Prop} (hs : St H w σ) (hr : RI H v ls)
    (hc : ∀ args w, (callFunc g args).run Tryz.prog w = .ok (.enter g args) w) (hp : ∀ w l, St H w σ → Cl Tryz.prog g ([I l] ++ cap) w fun u w' => ∃ b, u = .bool b ∧ (b = true ↔ q l) ∧ St H w' σ) :
    Cl Tryz.prog 129 [v, .func (.func g) #[] cap.toArray] w fun u w' => ∃ b, u = .bool b ∧ (b = true ↔ ∃ p ∈ ls, q p) ∧ St H w' σ := by
  refine Cl.of Tryz.func129 rfl Tryz.ntmps129 (by simp) (args_cons (k := 0) rfl (args_cons (k := 1) rfl (args0))) ?_
  refine .regSeq (.z zg (.nil (.regSeq (.z zm (.z zm ?_)))))
  refine .o (.call Tryz.call161 rfl (IndexFunc_int hs hr hc hp) ?_); rintro _ w ⟨i, rfl, hi, hs⟩
  refine .z zgeq (.z zg (.nil ?_))
  refine .ret (Fin.ret1 Tryz.results129 rfl ?_)
  exact ⟨_, rfl, by simp only [decide_eq_true_eq]; exact hi, hs⟩
theorem bound_CheckPoint_1 {H : Heap} {w : World} {σ : List Ent} {n : Int} (hs : St H w σ) : Cl Tryz.prog 187 [I n] w fun v w' => ∃ b, v = .bool b ∧ (b = true ↔ ¬ (-1000000000 ≤ n ∧ n ≤ 1000000000)) ∧ St H w' σ := by
  refine Cl.of Tryz.func187 rfl Tryz.ntmps187 (by simp) (args_cons (k := 0) rfl (args0)) ?_
  refine .regSeq (.z zg (.nil (.regSeq (.z zm ?_))))
  refine .o (.call Tryz.call167 rfl (bound_within_spec hs) ?_); rintro _ w ⟨rfl, hs⟩
  refine .z znot (.z zg (.nil ?_))
  refine .ret (Fin.ret1 Tryz.results187 rfl ?_)
  exact ⟨_, rfl, by simp; omega, hs⟩
theorem bound_CheckPoint_spec {H : Heap} {w : World} {σ : List Ent} {v vx : Value} {s : Syst} {x : List Int} (hs : St H w σ) (hr : RSy H v s) (hx : RI H vx x) :
    Cl Tryz.prog 146 [v, vx] w fun u w' => ∃ e, u = I e ∧ CPtR s x e ∧ St H w' σ := by
  obtain ⟨ul, rfl, hl⟩ := hr
  obtain ⟨al, cl, rfl⟩ := RL.shape hl
  obtain ⟨ax, cx, rfl⟩ := RI.shape hx
  refine Cl.of Tryz.func146 rfl Tryz.ntmps146 (by simp) (args_cons (k := 0) rfl (args_cons (k := 1) rfl (args0))) ?_
  refine .regSeq ?_
  refine .o (.box hs rfl rfl ?_); intro b2 w hs
  refine .z zg (.nil (.seq (.regSeq (.y hs (zls [_, _] Tryz.isAgg24 Tryz.sizeOf24) ?_))))
  refine .o (.call Tryz.call113 rfl (bound_Check_spec (s := s) hs ⟨_, rfl, hl⟩) ?_); rintro _ w ⟨rfl, hs⟩
  refine .z zg (.nil (.regSeq (.z zm (.z zneq (.nil ?_)))))
  skip
  refine (.condN rfl (fun hc11 => ?_) (fun hc11 => ?_))
  · refine .regSeq (.z zm (.z zg (.nil ?_)))
    refine .ret (rT (Fin.ret1 Tryz.results146 rfl ?_))
    exact ⟨_, rfl, .bad hc11, hs.out⟩
  · refine .skip ?_
    refine nT ?_
    refine .seq (.regSeq ?_)
    have hok : s.Ok := s.ok_iff.1 (by simpa using hc11)
    have hm0 := hok.m0
    have hm1 := hok.m1
    have hll := hok.len
    have hnn : (s.n : Int) = s.many + 1 := by simp only [Syst.n]; omega
    refine .z zm (.z (zlen Tryz.runUnderlying25) (.z (zfa fa_api_System_0) (.y hs (zld Tryz.isAgg3) (.z zadd (.z zneq (.z zm ?_))))))
    refine .bifN (t' := 19) rfl (fun hb19 => ?_) (fun hb19 => ?_)
    · refine .gFs 4 6 false rfl rfl rfl ?_
      refine .z zpT (.z zm ?_)
      refine .gFs 2 12 false rfl rfl rfl ?_
      refine .z zpT (.nil ?_)
      refine (.condT rfl rfl ?_)
      refine .regSeq (.z zg (.nil ?_))
      refine .ret (rT (Fin.ret1 Tryz.results146 rfl ?_))
      first
        | exact ⟨_, rfl, .ok hok ⟨by omega, by first | omega | (simpa using hb25), fun v hv => hfree v (by omega), feas_iff.2 fun y hy => by
            obtain ⟨i, hi⟩ := List.getElem?_of_mem hy
            exact h1 i (List.getElem?_eq_some_iff.1 hi).1 y hi⟩, hs.out⟩
        | exact ⟨_, rfl, .off hok (fun h => by have := h.len; omega), hs.out⟩
        | exact ⟨_, rfl, .off hok (fun h => by have := h.zero; first | omega | (simp at hb25; omega)), hs.out⟩
        | exact ⟨_, rfl, .off hok (fun h => by
            obtain ⟨p, h1, h2⟩ := hb27.1 hc28
            obtain ⟨i, hi⟩ := List.getElem?_of_mem h1
            have hil := (List.getElem?_eq_some_iff.1 hi).1
            have := gi_get hil
            rw [hi] at this
            cases this
            exact h2 (h.free i (by have := h.len; omega))), hs.out⟩
        | exact ⟨_, rfl, .off hok (fun h => by
            have h8 := feas_iff.1 h.feas y (List.mem_of_getElem? hy)
            omega), hs.out⟩
    · refine .gT rfl rfl ?_
      refine .z zm ?_
      refine .gT rfl rfl ?_
      refine .ixX (enc := fun x => [I x]) hs hx rfl rfl Tryz.runUnderlying25 Tryz.sizeOf3 (gi_get (l := x) (i := 0) (by omega)) rfl ?_; intro b21 o21 hc21; replace hc21 := CellsAt.one hc21
      refine .gT rfl rfl ?_
      refine .y hs (zld Tryz.isAgg3) ?_
      refine .gT rfl rfl ?_
      refine .z zneq (.z zpF (.z zm ?_))
      refine .bifN (t' := 25) rfl (fun hb25 => ?_) (fun hb25 => ?_)
      · refine .gFs 2 12 false rfl rfl rfl ?_
        refine .z zpT (.nil ?_)
        refine (.condT rfl rfl ?_)
        refine .regSeq (.z zg (.nil ?_))
        refine .ret (rT (Fin.ret1 Tryz.results146 rfl ?_))
        first
          | exact ⟨_, rfl, .ok hok ⟨by omega, by first | omega | (simpa using hb25), fun v hv => hfree v (by omega), feas_iff.2 fun y hy => by
              obtain ⟨i, hi⟩ := List.getElem?_of_mem hy
              exact h1 i (List.getElem?_eq_some_iff.1 hi).1 y hi⟩, hs.out⟩
          | exact ⟨_, rfl, .off hok (fun h => by have := h.len; omega), hs.out⟩
          | exact ⟨_, rfl, .off hok (fun h => by have := h.zero; first | omega | (simp at hb25; omega)), hs.out⟩
          | exact ⟨_, rfl, .off hok (fun h => by
              obtain ⟨p, h1, h2⟩ := hb27.1 hc28
              obtain ⟨i, hi⟩ := List.getElem?_of_mem h1
              have hil := (List.getElem?_eq_some_iff.1 hi).1
              have := gi_get hil
              rw [hi] at this
              cases this
              exact h2 (h.free i (by have := h.len; omega))), hs.out⟩
          | exact ⟨_, rfl, .off hok (fun h => by
              have h8 := feas_iff.1 h.feas y (List.mem_of_getElem? hy)
              omega), hs.out⟩
      · refine .gT rfl rfl ?_
        refine .z zm ?_
        refine .gT rfl rfl ?_
        refine .o (.call Tryz.call129 rfl (ContainsFunc_int (q := fun n => ¬ (-1000000000 ≤ n ∧ n ≤ 1000000000)) (cap := []) hs hx Tryz.call187 (fun w n hs => bound_CheckPoint_1 hs)) ?_); rintro _ w ⟨b27, rfl, hb27, hs⟩
        refine .z zpF (.nil ?_)
        refine (.cond rfl (fun hc28 => ?_) (fun hc28 => ?_))
        · refine .regSeq (.z zg (.nil ?_))
          refine .ret (rT (Fin.ret1 Tryz.results146 rfl ?_))
          first
            | exact ⟨_, rfl, .ok hok ⟨by omega, by first | omega | (simpa using hb25), fun v hv => hfree v (by omega), feas_iff.2 fun y hy => by
                obtain ⟨i, hi⟩ := List.getElem?_of_mem hy
                exact h1 i (List.getElem?_eq_some_iff.1 hi).1 y hi⟩, hs.out⟩
            | exact ⟨_, rfl, .off hok (fun h => by have := h.len; omega), hs.out⟩
            | exact ⟨_, rfl, .off hok (fun h => by have := h.zero; first | omega | (simp at hb25; omega)), hs.out⟩
            | exact ⟨_, rfl, .off hok (fun h => by
                obtain ⟨p, h1, h2⟩ := hb27.1 hc28
                obtain ⟨i, hi⟩ := List.getElem?_of_mem h1
                have hil := (List.getElem?_eq_some_iff.1 hi).1
                have := gi_get hil
                rw [hi] at this
                cases this
                exact h2 (h.free i (by have := h.len; omega))), hs.out⟩
            | exact ⟨_, rfl, .off hok (fun h => by
                have h8 := feas_iff.1 h.feas y (List.mem_of_getElem? hy)
                omega), hs.out⟩
        · refine .skip ?_
          refine nT ?_
          refine .seq (.regSeq (.z (zfa fa_api_System_1) (.y hs (zld Tryz.isAgg22) (.z (zlen Tryz.runUnderlying22) (.z zm (.nil ?_))))))
          refine .for (N := s.lims.length) (J := fun k fr w => fr = [(30, .slice al s.lims.length cl), (1, .slice ax x.length cx)] ∧ (∀ i < k, ∀ y, s.lims[i]? = some y → gi x y.B.toNat ≤ gi x y.A.toNat + y.M) ∧ St H w (.blk b2 [I s.many, .slice al s.lims.length cl] :: σ)) (by omega) ?_ ?_ ?_
          · exact .mk ⟨rfl, fun i hi => by omega, hs⟩
          · have hfree : ∀ v < x.length, -1000000000 ≤ gi x v ∧ gi x v ≤ 1000000000 := fun v hv => by
              apply Classical.byContradiction
              intro h
              have := hb27.2 ⟨gi x v, List.mem_of_getElem? (gi_get hv), h⟩
              subst this
              simp at hc28
            rintro k fr w hk ⟨rfl, h1, hs⟩
            obtain ⟨y, hy⟩ := nth hk
            obtain ⟨⟨y1, y2⟩, ⟨y3, y4⟩, y5, y6, -⟩ := hok.lim y (List.mem_of_getElem? hy)
            have z1 := hfree y.B.toNat (by omega)
            have z2 := hfree y.A.toNat (by omega)
            refine .block (.regSeq ?_)
            refine .ixX (enc := Lim.c) hs hl rfl rfl Tryz.runUnderlying22 Tryz.sizeOf157 hy rfl ?_; intro b34 o34 hc34
            refine .q hs (q_loadsR (vs := y.c) rfl Tryz.isAgg157 Tryz.sizeOf157 hc34) ?_
            refine .o (.alloc hs Tryz.zeroValue157 rfl ?_); intro b7 w hs
            refine .o (.stores (vs := y.c) hs rfl rfl Tryz.sizeOf157 ?_); intro w hs
            refine .nil ?_
            refine .seq (.draw mix rfl hs ?_); intro w hs
            refine .z 0 rfl zm ?_; refine .z 1 rfl (zfa fa_api_Limit_1) ?_; refine .y 2 rfl hs Tryz.isAgg3 ?_
            refine .ixX (enc := fun x => [I x]) (i := 3) hs rfl (by kernel_rfl) .none hx rfl rfl Tryz.runUnderlying25 Tryz.sizeOf3 (gi_get (l := x) (i := y.B.toNat) (by omega)) (by omega) ?_; intro b39 o39 hc39; replace hc39 := CellsAt.one hc39
            refine .r (i := 4) hs rfl (by kernel_rfl) .none (q_loadR rfl Tryz.isAgg3 hc39) ?_
            refine .z 5 rfl zm ?_; refine .z 6 rfl (zfa fa_api_Limit_0) ?_; refine .y 7 rfl hs Tryz.isAgg3 ?_
            refine .ixX (enc := fun x => [I x]) (i := 8) hs rfl (by kernel_rfl) .none hx rfl rfl Tryz.runUnderlying25 Tryz.sizeOf3 (gi_get (l := x) (i := y.A.toNat) (by omega)) (by omega) ?_; intro b44 o44 hc44; replace hc44 := CellsAt.one hc44
            refine .r (i := 9) hs rfl (by kernel_rfl) .none (q_loadR rfl Tryz.isAgg3 hc44) ?_
            refine .z 10 rfl zsub ?_; refine .z 11 rfl (zfa fa_api_Limit_2) ?_; refine .y 12 rfl hs Tryz.isAgg3 ?_; refine .z 13 rfl zgtr ?_; refine .done (by kernel_rfl) hs ?_
            refine (.condD rfl (fun hc49 => ?_) (fun hc49 => ?_))
            · refine .regSeq (.z zg (.nil ?_))
              refine .ret (rB (rT (rB (rT (Fin.ret1 Tryz.results146 rfl ?_)))))
              first
                | exact ⟨_, rfl, .ok hok ⟨by omega, by first | omega | (simpa using hb25), fun v hv => hfree v (by omega), feas_iff.2 fun y hy => by
                    obtain ⟨i, hi⟩ := List.getElem?_of_mem hy
                    exact h1 i (List.getElem?_eq_some_iff.1 hi).1 y hi⟩, hs.out⟩
                | exact ⟨_, rfl, .off hok (fun h => by have := h.len; omega), hs.out⟩
                | exact ⟨_, rfl, .off hok (fun h => by have := h.zero; first | omega | (simp at hb25; omega)), hs.out⟩
                | exact ⟨_, rfl, .off hok (fun h => by
                    obtain ⟨p, h1, h2⟩ := hb27.1 hc28
                    obtain ⟨i, hi⟩ := List.getElem?_of_mem h1
                    have hil := (List.getElem?_eq_some_iff.1 hi).1
                    have := gi_get hil
                    rw [hi] at this
                    cases this
                    exact h2 (h.free i (by have := h.len; omega))), hs.out⟩
                | exact ⟨_, rfl, .off hok (fun h => by
                    have h8 := feas_iff.1 h.feas y (List.mem_of_getElem? hy)
                    omega), hs.out⟩
            · refine .skip ?_
              refine nB (nT ?_)
              exact .mk ⟨rfl, fun i hi z hz => by
                by_cases e : i = k
                · subst e; rw [hy] at hz; cases hz; omega
                · exact h1 i (by omega) z hz, hs.out⟩
          · have hfree : ∀ v < x.length, -1000000000 ≤ gi x v ∧ gi x v ≤ 1000000000 := fun v hv => by
              apply Classical.byContradiction
              intro h
              have := hb27.2 ⟨gi x v, List.mem_of_getElem? (gi_get hv), h⟩
              subst this
              simp at hc28
            rintro fr w ⟨rfl, h1, hs⟩
            refine nT ?_
            refine .regSeq (.z zg (.nil ?_))
            refine .ret (Fin.ret1 Tryz.results146 rfl ?_)
            first
              | exact ⟨_, rfl, .ok hok ⟨by omega, by first | omega | (simpa using hb25), fun v hv => hfree v (by omega), feas_iff.2 fun y hy => by
                  obtain ⟨i, hi⟩ := List.getElem?_of_mem hy
                  exact h1 i (List.getElem?_eq_some_iff.1 hi).1 y hi⟩, hs.out⟩
              | exact ⟨_, rfl, .off hok (fun h => by have := h.len; omega), hs.out⟩
              | exact ⟨_, rfl, .off hok (fun h => by have := h.zero; first | omega | (simp at hb25; omega)), hs.out⟩
              | exact ⟨_, rfl, .off hok (fun h => by
                  obtain ⟨p, h1, h2⟩ := hb27.1 hc28
                  obtain ⟨i, hi⟩ := List.getElem?_of_mem h1
                  have hil := (List.getElem?_eq_some_iff.1 hi).1
                  have := gi_get hil
                  rw [hi] at this
                  cases this
                  exact h2 (h.free i (by have := h.len; omega))), hs.out⟩
              | exact ⟨_, rfl, .off hok (fun h => by
                  have h8 := feas_iff.1 h.feas y (List.mem_of_getElem? hy)
                  omega), hs.out⟩
end Go.Proofs.YtiiokdeehlfeeaaGreat

namespace Go.Proofs.YtiiokdeehlfeeaaGreat
open Go.MW
def apartV (a : Quest) (A B : List Int) (k : Nat) : Int := sumTo (fun i => gi a.ws i * (gi B i - gi A i)) k
inductive ApR (a : Quest) (l : List Prb) (A B : List Int) : Int → Int → Prop
  | point (h1 : ¬ (KeepsP a.sys A ∧ KeepsP a.sys B)) : ApR a l A B 0 25
  | far (h1 : KeepsP a.sys A) (h2 : KeepsP a.sys B) (h3 : ¬ Near l (gi A) (gi B)) : ApR a l A B 0 92
  | ok (h1 : KeepsP a.sys A) (h2 : KeepsP a.sys B) (h3 : Near l (gi A) (gi B)) : ApR a l A B (IntKind.i64.wrap (apartV a A B a.ws.length)) 0
theorem ApR.uniq {a : Quest} {l : List Prb} {A B : List Int} {n m e f : Int} (h : ApR a l A B n e) (g : ApR a l A B m f) : n = m ∧ e = f := by
  cases h with
  | point h1 =>
    cases g with
    | point => exact ⟨rfl, rfl⟩
    | far g1 g2 _ => exact (h1 ⟨g1, g2⟩).elim
    | ok g1 g2 _ => exact (h1 ⟨g1, g2⟩).elim
  | far h1 h2 h3 =>
    cases g with
    | point g1 => exact (g1 ⟨h1, h2⟩).elim
    | far => exact ⟨rfl, rfl⟩
    | ok _ _ g3 => exact (h3 g3).elim
  | ok h1 h2 h3 =>
    cases g with
    | point g1 => exact (g1 ⟨h1, h2⟩).elim
    | far _ _ g3 => exact (g3 h3).elim
    | ok => exact ⟨rfl, rfl⟩
def TwnR (a : Quest) (l : List Prb) (A B : List Int) (n e : Int) : Prop := (CPrbR a l e ∧ e ≠ 0 ∧ n = 0) ∨ (CPrbR a l 0 ∧ ApR a l A B n e)
theorem TwnR.uniq {a : Quest} {l : List Prb} {A B : List Int} {n m e f : Int} (h : TwnR a l A B n e) (g : TwnR a l A B m f) : n = m ∧ e = f := by
  rcases h with ⟨h1, h2, h3⟩ | ⟨h1, h2⟩
  · rcases g with ⟨g1, g2, g3⟩ | ⟨g1, g2⟩
    · exact ⟨by omega, h1.uniq g1⟩
    · exact (h2 (h1.uniq g1)).elim
  · rcases g with ⟨g1, g2, g3⟩ | ⟨g1, g2⟩
    · exact (g2 (g1.uniq h1)).elim
    · exact h2.uniq g2
theorem apartV_succ (a : Quest) (A B : List Int) (k : Nat) : apartV a A B (k + 1) = apartV a A B k + gi a.ws k * (gi B k - gi A k) := rfl
theorem near_upto {l : List Prb} {x y : Nat → Int} (h : ∀ i < l.length, x (getP l i).u.toNat - y (getP l i).u.toNat ≤ 2 * (getP l i).t ∧ y (getP l i).u.toNat - x (getP l i).u.toNat ≤ 2 * (getP l i).t) : Near l x y := fun p hp => by
  obtain ⟨i, hi⟩ := List.getElem?_of_mem hp
  have hil := (List.getElem?_eq_some_iff.1 hi).1
  have e := getP_get hil
  rw [hi] at e
  cases e
  exact h i hil
set_option maxHeartbeats 4000000 in
theorem probe_apart_spec {H : Heap} {w : World} {σ : List Ent} {v vl va vb : Value} {a : Quest} {l : List Prb} {A B : List Int} (hs : St H w σ) (hr : RAsk H v a) (hp : RPs H vl l) (hA : RI H va A) (hB : RI H vb B) (hok : AskOk a) (hlen : l.length ≤ 8) (hin : ∀ p ∈ l, PrbIn a p) :
    Cl Tryz.prog 66 [v, vl, .agg #[va, vb]] w fun u w' => ∃ n e, u = .tuple #[I n, I e] ∧ ApR a l A B n e ∧ St H w' σ := by
  obtain ⟨ul, uw, rfl, hl, hw⟩ := hr
  obtain ⟨al, cl, rfl⟩ := RL.shape hl
  obtain ⟨aw, cw, rfl⟩ := RI.shape hw
  obtain ⟨ap, cp, rfl⟩ := RPs.shape hp
  obtain ⟨aA, cA, rfl⟩ := RI.shape hA
  obtain ⟨aB, cB, rfl⟩ := RI.shape hB
  have hwl := hok.wl
  have hm1 := hok.many
  have hm0 := hok.ok.m0
  have hnn : (a.sys.n : Int) = a.sys.many + 1 := by simp only [Syst.n]; omega
  refine Cl.of Tryz.func66 rfl Tryz.ntmps66 (by simp) (args_cons (k := 0) rfl (args_cons (k := 1) rfl (args_cons (k := 2) rfl (args0)))) ?_
  refine .regSeq ?_
  refine .o (.box hs rfl rfl ?_); intro b3 w hs
  refine .o (.box hs rfl rfl ?_); intro b5 w hs
  refine .z zg (.z zg (.nil (.seq (.regSeq (.z (zfa fa_api_Twins_0) (.y hs (zld Tryz.isAgg25) (.z (zfa fa_api_Twins_1) (.y hs (zld Tryz.isAgg25) ?_))))))))
  refine .o (.buildSlice (cells := [_, _]) hs bls_slLL_int_2 rfl rfl ?_); intro b20 w hs
  refine .z (zlen Tryz.runUnderlying29) (.z zm (.nil ?_))
  refine .for (N := 2) (J := fun k fr w => fr = [(20, .slice (some ⟨b20, 0, none⟩) 2 2), (3, .pointer (some ⟨b3, 0, none⟩)), (5, .pointer (some ⟨b5, 0, none⟩)), (1, .slice ap l.length cp)] ∧ (0 < k → KeepsP a.sys A) ∧ (1 < k → KeepsP a.sys B) ∧   St H w (.blk b20 [.slice aA A.length cA, .slice aB B.length cB] :: .blk b5 [.slice aA A.length cA, .slice aB B.length cB] :: .blk b3 [I a.sys.many, .slice al a.sys.lims.length cl, .slice aw a.ws.length cw, I a.width] :: σ)) (by omega) ?_ ?_ ?_
  · exact .mk ⟨rfl, fun h => by omega, fun h => by omega, hs⟩
  · rintro k fr w hk ⟨rfl, k1, k2, hs⟩
    obtain ⟨X, aX, cX, hX, hget, hx0, hx1⟩ : ∃ X aX cX, RI H (.slice aX X.length cX) X ∧ ([Value.slice aA A.length cA, .slice aB B.length cB] : List Value)[k]? = some (.slice aX X.length cX) ∧ (k = 0 → X = A) ∧ (k = 1 → X = B) := by
      rcases (by omega : k = 0 ∨ k = 1) with rfl | rfl
      · exact ⟨A, aA, cA, hA, rfl, fun _ => rfl, fun h => by omega⟩
      · exact ⟨B, aB, cB, hB, rfl, fun h => by omega, fun _ => rfl⟩
    refine .block (.regSeq (.z (zix Tryz.runUnderlying29 Tryz.sizeOf25) ?_))
    refine .q hs (q_load rfl Tryz.isAgg25 (hv := hget)) ?_
    refine .z zg (.nil (.regSeq (.z (zfa fa_api_Ask_0) (.y hs (zls [_, _] Tryz.isAgg24 Tryz.sizeOf24) (.z zm ?_)))))
    refine .o (.call Tryz.call146 rfl (bound_CheckPoint_spec (s := a.sys) (x := X) hs ⟨_, rfl, hl⟩ hX) ?_); rintro _ w ⟨e29, rfl, hC, hs⟩
    refine .z zneq (.nil ?_)
    refine (.condN rfl (fun hc30 => ?_) (fun hc30 => ?_))
    · refine .regSeq (.z zg (.z zg (.nil ?_)))
      refine .ret (rB (rT (rB (rT (Fin.ret2 Tryz.results66 rfl rfl ?_)))))
      have h25 : ¬ KeepsP a.sys X := fun h => hc30 (hC.uniq (.ok hok.ok h))
      exact ⟨_, _, rfl, .point (fun h => h25 (by
        rcases (by omega : k = 0 ∨ k = 1) with e | e
        · rw [hx0 e]; exact h.1
        · rw [hx1 e]; exact h.2)), hs.out⟩
    · refine .skip ?_
      refine nB (nT ?_)
      have hkX : KeepsP a.sys X := by
        subst hc30
        generalize hz : (0 : Int) = z at hC
        cases hC with
        | bad h => exact (h hz.symm).elim
        | off _ _ => omega
        | ok _ h => exact h
      exact .mk ⟨rfl, fun _ => by
        by_cases e : k = 0
        · rw [← hx0 e]; exact hkX
        · exact k1 (by omega), fun _ => by
        have e : k = 1 := by omega
        rw [← hx1 e]; exact hkX, hs⟩
  · rintro fr w ⟨rfl, k1, k2, hs⟩
    have kA := k1 (by omega)
    have kB := k2 (by omega)
    have lA := kA.len
    have lB := kB.len
    refine nT ?_
    refine .seq (.regSeq (.z zm (.z (zlen Tryz.runUnderlying28) (.z zm (.nil ?_)))))
    refine .for (N := l.length) (J := fun k fr w => fr = [(32, .slice ap l.length cp), (3, .pointer (some ⟨b3, 0, none⟩)), (5, .pointer (some ⟨b5, 0, none⟩))] ∧ (∀ i < k, gi A (getP l i).u.toNat - gi B (getP l i).u.toNat ≤ 2 * (getP l i).t ∧ gi B (getP l i).u.toNat - gi A (getP l i).u.toNat ≤ 2 * (getP l i).t) ∧   St H w (.blk b5 [.slice aA A.length cA, .slice aB B.length cB] :: .blk b3 [I a.sys.many, .slice al a.sys.lims.length cl, .slice aw a.ws.length cw, I a.width] :: σ)) (by omega) ?_ ?_ ?_
    · exact .mk ⟨rfl, fun i h => by omega, hs.tail⟩
    · rintro k fr w hk ⟨rfl, hn, hs⟩
      have hg := getP_get hk
      obtain ⟨⟨u1, u2⟩, t1, t2⟩ := hin _ (getP_mem hk)
      have fA := kA.free (getP l k).u.toNat (by omega)
      have fB := kB.free (getP l k).u.toNat (by omega)
      refine .block (.regSeq ?_)
      refine .ixX (enc := Prb.c) hs hp rfl rfl Tryz.runUnderlying28 Tryz.sizeOf54 hg rfl ?_; intro b36 o36 hc36
      refine .q hs (q_loadsR (vs := (getP l k).c) rfl Tryz.isAgg54 Tryz.sizeOf54 hc36) ?_
      refine .o (.alloc hs Tryz.zeroValue54 rfl ?_); intro b11 w hs
      refine .o (.stores (vs := (getP l k).c) hs rfl rfl Tryz.sizeOf54 ?_); intro w hs
      refine .nil ?_
      refine .seq (.draw mix rfl hs ?_); intro w hs
      refine .z 0 rfl (zfa fa_api_Twins_0) ?_; refine .y 1 rfl hs Tryz.isAgg25 ?_; refine .z 2 rfl (zfa fa_api_Probe_0) ?_; refine .y 3 rfl hs Tryz.isAgg3 ?_
      refine .ixX (enc := fun x => [I x]) (i := 4) hs rfl (by kernel_rfl) .none hA rfl rfl Tryz.runUnderlying25 Tryz.sizeOf3 (gi_get (l := A) (i := (getP l k).u.toNat) (by omega)) (by omega) ?_; intro b42 o42 hc42; replace hc42 := CellsAt.one hc42
      refine .r (i := 5) hs rfl (by kernel_rfl) .none (q_loadR rfl Tryz.isAgg3 hc42) ?_
      refine .z 6 rfl (zfa fa_api_Twins_1) ?_; refine .y 7 rfl hs Tryz.isAgg25 ?_; refine .z 8 rfl (zfa fa_api_Probe_0) ?_; refine .y 9 rfl hs Tryz.isAgg3 ?_
      refine .ixX (enc := fun x => [I x]) (i := 10) hs rfl (by kernel_rfl) .none hB rfl rfl Tryz.runUnderlying25 Tryz.sizeOf3 (gi_get (l := B) (i := (getP l k).u.toNat) (by omega)) (by omega) ?_; intro b48 o48 hc48; replace hc48 := CellsAt.one hc48
      refine .r (i := 11) hs rfl (by kernel_rfl) .none (q_loadR rfl Tryz.isAgg3 hc48) ?_
      refine .z 12 rfl zsub ?_; refine .z 13 rfl zg ?_; refine .done (by kernel_rfl) hs ?_
      refine .regSeq (.z zm (.z zm (.z zneg (.z zmax (.z (zfa fa_api_Probe_1) (.y hs (zld Tryz.isAgg3) (.z zmul (.z zgtr (.nil ?_)))))))))
      refine (.condD rfl (fun hc58 => ?_) (fun hc58 => ?_))
      · refine .regSeq (.z zg (.z zg (.nil ?_)))
        refine .ret (rB (rT (rB (rT (Fin.ret2 Tryz.results66 rfl rfl ?_)))))
        exact ⟨_, _, rfl, .far kA kB (fun h => by have := h _ (getP_mem hk); omega), hs.out⟩
      · refine .skip ?_
        refine nB (nT ?_)
        exact .mk ⟨rfl, fun i hi => by
          by_cases e : i = k
          · subst e; omega
          · exact hn i (by omega), hs.out⟩
    · rintro fr w ⟨rfl, hn, hs⟩
      refine nT ?_
      refine .regSeq (.z zg (.nil (.seq (.regSeq (.z (zfa fa_api_Ask_1) (.y hs (zld Tryz.isAgg25) (.z (zlen Tryz.runUnderlying25) (.z zm (.nil ?_)))))))))
      refine .for (N := a.ws.length) (J := fun k fr w => fr = [(61, .slice aw a.ws.length cw), (13, I (IntKind.i64.wrap (apartV a A B k))), (5, .pointer (some ⟨b5, 0, none⟩))] ∧   St H w (.blk b5 [.slice aA A.length cA, .slice aB B.length cB] :: .blk b3 [I a.sys.many, .slice al a.sys.lims.length cl, .slice aw a.ws.length cw, I a.width] :: σ)) (by omega) ?_ ?_ ?_
      · exact .mk ⟨rfl, hs⟩ (hs := .consI rfl rfl (.consI rfl rfl (.cons rfl (.consI rfl (by simp [apartV, sumTo, i64wrap_eq]) (by repeat (first | exact .nil rfl rfl | refine .cons rfl ?_))))))
      · rintro k fr w hk ⟨rfl, hs⟩
        have hgw := gi_get (l := a.ws) (i := k) hk
        have fA := kA.free k (by omega)
        have fB := kB.free k (by omega)
        have gA := gi_get (l := A) (i := k) (by omega)
        have gB := gi_get (l := B) (i := k) (by omega)
        refine .block (.regSeq (.z zm ?_))
        first | (refine .ixv hs Tryz.runUnderlying25 Tryz.sizeOf3 ?_; intro b66 o66 hc66) | refine .z (zix Tryz.runUnderlying25 Tryz.sizeOf3) ?_
        refine .y hs (zld Tryz.isAgg3) (.z zg (.z zg (.nil ?_)))
        refine .draw mix rfl hs ?_; intro w hs
        refine .z 0 rfl zm ?_; refine .z 1 rfl zm ?_; refine .z 2 rfl (zfa fa_api_Twins_1) ?_; refine .y 3 rfl hs Tryz.isAgg25 ?_; refine .z 4 rfl zm ?_
        refine .ixX (enc := fun x => [I x]) (i := 5) hs rfl (by kernel_rfl) .none hB rfl rfl Tryz.runUnderlying25 Tryz.sizeOf3 gB rfl ?_; intro b73 o73 hc73; replace hc73 := CellsAt.one hc73
        refine .r (i := 6) hs rfl (by kernel_rfl) .none (q_loadR rfl Tryz.isAgg3 hc73) ?_
        refine .z 7 rfl (zfa fa_api_Twins_0) ?_; refine .y 8 rfl hs Tryz.isAgg25 ?_; refine .z 9 rfl zm ?_
        refine .ixX (enc := fun x => [I x]) (i := 10) hs rfl (by kernel_rfl) .none hA rfl rfl Tryz.runUnderlying25 Tryz.sizeOf3 gA rfl ?_; intro b78 o78 hc78; replace hc78 := CellsAt.one hc78
        refine .r (i := 11) hs rfl (by kernel_rfl) .none (q_loadR rfl Tryz.isAgg3 hc78) ?_
        refine .z 12 rfl zsub ?_; refine .z 13 rfl (q_mul rfl rfl) ?_; refine .z 14 rfl (q_add rfl rfl) ?_; refine .z 15 rfl zg ?_; refine .done (by kernel_rfl) hs ?_
        refine nB (nT ?_)
        exact .mk ⟨rfl, hs⟩ (hs := .consI rfl (by push_cast; omega) (.cons rfl (.cons rfl (.consI rfl (by rw [i64wrap_add2, i64wrap_add, apartV_succ]) (by repeat (first | exact .nil rfl rfl | refine .cons rfl ?_))))))
      · rintro fr w ⟨rfl, hs⟩
        refine nT ?_
        refine .regSeq (.z zm (.z zg (.z zg (.nil ?_))))
        refine .ret (Fin.ret2 Tryz.results66 rfl rfl ?_)
        exact ⟨_, _, rfl, .ok kA kB (near_upto hn), hs.out⟩
theorem probe_CheckTwins_1 {H : Heap} {w : World} {σ : List Ent} {v vl va vb : Value} {a : Quest} {l : List Prb} {A B : List Int} {b4 b5 : Nat} (hs : St H w σ) (hr : RAsk H v a) (h4 : Row H b4 [vl]) (h5 : Row H b5 [va, vb]) (hp : RPs H vl l) (hA : RI H va A) (hB : RI H vb B) (hok : AskOk a) (hlen : l.length ≤ 8) (hin : ∀ p ∈ l, PrbIn a p) :
    Cl Tryz.prog 65 [v, .pointer (some ⟨b4, 0, none⟩), .pointer (some ⟨b5, 0, none⟩)] w fun u w' => ∃ n e, u = .tuple #[I n, I e] ∧ ApR a l A B n e ∧ St H w' σ := by
  obtain ⟨ul, uw, rfl, hl, hw⟩ := hr
  have hb4 : cellAt H b4 0 = some vl := h4.at 0
  refine Cl.of Tryz.func65 rfl Tryz.ntmps65 (by simp) (args_cons (k := 0) rfl (args_cons (k := 1) rfl (args_cons (k := 2) rfl (args0)))) ?_
  refine .regSeq ?_
  refine .o (.box hs rfl rfl ?_); intro b3 w hs
  refine .z zg (.z zg (.nil (.regSeq (.y hs (zls [_, _, _, _] Tryz.isAgg27 Tryz.sizeOf27) (.y hs (zld Tryz.isAgg28) ?_)))))
  refine .q hs (q_loadsR (vs := [va, vb]) rfl Tryz.isAgg39 Tryz.sizeOf39 (h5.cells 0 [va, vb])) ?_
  refine .o (.call Tryz.call66 rfl (probe_apart_spec (a := a) hs ⟨_, _, rfl, hl, hw⟩ hp hA hB hok hlen hin) ?_); rintro _ w ⟨n, e, rfl, hAp, hs⟩
  refine .z zex (.z zex (.z zg (.z zg (.nil ?_))))
  refine .ret (Fin.ret2 Tryz.results65 rfl rfl ?_)
  exact ⟨n, e, rfl, hAp, hs.out⟩
theorem probe_CheckTwins_spec {H : Heap} {w : World} {σ : List Ent} {v vl va vb : Value} {a : Quest} {l : List Prb} {A B : List Int} (hs : St H w σ) (hr : RAsk H v a) (hp : RPs H vl l) (hA : RI H va A) (hB : RI H vb B) :
    Cl Tryz.prog 16 [v, vl, .agg #[va, vb]] w fun u w' => ∃ H1 n e, HLe H H1 ∧ u = .tuple #[I n, I e] ∧ TwnR a l A B n e ∧ St H1 w' σ := by
  obtain ⟨ul, uw, rfl, hl, hw⟩ := hr
  obtain ⟨ap, cp, rfl⟩ := RPs.shape hp
  obtain ⟨aA, cA, rfl⟩ := RI.shape hA
  obtain ⟨aB, cB, rfl⟩ := RI.shape hB
  refine Cl.of Tryz.func16 rfl Tryz.ntmps16 (by simp) (args_cons (k := 0) rfl (args_cons (k := 1) rfl (args_cons (k := 2) rfl (args0)))) ?_
  refine .regSeq ?_
  refine .o (.box hs rfl rfl ?_); intro b3 w hs
  refine .o (.box hs rfl rfl ?_); intro b4 w hs
  refine .o (.box hs rfl rfl ?_); intro b5 w hs
  refine .z zg (.z zg (.nil (.regSeq (.y hs (zls [_, _, _, _] Tryz.isAgg27 Tryz.sizeOf27) (.y hs (zld Tryz.isAgg28) ?_)))))
  refine .q hs (q_makeFunc (f := []) (c := [_, _]) rfl rfl) ?_
  obtain ⟨H0, hle0, hb4, hs⟩ := hs.publish (b := b4) (by repeat constructor)
  obtain ⟨H1, hle1, hb5, hs⟩ := hs.publish (b := b5) (by repeat constructor)
  have hle01 := hle0.trans hle1
  refine .o (.call Tryz.call57 rfl (probe_told_int (R := ApR a l A B) (a := a) (l := l) (cap := [.pointer (some ⟨b4, 0, none⟩), .pointer (some ⟨b5, 0, none⟩)]) hs ⟨_, _, rfl, hl.mono hle01, hw.mono hle01⟩ (hp.mono hle01) Tryz.call65 ?_) ?_)
  · rintro H' w σ' hle hC hs
    obtain ⟨hok, hlen, hin⟩ := hC.zero
    have hle2 := hle01.trans hle
    exact (probe_CheckTwins_1 (a := a) (l := l) hs ⟨_, _, rfl, hl.mono hle2, hw.mono hle2⟩ ((hb4.mono hle1).mono hle) (hb5.mono hle) (hp.mono hle2) (hA.mono hle2) (hB.mono hle2) hok hlen (fun p h => (hin p h).inn)).mono fun u w' ⟨n, e, h1, h2, h3⟩ => ⟨H', n, e, HLe.refl _, h1, h2, h3⟩
  rintro _ w ⟨H2, n, e, hle2, rfl, hcase, hs⟩
  refine .z zex (.z zex (.z zg (.z zg (.nil ?_))))
  refine .ret (Fin.ret2 Tryz.results16 rfl rfl ?_)
  exact ⟨H2, n, e, hle01.trans hle2, rfl, hcase, hs.out⟩
set_option maxHeartbeats 4000000 in
theorem ref09_twins_spec {H : Heap} {w : World} {σ : List Ent} {v vl va vb : Value} {a : Quest} {l : List Prb} {A B : List Int} (hs : St H w σ) (hr : RAsk H v a) (hp : RPs H vl l) (hA : RI H va A) (hB : RI H vb B) (hok : AskOk a) (hlen : l.length ≤ 8) (hin : ∀ p ∈ l, PrbIn a p) :
    Cl Tryz.prog 67 [v, vl, .agg #[va, vb]] w fun u w' => ∃ n e, u = .tuple #[I n, I e] ∧ ApR a l A B n e ∧ St H w' σ := by
  obtain ⟨ul, uw, rfl, hl, hw⟩ := hr
  obtain ⟨al, cl, rfl⟩ := RL.shape hl
  obtain ⟨aw, cw, rfl⟩ := RI.shape hw
  obtain ⟨ap, cp, rfl⟩ := RPs.shape hp
  obtain ⟨aA, cA, rfl⟩ := RI.shape hA
  obtain ⟨aB, cB, rfl⟩ := RI.shape hB
  have hwl := hok.wl
  have hm1 := hok.many
  have hm0 := hok.ok.m0
  have hnn : (a.sys.n : Int) = a.sys.many + 1 := by simp only [Syst.n]; omega
  refine Cl.of Tryz.func67 rfl Tryz.ntmps67 (by simp) (args_cons (k := 0) rfl (args_cons (k := 1) rfl (args_cons (k := 2) rfl (args0)))) ?_
  refine .regSeq ?_
  refine .o (.box hs rfl rfl ?_); intro b3 w hs
  refine .o (.box hs rfl rfl ?_); intro b5 w hs
  refine .z zg (.z zg (.nil (.seq (.regSeq (.z (zfa fa_api_Ask_0) (.y hs (zls [_, _] Tryz.isAgg24 Tryz.sizeOf24) (.z (zfa fa_api_Twins_0) (.y hs (zld Tryz.isAgg25) ?_))))))))
  refine .o (.call Tryz.call147 rfl (ref02_CheckPoint_spec (s := a.sys) (x := A) hs ⟨_, rfl, hl⟩ hA) ?_); rintro _ w ⟨eA, rfl, hCA, hs⟩
  refine .z zneq (.z zm ?_)
  refine .bifN (t' := 18) rfl (fun hb18 => ?_) (fun hb18 => ?_)
  · refine .gFs 6 6 false rfl rfl rfl ?_
    refine .z zpT (.nil ?_)
    refine (.condT rfl rfl ?_)
    refine .regSeq (.z zg (.z zg (.nil ?_)))
    refine .ret (rT (Fin.ret2 Tryz.results67 rfl rfl ?_))
    exact ⟨_, _, rfl, .point (fun h => by have := hCA.uniq (.ok hok.ok h.1); simp_all), hs.out⟩
  · refine .gT rfl rfl ?_
    refine .z (zfa fa_api_Ask_0) ?_
    refine .gT rfl rfl ?_
    refine .y hs (zls [_, _] Tryz.isAgg24 Tryz.sizeOf24) ?_
    refine .gT rfl rfl ?_
    refine .z (zfa fa_api_Twins_1) ?_
    refine .gT rfl rfl ?_
    refine .y hs (zld Tryz.isAgg25) ?_
    refine .gT rfl rfl ?_
    refine .o (.call Tryz.call147 rfl (ref02_CheckPoint_spec (s := a.sys) (x := B) hs ⟨_, rfl, hl⟩ hB) ?_); rintro _ w ⟨eB, rfl, hCB, hs⟩
    refine .gT rfl rfl ?_
    refine .z zneq (.z zpF (.nil ?_))
    refine (.condN rfl (fun hc25 => ?_) (fun hc25 => ?_))
    · refine .regSeq (.z zg (.z zg (.nil ?_)))
      refine .ret (rT (Fin.ret2 Tryz.results67 rfl rfl ?_))
      exact ⟨_, _, rfl, .point (fun h => by have := hCB.uniq (.ok hok.ok h.2); simp_all), hs.out⟩
    · refine .skip ?_
      refine nT ?_
      refine .seq (.regSeq (.z zg (.nil ?_)))
      have keep : ∀ {X : List Int} {e : Int}, CPtR a.sys X e → e = 0 → KeepsP a.sys X := by
        intro X e h he
        cases h with
        | bad h => exact (h he).elim
        | off _ _ => omega
        | ok _ h => exact h
      have kA := keep hCA (by simp_all)
      have kB := keep hCB (by simp_all)
      have lA := kA.len
      have lB := kB.len
      refine .block ?_
      refine .loop (fun p : Nat => ⟨94, [], [(8, I (p : Int)), (3, .pointer (some ⟨b3, 0, none⟩)), (5, .pointer (some ⟨b5, 0, none⟩)), (1, .slice ap l.length cp)]⟩)
        (fun p w => p ≤ l.length ∧ (∀ i < p, gi A (getP l i).u.toNat - gi B (getP l i).u.toNat ≤ 2 * (getP l i).t ∧ gi B (getP l i).u.toNat - gi A (getP l i).u.toNat ≤ 2 * (getP l i).t) ∧ St H w (.blk b5 [.slice aA A.length cA, .slice aB B.length cB] :: .blk b3 [I a.sys.many, .slice al a.sys.lims.length cl, .slice aw a.ws.length cw, I a.width] :: σ))
        (fun p => l.length - p) 0 (by repeat (first | exact .nil rfl rfl | refine .cons rfl ?_))
        ⟨by omega, fun i h => by omega, hs⟩ ?_
      rintro k w ⟨hk, hn, hs⟩
      refine .seq (.regSeq (.z zm (.z zm (.z (zlen Tryz.runUnderlying28) (.z zlss (.nil ?_))))))
      refine (.condD rfl (fun hc29 => ?_) (fun hc29 => ?_))
      · refine .skip ?_
        refine nT ?_
        refine .seq (.block (.regSeq ?_))
        have hk' : k < l.length := by omega
        have hg := getP_get hk'
        obtain ⟨⟨u1, u2⟩, t1, t2⟩ := hin _ (getP_mem hk')
        have fA := kA.free (getP l k).u.toNat (by omega)
        have fB := kB.free (getP l k).u.toNat (by omega)
        have gA := gi_get (l := A) (i := (getP l k).u.toNat) (by omega)
        have gB := gi_get (l := B) (i := (getP l k).u.toNat) (by omega)
        refine .z zm (.z zm ?_)
        refine .ixX (enc := Prb.c) hs hp rfl rfl Tryz.runUnderlying28 Tryz.sizeOf54 hg rfl ?_; intro b34 o34 hc34
        refine .z (zfa fa_api_Probe_0) ?_
        refine .q hs (q_loadR rfl Tryz.isAgg3 (hc34.get 0 rfl)) ?_
        refine .z zg (.nil ?_)
        refine .seq (.draw mix rfl hs ?_); intro w hs
        refine .z 0 rfl (zfa fa_api_Twins_0) ?_; refine .y 1 rfl hs Tryz.isAgg25 ?_; refine .z 2 rfl zm ?_
        refine .ixX (enc := fun x => [I x]) (i := 3) hs rfl (by kernel_rfl) .none hA rfl rfl Tryz.runUnderlying25 Tryz.sizeOf3 gA (by omega) ?_; intro b40 o40 hc40; replace hc40 := CellsAt.one hc40
        refine .r (i := 4) hs rfl (by kernel_rfl) .none (q_loadR rfl Tryz.isAgg3 hc40) ?_
        refine .z 5 rfl (zfa fa_api_Twins_1) ?_; refine .y 6 rfl hs Tryz.isAgg25 ?_; refine .z 7 rfl zm ?_
        refine .ixX (enc := fun x => [I x]) (i := 8) hs rfl (by kernel_rfl) .none hB rfl rfl Tryz.runUnderlying25 Tryz.sizeOf3 gB (by omega) ?_; intro b45 o45 hc45; replace hc45 := CellsAt.one hc45
        refine .r (i := 9) hs rfl (by kernel_rfl) .none (q_loadR rfl Tryz.isAgg3 hc45) ?_
        refine .z 10 rfl zsub ?_; refine .z 11 rfl (zfa fa_api_Twins_1) ?_; refine .y 12 rfl hs Tryz.isAgg25 ?_; refine .z 13 rfl zm ?_
        refine .ixX (enc := fun x => [I x]) (i := 14) hs rfl (by kernel_rfl) .none hB rfl rfl Tryz.runUnderlying25 Tryz.sizeOf3 gB (by omega) ?_; intro b51 o51 hc51; replace hc51 := CellsAt.one hc51
        refine .r (i := 15) hs rfl (by kernel_rfl) .none (q_loadR rfl Tryz.isAgg3 hc51) ?_
        refine .z 16 rfl (zfa fa_api_Twins_0) ?_; refine .y 17 rfl hs Tryz.isAgg25 ?_; refine .z 18 rfl zm ?_
        refine .ixX (enc := fun x => [I x]) (i := 19) hs rfl (by kernel_rfl) .none hA rfl rfl Tryz.runUnderlying25 Tryz.sizeOf3 gA (by omega) ?_; intro b56 o56 hc56; replace hc56 := CellsAt.one hc56
        refine .r (i := 20) hs rfl (by kernel_rfl) .none (q_loadR rfl Tryz.isAgg3 hc56) ?_
        refine .z 21 rfl zsub ?_; refine .z 22 rfl zmax ?_; refine .z 23 rfl zm ?_; refine .z 24 rfl zm ?_
        refine .ixX (enc := Prb.c) (i := 25) hs rfl (by kernel_rfl) .none hp rfl rfl Tryz.runUnderlying28 Tryz.sizeOf54 hg rfl ?_; intro b62 o62 hc62
        refine .z 26 rfl (zfa fa_api_Probe_1) ?_
        refine .r (i := 27) hs rfl (by kernel_rfl) .none (q_loadR rfl Tryz.isAgg3 (hc62.get 1 rfl)) ?_
        refine .z 28 rfl zmul ?_; refine .z 29 rfl zgtr ?_; refine .done (by kernel_rfl) hs ?_
        refine (.condD rfl (fun hc66 => ?_) (fun hc66 => ?_))
        · refine .regSeq (.z zg (.z zg (.nil ?_)))
          refine .ret (rB (rT (rT (rB (rT (Fin.ret2 Tryz.results67 rfl rfl ?_))))))
          exact ⟨_, _, rfl, .far kA kB (fun h => by have := h _ (getP_mem hk'); omega), hs.out⟩
        · refine .skip ?_
          refine nB (nT ?_)
          refine .region (.z zm (.z zadd (.z zg (.nil ?_))))
          refine nT ?_
          exact ⟨k + 1, .consI rfl (by push_cast; omega) (by repeat (first | exact .nil rfl rfl | refine .cons rfl ?_)), ⟨by omega, fun i hi => by
            by_cases e : i = k
            · subst e; omega
            · exact hn i (by omega), hs⟩, by omega⟩
      · refine .exit ?_
        refine xT (xT (xB (nT ?_)))
        refine .regSeq (.z zg (.nil (.seq (.regSeq (.z zg (.nil (.block ?_)))))))
        refine .loop (fun p : Nat => ⟨94, [], [(11, I (p : Int)), (10, I (IntKind.i64.wrap (apartV a A B p))), (3, .pointer (some ⟨b3, 0, none⟩)), (5, .pointer (some ⟨b5, 0, none⟩))]⟩)
          (fun p w => p ≤ a.ws.length ∧ St H w (.blk b5 [.slice aA A.length cA, .slice aB B.length cB] :: .blk b3 [I a.sys.many, .slice al a.sys.lims.length cl, .slice aw a.ws.length cw, I a.width] :: σ))
          (fun p => a.ws.length - p) 0 (.consI rfl rfl (.consI rfl (by simp [apartV, sumTo, i64wrap_eq]) (by repeat (first | exact .nil rfl rfl | refine .cons rfl ?_))))
          ⟨by omega, hs⟩ ?_
        rintro q w ⟨hq, hs⟩
        refine .seq (.regSeq (.z zm (.z (zfa fa_api_Ask_1) (.y hs (zld Tryz.isAgg25) (.z (zlen Tryz.runUnderlying25) (.z zlss (.nil ?_)))))))
        refine (.condD rfl (fun hc71 => ?_) (fun hc71 => ?_))
        · refine .skip ?_
          refine nT ?_
          refine .seq (.block ?_)
          refine .draw mix rfl hs ?_; intro w hs
          have hq' : q < a.ws.length := by omega
          have fA := kA.free q (by omega)
          have fB := kB.free q (by omega)
          have gA := gi_get (l := A) (i := q) (by omega)
          have gB := gi_get (l := B) (i := q) (by omega)
          refine .z 0 rfl zm ?_; refine .z 1 rfl (zfa fa_api_Ask_1) ?_; refine .y 2 rfl hs Tryz.isAgg25 ?_; refine .z 3 rfl zm ?_
          refine .ixX (enc := fun x => [I x]) (i := 4) hs rfl (by kernel_rfl) .none hw rfl rfl Tryz.runUnderlying25 Tryz.sizeOf3 (gi_get (l := a.ws) hq') rfl ?_; intro b78 o78 hc78; replace hc78 := CellsAt.one hc78
          refine .r (i := 5) hs rfl (by kernel_rfl) .none (q_loadR rfl Tryz.isAgg3 hc78) ?_
          refine .z 6 rfl (zfa fa_api_Twins_1) ?_; refine .y 7 rfl hs Tryz.isAgg25 ?_; refine .z 8 rfl zm ?_
          refine .ixX (enc := fun x => [I x]) (i := 9) hs rfl (by kernel_rfl) .none hB rfl rfl Tryz.runUnderlying25 Tryz.sizeOf3 gB rfl ?_; intro b83 o83 hc83; replace hc83 := CellsAt.one hc83
          refine .r (i := 10) hs rfl (by kernel_rfl) .none (q_loadR rfl Tryz.isAgg3 hc83) ?_
          refine .z 11 rfl (zfa fa_api_Twins_0) ?_; refine .y 12 rfl hs Tryz.isAgg25 ?_; refine .z 13 rfl zm ?_
          refine .ixX (enc := fun x => [I x]) (i := 14) hs rfl (by kernel_rfl) .none hA rfl rfl Tryz.runUnderlying25 Tryz.sizeOf3 gA rfl ?_; intro b88 o88 hc88; replace hc88 := CellsAt.one hc88
          refine .r (i := 15) hs rfl (by kernel_rfl) .none (q_loadR rfl Tryz.isAgg3 hc88) ?_
          refine .z 16 rfl zsub ?_; refine .z 17 rfl (q_mul rfl rfl) ?_; refine .z 18 rfl (q_add rfl rfl) ?_; refine .z 19 rfl zg ?_; refine .done (by kernel_rfl) hs ?_
          refine nB (nT ?_)
          refine .region (.z zm (.z zadd (.z zg (.nil ?_))))
          refine nT ?_
          exact ⟨q + 1, .consI rfl (by push_cast; omega) (.consI rfl (by rw [i64wrap_add2, i64wrap_add, apartV_succ]) (by repeat (first | exact .nil rfl rfl | refine .cons rfl ?_))), ⟨by omega, hs⟩, by omega⟩
        · refine .exit ?_
          refine xT (xT (xB (nT ?_)))
          refine .regSeq (.z zm (.z zg (.z zg (.nil ?_))))
          refine .ret (Fin.ret2 Tryz.results67 rfl rfl ?_)
          obtain rfl : q = a.ws.length := by omega
          exact ⟨_, _, rfl, .ok kA kB (near_upto (fun i hi => hn i (by omega))), hs.out⟩
theorem ref09_CheckTwins_spec {H : Heap} {w : World} {σ : List Ent} {v vl va vb : Value} {a : Quest} {l : List Prb} {A B : List Int} (hs : St H w σ) (hr : RAsk H v a) (hp : RPs H vl l) (hA : RI H va A) (hB : RI H vb B) :
    Cl Tryz.prog 17 [v, vl, .agg #[va, vb]] w fun u w' => ∃ H1 n e, HLe H H1 ∧ u = .tuple #[I n, I e] ∧ TwnR a l A B n e ∧ St H1 w' σ := by
  obtain ⟨ul, uw, rfl, hl, hw⟩ := hr
  obtain ⟨ap, cp, rfl⟩ := RPs.shape hp
  obtain ⟨aA, cA, rfl⟩ := RI.shape hA
  obtain ⟨aB, cB, rfl⟩ := RI.shape hB
  refine Cl.of Tryz.func17 rfl Tryz.ntmps17 (by simp) (args_cons (k := 0) rfl (args_cons (k := 1) rfl (args_cons (k := 2) rfl (args0)))) ?_
  refine .regSeq ?_
  refine .o (.box hs rfl rfl ?_); intro b3 w hs
  refine .o (.box hs rfl rfl ?_); intro b5 w hs
  refine .z zg (.z zg (.nil (.regSeq (.y hs (zls [_, _, _, _] Tryz.isAgg27 Tryz.sizeOf27) (.z zm ?_)))))
  refine .o (.call Tryz.call60 rfl (ref09_CheckProbes_spec (a := a) hs ⟨_, _, rfl, hl, hw⟩ hp) ?_); rintro _ w ⟨H1, e, hle1, rfl, hC, hs⟩
  refine .z zg (.nil (.seq (.regSeq (.z zm (.z zneq (.nil ?_))))))
  refine (.condN rfl (fun hc15 => ?_) (fun hc15 => ?_))
  · refine .regSeq (.z zm (.z zg (.z zg (.nil ?_))))
    refine .ret (rT (Fin.ret2 Tryz.results17 rfl rfl ?_))
    exact ⟨H1, 0, e, hle1, rfl, .inl ⟨hC, hc15, rfl⟩, hs.out⟩
  · refine .skip ?_
    refine nT ?_
    refine .regSeq (.y hs (zls [_, _, _, _] Tryz.isAgg27 Tryz.sizeOf27) (.z zm (.y hs (zls [_, _] Tryz.isAgg39 Tryz.sizeOf39) ?_)))
    rw [hc15] at hC
    obtain ⟨hok, hlen, hin⟩ := hC.zero
    refine .o (.call Tryz.call67 rfl (ref09_twins_spec (a := a) hs ⟨_, _, rfl, hl.mono hle1, hw.mono hle1⟩ (hp.mono hle1) (hA.mono hle1) (hB.mono hle1) hok hlen (fun p h => (hin p h).inn)) ?_); rintro _ w ⟨n, e2, rfl, hAp, hs⟩
    refine .z zm (.z zex (.z zex (.z zg (.z zg (.nil (.regSeq (.z zm (.z zm (.z zg ?_)))))))))
    refine .z zg (.nil ?_)
    refine .ret (Fin.ret2 Tryz.results17 rfl rfl ?_)
    exact ⟨H1, n, e2, hle1, rfl, .inr ⟨hC, hAp⟩, hs.out⟩
end Go.Proofs.YtiiokdeehlfeeaaGreat

namespace Go.Proofs.YtiiokdeehlfeeaaGreat
open Go.MW
theorem half_floor (x : Int) (h : -9223372036854775808 ≤ x.tdiv 2 ∧ x.tdiv 2 ≤ 9223372036854775807) : (if x.tmod 2 < 0 then IntKind.i64.wrap (x.tdiv 2) - 1 else IntKind.i64.wrap (x.tdiv 2)) = x / 2 := by
  rw [i64wrap h]
  have h1 := Int.tmod_add_mul_tdiv x 2
  have h2 := Int.tmod_lt_of_pos x (b := 2) (by omega)
  have h3 := Int.lt_tmod_of_pos x (b := 2) (by omega)
  split <;> omega
theorem quo_bd {x : Int} (h : -2560000 ≤ x ∧ x ≤ 2560000) : -2560000 ≤ x.tdiv 2 ∧ x.tdiv 2 ≤ 2560000 := by
  have h1 := Int.tmod_add_mul_tdiv x 2
  have h2 := Int.tmod_lt_of_pos x (b := 2) (by omega)
  have h3 := Int.lt_tmod_of_pos x (b := 2) (by omega)
  omega
set_option maxHeartbeats 4000000 in
theorem ref09_Meeting_spec {H : Heap} {w : World} {σ : List Ent} {vl va vb : Value} {l : List Prb} {A B : List Int} (hs : St H w σ) (hp : RPs H vl l) (hA : RI H va A) (hB : RI H vb B) (hlen : l.length ≤ 17592186044415) :
    Cl Tryz.prog 19 [vl, .agg #[va, vb]] w fun u w' => ∃ H1 vo e, HLe H H1 ∧ u = .tuple #[.agg #[vo], I e] ∧ e = meetErr A B l ∧ RI H1 vo (if e = 0 then meetVals A B l else []) ∧ St H1 w' σ := by
  obtain ⟨al, cpl, rfl⟩ := RPs.shape hp
  obtain ⟨aA, cA, rfl⟩ := RI.shape hA
  obtain ⟨aB, cB, rfl⟩ := RI.shape hB
  have hlA := (RI.len hA).2.2
  have hlB := (RI.len hB).2.2
  refine Cl.of Tryz.func19 rfl Tryz.ntmps19 (by simp) (args_cons (k := 0) rfl (args_cons (k := 1) rfl (args0))) ?_
  refine .regSeq ?_
  refine .o (.box hs rfl rfl ?_); intro b3 w hs
  refine .o (.alloc hs Tryz.zeroValue42 rfl ?_); intro b4 w hs
  refine .z zg (.nil (.seq (.regSeq (.z (zfa fa_api_Twins_0) (.y hs (zld Tryz.isAgg25) (.z (zlen Tryz.runUnderlying25) (.z (zfa fa_api_Twins_1) (.y hs (zld Tryz.isAgg25) (.z (zlen Tryz.runUnderlying25) ?_)))))))))
  refine .z zneq (.nil ?_)
  refine (.condN rfl (fun hc19 => ?_) (fun hc19 => ?_))
  · refine .regSeq (.z (zbd [_] bld_api_Outcome) ?_)
    refine .o (.stores (vs := [_]) hs rfl rfl Tryz.sizeOf42 ?_); intro w hs
    refine .z zg (.nil ?_)
    refine .ret (rT (?_))
    exact Fin.retD [] [] hs fun w hs => ⟨_, results2 Tryz.results19 (rcells (vs := [_]) hs rfl Tryz.isAgg42 Tryz.sizeOf42) rfl, H, _, _, HLe.refl _, rfl, (by unfold meetErr; rw [if_pos (by omega)]), by rw [if_neg (by decide)]; exact RS.nil H 1 none 0, hs.out⟩
  · refine .skip ?_
    refine nT ?_
    refine .regSeq (.z zg (.nil (.regSeq ?_)))
    refine .o (.alloc hs Tryz.zeroValue42 rfl ?_); intro b7 w hs
    refine .nil (.seq (.regSeq (.z zg (.nil (.block ?_)))))
    refine .loop (fun p : Nat => ⟨107, [], [(8, I (p : Int)), (7, .pointer (some ⟨b7, 0, none⟩)), (6, I 1280000), (3, .pointer (some ⟨b3, 0, none⟩)), (4, .pointer (some ⟨b4, 0, none⟩)), (0, .slice al l.length cpl)]⟩)
      (fun p w => p ≤ l.length ∧ (∀ q ∈ l.take p, meet1 A B q = 0) ∧ ∃ v7 en, OwnS 1 v7 (Is (meetVals A B (l.take p))) en ∧ St H w (en :: .blk b7 [v7] :: .blk b4 [.slice none 0 0] :: .blk b3 [.slice aA A.length cA, .slice aB B.length cB] :: σ))
      (fun p => l.length - p) 0 (by repeat (first | exact .nil rfl rfl | refine .cons rfl ?_))
      ⟨by omega, by simp, _, _, .nil 1 none, hs.nul⟩ ?_
    rintro k w ⟨hk, h0, v7, en, hO, hs⟩
    obtain ⟨a7, l7, c7, rfl, h7⟩ := hO.shape
    refine .seq (.regSeq (.z zm (.z zm (.z (zlen Tryz.runUnderlying28) (.z zlss (.nil ?_))))))
    refine (.condD rfl (fun hc24 => ?_) (fun hc24 => ?_))
    · refine .skip ?_
      refine nT ?_
      refine .seq (.block (.regSeq ?_))
      have hk' : k < l.length := by omega
      have hx := getP_get hk'
      generalize getP l k = pp at hx
      refine .z zm (.z zm ?_)
      refine .ixX (enc := Prb.c) hs hp rfl rfl Tryz.runUnderlying28 Tryz.sizeOf54 hx rfl ?_; intro b29 o29 hc29
      refine .z (zfa fa_api_Probe_0) ?_
      refine .q hs (q_loadR rfl Tryz.isAgg3 (hc29.get 0 rfl)) ?_
      refine .z zg (.nil (.seq (.regSeq (.z zm (.z (zfa fa_api_Twins_0) (.y hs (zld Tryz.isAgg25) (.z (zlen Tryz.runUnderlying25) (.z zsub ?_))))))))
      refine .o (.call Tryz.call55 rfl (ref09_in_spec hs) ?_); rintro _ w ⟨rfl, hs⟩
      refine .z znot (.z zm ?_)
      refine .bif (t' := 39) rfl (fun hb39 => ?_) (fun hb39 => ?_)
      · refine .gFs 7 7 false rfl rfl rfl ?_
        refine .z zpT (.nil ?_)
        refine (.condT rfl rfl ?_)
        refine .regSeq (.z (zbd [_] bld_api_Outcome) ?_)
        refine .o (.stores (vs := [_]) hs rfl rfl Tryz.sizeOf42 ?_); intro w hs
        refine .z zg (.nil ?_)
        refine .ret (rT (rB (rT (rT (rB (rT (?_)))))))
        have hm : meet1 A B pp = 91 := by unfold meet1; rw [if_pos (.inl (fun h => by simp at hb39; omega))]
        exact Fin.retD [] [] hs fun w hs => ⟨_, results2 Tryz.results19 (rcells (vs := [_]) hs rfl Tryz.isAgg42 Tryz.sizeOf42) rfl, H, _, _, HLe.refl _, rfl, (by unfold meetErr; rw [if_neg (by omega), meetE_at h0 hx (by rw [hm]; decide), hm]), by rw [if_neg (by decide)]; exact RS.nil H 1 none 0, hs.out⟩
      · refine .gT rfl rfl ?_
        refine .z zm ?_
        refine .gT rfl rfl ?_
        refine .z zm ?_
        refine .gT rfl rfl ?_
        refine .ixX (enc := Prb.c) hs hp rfl rfl Tryz.runUnderlying28 Tryz.sizeOf54 hx rfl ?_; intro b42 o42 hc42
        refine .gT rfl rfl ?_
        refine .z (zfa fa_api_Probe_1) ?_
        refine .gT rfl rfl ?_
        refine .q hs (q_loadR rfl Tryz.isAgg3 (hc42.get 1 rfl)) ?_
        refine .gT rfl rfl ?_
        refine .o (.call Tryz.call55 rfl (ref09_in_spec hs) ?_); rintro _ w ⟨rfl, hs⟩
        refine .gT rfl rfl ?_
        refine .z znot (.z zpF (.nil ?_))
        refine (.cond rfl (fun hc47 => ?_) (fun hc47 => ?_))
        · refine .regSeq (.z (zbd [_] bld_api_Outcome) ?_)
          refine .o (.stores (vs := [_]) hs rfl rfl Tryz.sizeOf42 ?_); intro w hs
          refine .z zg (.nil ?_)
          refine .ret (rT (rB (rT (rT (rB (rT (?_)))))))
          have hm : meet1 A B pp = 91 := by unfold meet1; rw [if_pos (.inr (fun h => by simp at hc47; omega))]
          exact Fin.retD [] [] hs fun w hs => ⟨_, results2 Tryz.results19 (rcells (vs := [_]) hs rfl Tryz.isAgg42 Tryz.sizeOf42) rfl, H, _, _, HLe.refl _, rfl, (by unfold meetErr; rw [if_neg (by omega), meetE_at h0 hx (by rw [hm]; decide), hm]), by rw [if_neg (by decide)]; exact RS.nil H 1 none 0, hs.out⟩
        · refine .skip ?_
          refine nT ?_
          refine .regSeq ?_
          have hu : 1 ≤ pp.u ∧ pp.u ≤ (A.length : Int) - 1 := by simpa using hb39
          have ht : 0 ≤ pp.t ∧ pp.t ≤ 1000 := by simpa using hc47
          have hxA := gi_get (l := A) (i := pp.u.toNat) (by omega)
          have hxB := gi_get (l := B) (i := pp.u.toNat) (by omega)
          refine .z (zfa fa_api_Twins_0) (.y hs (zld Tryz.isAgg25) (.z zm ?_))
          refine .ixX (enc := fun x => [I x]) hs hA rfl rfl Tryz.runUnderlying25 Tryz.sizeOf3 hxA (by omega) ?_; intro b52 o52 hc52; replace hc52 := CellsAt.one hc52
          refine .y hs (zld Tryz.isAgg3) (.z zg (.nil (.regSeq (.z (zfa fa_api_Twins_1) (.y hs (zld Tryz.isAgg25) (.z zm ?_))))))
          refine .ixX (enc := fun x => [I x]) hs hB rfl rfl Tryz.runUnderlying25 Tryz.sizeOf3 hxB (by omega) ?_; intro b57 o57 hc57; replace hc57 := CellsAt.one hc57
          refine .y hs (zld Tryz.isAgg3) (.z zg (.nil (.seq (.regSeq (.z zm (.z zm (.z zneg (.z zm ?_))))))))
          refine .o (.call Tryz.call55 rfl (ref09_in_spec hs) ?_); rintro _ w ⟨rfl, hs⟩
          refine .z znot (.z zm ?_)
          refine .bif (t' := 65) rfl (fun hb65 => ?_) (fun hb65 => ?_)
          · refine .gFs 6 6 false rfl rfl rfl ?_
            refine .z zpT (.nil ?_)
            refine (.condT rfl rfl ?_)
            refine .regSeq (.z (zbd [_] bld_api_Outcome) ?_)
            refine .o (.stores (vs := [_]) hs rfl rfl Tryz.sizeOf42 ?_); intro w hs
            refine .z zg (.nil ?_)
            refine .ret (rT (rB (rT (rT (rB (rT (?_)))))))
            have hm : meet1 A B pp = 25 := by unfold meet1; rw [if_neg (by omega), if_pos (.inl (fun h => by simp at hb65; omega))]
            exact Fin.retD [] [] hs fun w hs => ⟨_, results2 Tryz.results19 (rcells (vs := [_]) hs rfl Tryz.isAgg42 Tryz.sizeOf42) rfl, H, _, _, HLe.refl _, rfl, (by unfold meetErr; rw [if_neg (by omega), meetE_at h0 hx (by rw [hm]; decide), hm]), by rw [if_neg (by decide)]; exact RS.nil H 1 none 0, hs.out⟩
          · refine .gT rfl rfl ?_
            refine .z zm ?_
            refine .gT rfl rfl ?_
            refine .z zm ?_
            refine .gT rfl rfl ?_
            refine .z zneg ?_
            refine .gT rfl rfl ?_
            refine .z zm ?_
            refine .gT rfl rfl ?_
            refine .o (.call Tryz.call55 rfl (ref09_in_spec hs) ?_); rintro _ w ⟨rfl, hs⟩
            refine .gT rfl rfl ?_
            refine .z znot (.z zpF (.nil ?_))
            refine (.cond rfl (fun hc72 => ?_) (fun hc72 => ?_))
            · refine .regSeq (.z (zbd [_] bld_api_Outcome) ?_)
              refine .o (.stores (vs := [_]) hs rfl rfl Tryz.sizeOf42 ?_); intro w hs
              refine .z zg (.nil ?_)
              refine .ret (rT (rB (rT (rT (rB (rT (?_)))))))
              have hm : meet1 A B pp = 25 := by unfold meet1; rw [if_neg (by omega), if_pos (.inr (fun h => by simp at hc72; omega))]
              exact Fin.retD [] [] hs fun w hs => ⟨_, results2 Tryz.results19 (rcells (vs := [_]) hs rfl Tryz.isAgg42 Tryz.sizeOf42) rfl, H, _, _, HLe.refl _, rfl, (by unfold meetErr; rw [if_neg (by omega), meetE_at h0 hx (by rw [hm]; decide), hm]), by rw [if_neg (by decide)]; exact RS.nil H 1 none 0, hs.out⟩
            · refine .skip ?_
              refine nT ?_
              refine .seq (.regSeq ?_)
              have hra : -1280000 ≤ gi A pp.u.toNat ∧ gi A pp.u.toNat ≤ 1280000 := by simpa using hb65
              have hrb : -1280000 ≤ gi B pp.u.toNat ∧ gi B pp.u.toNat ≤ 1280000 := by simpa using hc72
              refine .z zm (.z zm (.z zsub (.z zm (.z zm (.z zsub (.z zmax (.z zm (.z zm ?_))))))))
              refine .ixX (enc := Prb.c) hs hp rfl rfl Tryz.runUnderlying28 Tryz.sizeOf54 hx rfl ?_; intro b83 o83 hc83
              refine .z (zfa fa_api_Probe_1) ?_
              refine .q hs (q_loadR rfl Tryz.isAgg3 (hc83.get 1 rfl)) ?_
              refine .z zmul (.z zgtr (.nil ?_))
              refine (.condD rfl (fun hc87 => ?_) (fun hc87 => ?_))
              · refine .regSeq (.z (zbd [_] bld_api_Outcome) ?_)
                refine .o (.stores (vs := [_]) hs rfl rfl Tryz.sizeOf42 ?_); intro w hs
                refine .z zg (.nil ?_)
                refine .ret (rT (rB (rT (rT (rB (rT (?_)))))))
                have hm : meet1 A B pp = 92 := by unfold meet1; rw [if_neg (by omega), if_neg (by omega), if_pos (by omega)]
                exact Fin.retD [] [] hs fun w hs => ⟨_, results2 Tryz.results19 (rcells (vs := [_]) hs rfl Tryz.isAgg42 Tryz.sizeOf42) rfl, H, _, _, HLe.refl _, rfl, (by unfold meetErr; rw [if_neg (by omega), meetE_at h0 hx (by rw [hm]; decide), hm]), by rw [if_neg (by decide)]; exact RS.nil H 1 none 0, hs.out⟩
              · refine .skip ?_
                refine nT ?_
                refine .regSeq (.z zm (.z zm (.z zadd (.z zquo (.z zg (.nil ?_))))))
                refine .cut (fun fs w => FSub fs ⟨107, [], [(12, I ((gi A pp.u.toNat + gi B pp.u.toNat) / 2)), (8, I (k : Int)), (7, .pointer (some ⟨b7, 0, none⟩)), (6, I 1280000), (3, .pointer (some ⟨b3, 0, none⟩)), (4, .pointer (some ⟨b4, 0, none⟩)), (0, .slice al l.length cpl)]⟩ ∧ St H w (en :: .blk b7 [.slice a7 l7 c7] :: .blk b4 [.slice none 0 0] :: .blk b3 [.slice aA A.length cA, .slice aB B.length cB] :: σ)) ?_ ?_
                · refine .regSeq (.z zm (.z zm (.z zadd (.z zrem (.z zlss (.nil ?_))))))
                  refine (.condD rfl (fun hc97 => ?_) (fun hc97 => ?_))
                  · refine .region (.z zm ?_)
                    have hqd := quo_bd (x := gi A pp.u.toNat + gi B pp.u.toNat) (by omega)
                    rw [i64wrap (by omega)]
                    refine .z zsub (.z zg (.nil ?_))
                    refine nT ?_
                    have hqd := quo_bd (x := gi A pp.u.toNat + gi B pp.u.toNat) (by omega)
                    have hh := half_floor (gi A pp.u.toNat + gi B pp.u.toNat) (by omega)
                    rw [if_pos hc97, i64wrap (by omega)] at hh
                    exact ⟨.consI rfl hh (by repeat (first | exact .nil rfl rfl | refine .cons rfl ?_)), hs⟩
                  · refine .skip ?_
                    refine nT ?_
                    have hqd := quo_bd (x := gi A pp.u.toNat + gi B pp.u.toNat) (by omega)
                    have hh := half_floor (gi A pp.u.toNat + gi B pp.u.toNat) (by omega)
                    rw [if_neg hc97] at hh
                    exact ⟨.consI rfl hh (by repeat (first | exact .nil rfl rfl | refine .cons rfl ?_)), hs⟩
                · rintro fs w ⟨hfs, hs⟩
                  refine WE.sub ?_ hfs
                  refine .region (.z (zfa fa_api_Outcome_0) (.y hs (zld Tryz.isAgg25) (.z zm ?_)))
                  refine .o (.buildSlice (cells := [_]) hs bls_sl_int_1 rfl rfl ?_); intro b103 w hs
                  refine .o (.append (ys := [I ((gi A pp.u.toNat + gi B pp.u.toNat) / 2)]) hs app_sl_int_int rfl rfl hO (.own .here rfl rfl) (by simp [Value.oneCell']) (fun l' h => by simp [meetVals] at h; omega) ?_); intro v104 en104 w hO2 hs
                  obtain ⟨a104, l104, c104, rfl, h104⟩ := hO2.shape
                  refine .z (zfa fa_api_Outcome_0) ?_
                  refine .o (.store hs rfl rfl Tryz.sizeOf25 ?_); intro w hs
                  refine .nil ?_
                  refine nB (nT ?_)
                  refine .region (.z zm (.z zadd (.z zg (.nil ?_))))
                  refine nT ?_
                  have hm : meet1 A B pp = 0 := by unfold meet1; rw [if_neg (by omega), if_neg (by omega), if_neg (by omega)]
                  refine ⟨k + 1, .consI rfl (by push_cast; omega) (by repeat (first | exact .nil rfl rfl | refine .cons rfl ?_)), ⟨by omega, ?_, _, _, ?_, hs.sub (by repeat (first | exact Sub.refl _ | constructor | apply Sub.weaken))⟩, by omega⟩
                  · rw [take_snoc hx]; intro q hq; simp only [List.mem_append, List.mem_singleton] at hq; rcases hq with hq | rfl; exact h0 q hq; exact hm
                  · rw [take_snoc hx]; simpa [meetVals] using hO2
    · refine .exit ?_
      refine xT (xT (xB (nT ?_)))
      refine .regSeq (.y hs (zls [_] Tryz.isAgg42 Tryz.sizeOf42) ?_)
      refine .o (.stores (vs := [_]) hs rfl rfl Tryz.sizeOf42 ?_); intro w hs
      refine .z zg (.nil ?_)
      refine .ret ?_
      obtain rfl : k = l.length := by omega
      rw [List.take_length] at hO h0
      obtain ⟨H3, g1, r1, hs⟩ := hO.publishI (by simp [meetVals]; omega) hs (by repeat constructor)
      exact Fin.retD [] [] hs fun w hs => ⟨_, results2 Tryz.results19 (rcells (vs := [_]) hs rfl Tryz.isAgg42 Tryz.sizeOf42) rfl, H3, _, _, g1, rfl, (by unfold meetErr; rw [if_neg (by omega), meetE_all h0]), by rw [if_pos rfl]; exact r1, hs.out⟩
end Go.Proofs.YtiiokdeehlfeeaaGreat

namespace Go.Proofs.YtiiokdeehlfeeaaGreat
open Go.MW
theorem gi_takeN {xs : List Int} {n v : Nat} (h : v < n) : gi (xs.take n) v = gi xs v := by
  simp [gi, List.getD, h]
theorem gi_dropN {xs : List Int} {n v : Nat} : gi (xs.drop n) v = gi xs (n + v) := by
  simp [gi, List.getD, List.getElem?_drop]
theorem sumTo_diff (f g : Nat → Int) : ∀ n, sumTo (fun v => f v - g v) n = sumTo f n - sumTo g n
  | 0 => rfl
  | n + 1 => by simp only [sumTo, sumTo_diff f g n]; omega
structure TwinF (a : Quest) (l : List Prb) (A B : List Int) : Prop where
  kA : KeepsP a.sys A
  kB : KeepsP a.sys B
  near : Near l (gi A) (gi B)
  most : PairS a l (apartV a A B a.ws.length)
  meet : meetErr A B l = 0
theorem twin_facts {a : Quest} {l : List Prb} {A B : List Int} (hok : AskOk a) (hin : ∀ p ∈ l, PrbIn a p) (h : TwinR a l (A, B)) : TwinF a l A B := by
  obtain ⟨xs, hB, hE⟩ := h
  obtain ⟨rfl, rfl⟩ := Prod.mk.inj hE
  obtain ⟨N, hN⟩ := Int.eq_ofNat_of_zero_le hok.ok.m0
  have en : a.sys.n = N + 1 := by simp only [Syst.n]; omega
  have ed : (dblS a l).n = N + N + 1 := by simp only [Syst.n, dblS]; omega
  have hlen : xs.length = N + N + 1 := by rw [hB.len, ed]
  have hwl : a.ws.length = N + 1 := by rw [hok.wl, en]
  have gA : ∀ v < a.sys.n, gi (xs.take a.sys.n) v = gi xs v := fun v hv => gi_takeN hv
  have gB : ∀ v < a.sys.n, gi (0 :: xs.drop a.sys.n) v = sndP N (gi xs) v := fun v hv => by
    cases v with
    | zero => show (0 : Int) = gi xs 0; rw [hB.zero]
    | succ v =>
      rw [gi_cons, gi_dropN]
      unfold sndP
      rw [if_neg (by omega)]
      congr 1; omega
  have hP := (dbl_feas hok hin N hN.symm).1 hB.feas
  have lowA : ∀ v < a.sys.n, -1280000 ≤ gi (xs.take a.sys.n) v ∧ gi (xs.take a.sys.n) v ≤ 1280000 := fun v hv => by
    have := hB.low v (by omega)
    rw [gA v hv]; omega
  have lowB : ∀ v < a.sys.n, -1280000 ≤ gi (0 :: xs.drop a.sys.n) v ∧ gi (0 :: xs.drop a.sys.n) v ≤ 1280000 := fun v hv => by
    rw [gB v hv]
    unfold sndP
    split
    · have := hB.low 0 (by omega); omega
    · have := hB.low (v + N) (by omega); omega
  have kA : KeepsP a.sys (xs.take a.sys.n) := ⟨by rw [List.length_take]; omega, by rw [gA 0 (by omega)]; exact hB.zero, fun v hv => by have := lowA v hv; omega, hP.fx.congr hok.ok (fun v hv => (gA v hv).symm)⟩
  have kB : KeepsP a.sys (0 :: xs.drop a.sys.n) := ⟨by rw [List.length_cons, List.length_drop]; omega, rfl, fun v hv => by have := lowB v hv; omega, hP.fy.congr hok.ok (fun v hv => (gB v hv).symm)⟩
  have hnear : Near l (gi (xs.take a.sys.n)) (gi (0 :: xs.drop a.sys.n)) := fun p hp => by
    obtain ⟨⟨u1, u2⟩, _⟩ := hin p hp
    have := hP.near p hp
    rw [gA _ (by omega), gB _ (by omega)]
    exact this
  refine ⟨kA, kB, hnear, ?_, ?_⟩
  · have h1 := (dbl_opt hok hin).1 hB.sum
    have h2 := dbl_val hok (z := gi xs) (l := l) N hN.symm
    have h3 : sumTo (fun v => gi (dblW a.ws) v * gi xs v) (dblS a l).n = valw (dblW a.ws) (dblS a l).n (gi xs) := sumTo_congr fun v _ => by rw [hB.zero, Int.sub_zero]
    have h4 : apartV a (xs.take a.sys.n) (0 :: xs.drop a.sys.n) a.ws.length = valw a.ws a.sys.n (sndP N (gi xs)) - valw a.ws a.sys.n (gi xs) := by
      unfold apartV valw
      rw [← sumTo_diff, hok.wl]
      refine sumTo_congr fun v hv => ?_
      have e0 : sndP N (gi xs) 0 = gi xs 0 := rfl
      rw [gA v hv, gB v hv, e0, hB.zero, Int.sub_zero, Int.sub_zero, Int.mul_sub]
    rw [h4, ← h2, ← h3]
    exact h1
  · unfold meetErr
    rw [if_neg (by rw [kA.len, kB.len]; simp)]
    refine meetE_all fun p hp => ?_
    obtain ⟨⟨u1, u2⟩, t1, t2⟩ := hin p hp
    have e1 := lowA p.u.toNat (by omega)
    have e2 := lowB p.u.toNat (by omega)
    have e3 := hnear p hp
    have e4 := kA.len
    unfold meet1
    rw [if_neg (by omega), if_neg (by omega), if_neg (by omega)]
theorem probe_told_Twins {R : List Int → List Int → Int → Prop} {H : Heap} {w : World} {σ : List Ent} {v vl : Value} {a : Quest} {l : List Prb} {g : Nat} {cap : List Value} (hs : St H w σ) (hr : RAsk H v a) (hp : RPs H vl l) (hc : ∀ args w, (callFunc g args).run Tryz.prog w = .ok (.enter g args) w)
    (hg : ∀ H' w σ', HLe H H' → CPrbR a l 0 → St H' w σ' → Cl Tryz.prog g ([v] ++ cap) w fun u w' => ∃ H'' va vb A B e, HLe H' H'' ∧ u = .tuple #[.agg #[va, vb], I e] ∧ RI H'' va A ∧ RI H'' vb B ∧ R A B e ∧ St H'' w' σ') :
    Cl Tryz.prog 68 [v, vl, .func (.func g) #[] cap.toArray] w fun u w' => ∃ H1 va vb A B e, HLe H H1 ∧ u = .tuple #[.agg #[va, vb], I e] ∧ RI H1 va A ∧ RI H1 vb B ∧ ((CPrbR a l e ∧ e ≠ 0 ∧ A = [] ∧ B = []) ∨ (CPrbR a l 0 ∧ R A B e)) ∧ St H1 w' σ := by
  obtain ⟨ul, uw, rfl, hl, hw⟩ := hr
  refine Cl.of Tryz.func68 rfl Tryz.ntmps68 (by simp) (args_cons (k := 0) rfl (args_cons (k := 1) rfl (args_cons (k := 2) rfl (args0)))) ?_
  refine .regSeq ?_
  refine .o (.box hs rfl rfl ?_); intro b3 w hs
  refine .o (.alloc hs Tryz.zeroValue39 rfl ?_); intro b6 w hs
  refine .z zg (.nil (.seq (.regSeq (.y hs (zls [_, _, _, _] Tryz.isAgg27 Tryz.sizeOf27) (.z zm ?_)))))
  refine .o (.call Tryz.call141 rfl (probe_CheckProbes_spec (a := a) hs ⟨_, _, rfl, hl, hw⟩ hp) ?_); rintro _ w ⟨H1, e, hle1, rfl, hC, hs⟩
  refine .z zg (.nil (.regSeq (.z zm (.z zneq (.nil ?_)))))
  refine (.condN rfl (fun hc14 => ?_) (fun hc14 => ?_))
  · refine .regSeq ?_
    refine .o (.alloc hs Tryz.zeroValue39 rfl ?_); intro b9 w hs
    refine .nil (.regSeq (.y hs (zls [_, _] Tryz.isAgg39 Tryz.sizeOf39) (.z zm ?_)))
    refine .o (.stores (vs := [_, _]) hs rfl rfl Tryz.sizeOf39 ?_); intro w hs
    refine .z zg (.nil ?_)
    refine .ret (rT (?_))
    exact Fin.retD [] [] hs fun w hs => ⟨_, results2 Tryz.results68 (rcells (vs := [_, _]) hs rfl Tryz.isAgg39 Tryz.sizeOf39) rfl, H1, _, _, [], [], e, hle1, rfl, RS.nil H1 1 none 0, RS.nil H1 1 none 0, .inl ⟨hC, hc14, rfl, rfl⟩, hs.out⟩
  · refine .skip ?_
    refine nT ?_
    refine .regSeq (.z zm (.y hs (zls [_, _, _, _] Tryz.isAgg27 Tryz.sizeOf27) ?_))
    rw [hc14] at hC
    refine .o (.callG (first := []) rfl rfl hc (hg _ _ _ hle1 hC hs) ?_); rintro _ w ⟨H2, va, vb, A, B, e2, hle2, rfl, hA, hB, hR, hs⟩
    obtain ⟨aA, cA, rfl⟩ := RI.shape hA
    obtain ⟨aB, cB, rfl⟩ := RI.shape hB
    refine .z zex (.z zex ?_)
    refine .o (.stores (vs := [_, _]) hs rfl rfl Tryz.sizeOf39 ?_); intro w hs
    refine .z zg (.nil ?_)
    refine .ret ?_
    exact Fin.retD [] [] hs fun w hs => ⟨_, results2 Tryz.results68 (rcells (vs := [_, _]) hs rfl Tryz.isAgg39 Tryz.sizeOf39) rfl, H2, _, _, A, B, e2, hle1.trans hle2, rfl, hA, hB, .inr ⟨hC, hR⟩, hs.out⟩
theorem probe_Show_1 {H : Heap} {w : World} {σ : List Ent} {v vl : Value} {a : Quest} {l : List Prb} {b : Nat} (hs : St H w σ) (hr : RAsk H v a) (hb : Row H b [vl]) (hp : RPs H vl l) (hok : AskOk a) (hlen : l.length ≤ 8) (hin : ∀ p ∈ l, PrbIn a p) :
    Cl Tryz.prog 69 [v, .pointer (some ⟨b, 0, none⟩)] w fun u w' => ∃ H'' va vb A B e, HLe H H'' ∧ u = .tuple #[.agg #[va, vb], I e] ∧ RI H'' va A ∧ RI H'' vb B ∧ (e = 0 ∧ TwinR a l (A, B)) ∧ St H'' w' σ := by
  obtain ⟨ul, uw, rfl, hl, hw⟩ := hr
  have hb0 : cellAt H b 0 = some vl := hb.at 0
  refine Cl.of Tryz.func69 rfl Tryz.ntmps69 (by simp) (args_cons (k := 0) rfl (args_cons (k := 1) rfl (args0))) ?_
  refine .regSeq ?_
  refine .o (.box hs rfl rfl ?_); intro b2 w hs
  refine .o (.alloc hs Tryz.zeroValue39 rfl ?_); intro b3 w hs
  refine .z zg (.nil (.regSeq (.y hs (zls [_, _, _, _] Tryz.isAgg27 Tryz.sizeOf27) (.y hs (zld Tryz.isAgg28) ?_))))
  refine .o (.call Tryz.call70 rfl (probe_twins_spec (a := a) hs ⟨_, _, rfl, hl, hw⟩ hp hok hlen hin) ?_); rintro _ w ⟨H1, va, vb, xs, hle1, rfl, hA, hB, hBest, hs⟩
  have hT : TwinR a l (xs.take a.sys.n, 0 :: xs.drop a.sys.n) := ⟨xs, hBest, rfl⟩
  generalize xs.take a.sys.n = A at hA hT
  generalize (0 :: xs.drop a.sys.n) = B at hB hT
  obtain ⟨aA, cA, rfl⟩ := RI.shape hA
  obtain ⟨aB, cB, rfl⟩ := RI.shape hB
  refine .z zex (.z zex ?_)
  refine .o (.stores (vs := [_, _]) hs rfl rfl Tryz.sizeOf39 ?_); intro w hs
  refine .z zg (.nil ?_)
  refine .ret ?_
  exact Fin.endD [] [] hs fun w hs => ⟨_, results2 Tryz.results69 (rcells (vs := [_, _]) hs rfl Tryz.isAgg39 Tryz.sizeOf39) rfl, H1, _, _, A, B, 0, hle1, rfl, hA, hB, ⟨rfl, hT⟩, hs.out⟩
def ShowR (a : Quest) (l : List Prb) (A B o : List Int) (e : Int) : Prop := (CPrbR a l e ∧ e ≠ 0 ∧ A = [] ∧ B = [] ∧ o = []) ∨ (CPrbR a l 0 ∧ e = 0 ∧ TwinF a l A B ∧ o = meetVals A B l)
theorem probe_Show_spec {H : Heap} {w : World} {σ : List Ent} {v vl : Value} {a : Quest} {l : List Prb} (hs : St H w σ) (hr : RAsk H v a) (hp : RPs H vl l) :
    Cl Tryz.prog 21 [v, vl] w fun u w' => ∃ H1 va vb vo A B o e, HLe H H1 ∧ u = .tuple #[.agg #[va, vb], .agg #[vo], I e] ∧ RI H1 va A ∧ RI H1 vb B ∧ RI H1 vo o ∧ ShowR a l A B o e ∧ St H1 w' σ := by
  obtain ⟨ul, uw, rfl, hl, hw⟩ := hr
  obtain ⟨ap, cp, rfl⟩ := RPs.shape hp
  refine Cl.of Tryz.func21 rfl Tryz.ntmps21 (by simp) (args_cons (k := 0) rfl (args_cons (k := 1) rfl (args0))) ?_
  refine .regSeq ?_
  refine .o (.box hs rfl rfl ?_); intro b2 w hs
  refine .o (.box hs rfl rfl ?_); intro b3 w hs
  refine .o (.alloc hs Tryz.zeroValue39 rfl ?_); intro b4 w hs
  refine .o (.alloc hs Tryz.zeroValue42 rfl ?_); intro b5 w hs
  refine .z zg (.nil (.regSeq (.y hs (zls [_, _, _, _] Tryz.isAgg27 Tryz.sizeOf27) (.y hs (zld Tryz.isAgg28) ?_))))
  refine .q hs (q_makeFunc (f := []) (c := [_]) rfl rfl) ?_
  obtain ⟨H0, hle0, hb3, hs⟩ := hs.publish (b := b3) (by repeat constructor)
  refine .o (.call Tryz.call68 rfl (probe_told_Twins (R := fun A B e => e = 0 ∧ TwinR a l (A, B)) (a := a) (l := l) (cap := [.pointer (some ⟨b3, 0, none⟩)]) hs ⟨_, _, rfl, hl.mono hle0, hw.mono hle0⟩ (hp.mono hle0) Tryz.call69 ?_) ?_)
  · rintro H' w σ' hle hC hs
    obtain ⟨hok, hlen, hin⟩ := hC.zero
    exact probe_Show_1 (a := a) (l := l) hs ⟨_, _, rfl, (hl.mono hle0).mono hle, (hw.mono hle0).mono hle⟩ (hb3.mono hle) ((hp.mono hle0).mono hle) hok hlen (fun p h => (hin p h).inn)
  rintro _ w ⟨H1, _, _, A, B, e, hle1, rfl, hA, hB, hcase, hs⟩
  obtain ⟨aA, cA, rfl⟩ := RI.shape hA
  obtain ⟨aB, cB, rfl⟩ := RI.shape hB
  have hle01 := hle0.trans hle1
  refine .z zm (.z zex (.z zex ?_))
  refine .o (.alloc hs Tryz.zeroValue39 rfl ?_); intro b7 w hs
  refine .o (.stores (vs := [_, _]) hs rfl rfl Tryz.sizeOf39 ?_); intro w hs
  refine .z zg (.nil (.seq (.regSeq (.z zm (.z zneq (.nil ?_))))))
  refine (.condN rfl (fun hc18 => ?_) (fun hc18 => ?_))
  · refine .regSeq (.z (zbd [_, _] bld_api_Twins) (.z (zbd [_] bld_api_Outcome) (.z zm ?_)))
    refine .o (.stores (vs := [_, _]) hs rfl rfl Tryz.sizeOf39 ?_); intro w hs
    refine .o (.stores (vs := [_]) hs rfl rfl Tryz.sizeOf42 ?_); intro w hs
    refine .z zg (.nil ?_)
    refine .ret (rT (?_))
    have hC1 : CPrbR a l e := by
      rcases hcase with ⟨h1, _⟩ | ⟨_, h1, _⟩
      · exact h1
      · exact (hc18 h1).elim
    exact Fin.retD [] [] hs fun w hs => ⟨_, results3 Tryz.results21 (rcells (vs := [_, _]) hs rfl Tryz.isAgg39 Tryz.sizeOf39) (rcells (vs := [_]) hs rfl Tryz.isAgg42 Tryz.sizeOf42) rfl, H1, _, _, _, [], [], [], e, hle01, rfl, RS.nil H1 1 none 0, RS.nil H1 1 none 0, RS.nil H1 1 none 0, .inl ⟨hC1, hc18, rfl, rfl, rfl⟩, hs.out⟩
  · refine .skip ?_
    refine nT ?_
    refine .regSeq ?_
    obtain ⟨hC0, hF⟩ : CPrbR a l 0 ∧ TwinF a l A B := by
      rcases hcase with ⟨_, h1, _⟩ | ⟨h1, _, h2⟩
      · exact (h1 hc18).elim
      · obtain ⟨hok, hlen, hin⟩ := h1.zero
        exact ⟨h1, twin_facts hok (fun p h => (hin p h).inn) h2⟩
    have hlen := hC0.zero.2.1
    have hb30 : cellAt H1 b3 0 = some (.slice ap l.length cp) := (hb3.mono hle1).at 0
    refine .y hs (zld Tryz.isAgg28) (.y hs (zls [_, _] Tryz.isAgg39 Tryz.sizeOf39) ?_)
    refine .o (.call Tryz.call18 rfl (probe_Meeting_spec hs (hp.mono hle01) hA hB (by omega)) ?_); rintro _ w ⟨H2, _, e2, hle2, rfl, he2, hO, hs⟩
    rw [hF.meet] at he2
    subst he2
    rw [if_pos rfl] at hO
    obtain ⟨aO, cO, rfl⟩ := RI.shape hO
    refine .z zm (.z zex (.z zex ?_))
    refine .o (.alloc hs Tryz.zeroValue42 rfl ?_); intro b9 w hs
    refine .o (.stores (vs := [_]) hs rfl rfl Tryz.sizeOf42 ?_); intro w hs
    refine .z zg (.nil ?_)
    refine .seq (.draw mix rfl hs ?_); intro w hs
    refine .ys 0 rfl hs [_, _] Tryz.isAgg39 Tryz.sizeOf39 ?_; refine .ys 1 rfl hs [_] Tryz.isAgg42 Tryz.sizeOf42 ?_; refine .z 2 rfl zm ?_
    refine .e1 (i := 3) (by kernel_rfl) rfl rfl .none hs ?_
    refine .stores (vs := [_, _]) hs rfl rfl Tryz.sizeOf39 ?_; intro w hs
    refine .go ?_
    refine .e1 (i := 4) (by kernel_rfl) rfl rfl .none hs ?_
    refine .stores (vs := [_]) hs rfl rfl Tryz.sizeOf42 ?_; intro w hs
    refine .go ?_
    refine .z 5 rfl zg ?_; refine .done (by kernel_rfl) hs ?_
    refine .ret ?_
    exact Fin.retD [] [] hs fun w hs => ⟨_, results3 Tryz.results21 (rcells (vs := [_, _]) hs rfl Tryz.isAgg39 Tryz.sizeOf39) (rcells (vs := [_]) hs rfl Tryz.isAgg42 Tryz.sizeOf42) rfl, H2, _, _, _, A, B, _, 0, hle01.trans hle2, rfl, hA.mono hle2, hB.mono hle2, hO, .inr ⟨hC0, rfl, hF, rfl⟩, hs.out⟩
end Go.Proofs.YtiiokdeehlfeeaaGreat

namespace Go.Proofs.YtiiokdeehlfeeaaGreat
open Go.MW
theorem ref09_Values_spec {H : Heap} {w : World} {σ : List Ent} {v : Value} {a : Quest} {p : Prb} (hs : St H w σ) (hr : RAsk H v a) :
    Cl Tryz.prog 24 [v, .agg p.c.toArray] w fun u w' => ∃ H1 lo hi e, HLe H H1 ∧ u = .tuple #[.agg #[I lo, I hi], I e] ∧ ValR a p lo hi e ∧ St H1 w' σ := by
  obtain ⟨ul, uw, rfl, hl, hw⟩ := hr
  refine Cl.of Tryz.func24 rfl Tryz.ntmps24 (by simp) (args_cons (k := 0) rfl (args_cons (k := 1) rfl (args0))) ?_
  refine .regSeq ?_
  refine .o (.box hs rfl rfl ?_); intro b2 w hs
  refine .o (.box hs rfl rfl ?_); intro b3 w hs
  refine .o (.alloc hs Tryz.zeroValue50 rfl ?_); intro b4 w hs
  refine .z zg (.nil (.regSeq (.y hs (zls [_, _, _, _] Tryz.isAgg27 Tryz.sizeOf27) (.y hs (zls [_, _] Tryz.isAgg54 Tryz.sizeOf54) ?_))))
  refine .o (.buildSlice (cells := [_, _]) hs bls_sl_api_Probe_1 rfl rfl ?_); intro b12 w hs
  obtain ⟨H0, hle0, hRP, hs⟩ := OwnS.publish (m := 2) (v := .slice (some ⟨b12, 0, none⟩) 1 1) (cs := [p.c]) (.full (len := 1) rfl) (fun c hc => by simp only [List.mem_singleton] at hc; subst hc; rfl) (by omega) (by simp) hs .here
  refine .o (.call Tryz.call60 rfl (ref09_CheckProbes_spec (a := a) (l := [p]) hs ⟨_, _, rfl, hl.mono hle0, hw.mono hle0⟩ hRP) ?_); rintro _ w ⟨H1, e, hle1, rfl, hC, hs⟩
  have hle01 := hle0.trans hle1
  refine .z zg (.nil (.seq (.regSeq (.z zm (.z zneq (.nil ?_))))))
  refine (.condN rfl (fun hc15 => ?_) (fun hc15 => ?_))
  · refine .regSeq (.z (zbd [_, _] bld_api_Range) (.z zm ?_))
    refine .o (.stores (vs := [_, _]) hs rfl rfl Tryz.sizeOf50 ?_); intro w hs
    refine .z zg (.nil ?_)
    refine .ret (rT (?_))
    exact Fin.retD [] [] hs fun w hs => ⟨_, results2 Tryz.results24 (rcells (vs := [_, _]) hs rfl Tryz.isAgg50 Tryz.sizeOf50) rfl, H1, 0, 0, e, hle01, rfl, .inl ⟨hC, hc15, rfl, rfl⟩, hs.out⟩
  · refine .skip ?_
    refine nT ?_
    refine .cut (fun fs w => ∃ lo hi H3, HLe H1 H3 ∧ CPrbR a [p] 0 ∧ PrbIn a p ∧ RangeR a.sys (oneW a.sys.many p.u) lo hi 0 ∧ FSub fs ⟨40, [], [(7, I lo), (8, I hi), (3, .pointer (some ⟨b3, 0, none⟩)), (4, .pointer (some ⟨b4, 0, none⟩))]⟩ ∧ St H3 w (.blk b4 [I 0, I 0] :: .blk b3 p.c :: σ)) ?_ ?_
    · refine .draw mix rfl hs ?_; intro w hs
      refine .z 0 rfl (zfa fa_api_Ask_0) ?_; refine .ys 1 rfl hs [_, _] Tryz.isAgg24 Tryz.sizeOf24 ?_; refine .z 2 rfl (zfa fa_api_Ask_0) ?_; refine .z 3 rfl (zfa fa_api_System_0) ?_; refine .y 4 rfl hs Tryz.isAgg3 ?_; refine .z 5 rfl (zfa fa_api_Probe_0) ?_; refine .y 6 rfl hs Tryz.isAgg3 ?_
      refine .e1 (i := 7) (by kernel_rfl) rfl rfl .none hs ?_
      rw [hc15] at hC
      obtain ⟨hok, hlen, hin⟩ := hC.zero
      obtain ⟨⟨u1, u2⟩, ⟨t1, t2⟩, l0, h0, hR0, _⟩ := hin p (by simp)
      have hm1 := hok.many
      refine .call Tryz.call76 rfl (ref09_unit_spec (many := a.sys.many) (u := p.u) hs (by omega) (by omega)) ?_; rintro v26 w ⟨H2, hle2, hR1, hs⟩
      obtain ⟨a26, c26, rfl⟩ := RI.shape hR1
      refine .go ?_
      refine .e1 (i := 8) (by kernel_rfl) rfl rfl .none hs ?_
      refine .call Tryz.call75 rfl (ref02_Range_spec (s := a.sys) hs ⟨_, rfl, hl.mono (hle01.trans hle2)⟩ hR1) ?_; rintro _ w ⟨H3, lo, hi, e3, hle3, rfl, hR, hs⟩
      obtain ⟨rfl, rfl, rfl⟩ := hR.uniq hR0
      refine .go ?_
      refine .z 9 rfl zm ?_; refine .z 10 rfl zex ?_; refine .z 11 rfl zex ?_; refine .z 12 rfl zex ?_; refine .z 13 rfl zg ?_; refine .z 14 rfl zg ?_; refine .z 15 rfl zg ?_; refine .done (by kernel_rfl) hs ?_
      exact nT ⟨lo, hi, H3, hle2.trans hle3, hC, ⟨⟨u1, u2⟩, t1, t2⟩, hR0, by repeat (first | exact .nil rfl rfl | refine .cons rfl ?_), hs.sub (by repeat (first | exact Sub.refl _ | constructor | apply Sub.weaken))⟩
    · rintro fs w ⟨lo, hi, H3, hle3, hC0, ⟨⟨u1, u2⟩, t1, t2⟩, hR, hfs, hs⟩
      refine WE.sub ?_ hfs
      have hbd := hR.bd
      refine .regSeq (.z zm (.z (zfa fa_api_Probe_1) (.y hs (zld Tryz.isAgg3) (.z zsub (.z zm (.z (zfa fa_api_Probe_1) (.y hs (zld Tryz.isAgg3) (.z zadd (.z (zbd [_, _] bld_api_Range) ?_)))))))))
      refine .o (.stores (vs := [_, _]) hs rfl rfl Tryz.sizeOf50 ?_); intro w hs
      refine .z zg (.nil ?_)
      refine .ret ?_
      exact Fin.retD [] [] hs fun w hs => ⟨_, results2 Tryz.results24 (rcells (vs := [_, _]) hs rfl Tryz.isAgg50 Tryz.sizeOf50) rfl, H3, _, _, 0, hle01.trans hle3, rfl, .inr ⟨hC0, rfl, lo, hi, hR, rfl, rfl⟩, hs.out⟩
set_option maxHeartbeats 4000000 in
theorem ref09_told_spec {H : Heap} {w : World} {σ : List Ent} {ul vl vv : Value} {a : Quest} {l : List Prb} {vs : List Int} (hs : St H w σ) (hl : RL H ul a.sys.lims) (hp : RPs H vl l) (hvs : RI H vv vs) (hok : AskOk a) (hlen : l.length ≤ 8) (hin : ∀ p ∈ l, PrbIn a p) (hvl : vs.length = l.length) :
    Cl Tryz.prog 82 [.agg #[I a.sys.many, ul], vl, vv] w fun u w' => ∃ H1 vq S b, HLe H H1 ∧ u = .tuple #[.agg #[I S.many, vq], .bool b] ∧ RL H1 vq S.lims ∧ (b = true ↔ NearV l vs) ∧ (b = true → S = behS a l vs) ∧ St H1 w' σ := by
  obtain ⟨al, cl, rfl⟩ := RL.shape hl
  obtain ⟨ap, cp, rfl⟩ := RPs.shape hp
  obtain ⟨av, cv, rfl⟩ := RI.shape hvs
  have hll := hok.lims
  have hpub : ∀ {k : Nat} {vq : Value} {en : Ent} {w : World} {τ r : List Ent}, k ≤ l.length → OwnS 4 vq (Lims (a.sys.lims ++ tellTo l vs k)) en → St H w τ → Pick τ en r → ∃ H', HLe H H' ∧ RL H' vq (a.sys.lims ++ tellTo l vs k) ∧ St H' w r := fun {k} {vq} {en} {w} {τ} {r} hk ho hs hpk =>
    OwnS.publish (m := 4) (cs := (a.sys.lims ++ tellTo l vs k).map Lim.c) ho (fun c hc => by simp only [List.mem_map] at hc; obtain ⟨x, _, rfl⟩ := hc; rfl) (by omega) (by simp [tellTo_length]; omega) hs hpk
  refine Cl.of Tryz.func82 rfl Tryz.ntmps82 (by simp) (args_cons (k := 0) rfl (args_cons (k := 1) rfl (args_cons (k := 2) rfl (args0)))) ?_
  refine .regSeq ?_
  refine .o (.box hs rfl rfl ?_); intro b3 w hs
  refine .o (.alloc hs Tryz.zeroValue24 rfl ?_); intro b6 w hs
  refine .z zg (.nil ?_)
  refine .cut (fun fs w => ∃ b8 vq en, FSub fs ⟨79, [], [(8, .pointer (some ⟨b8, 0, none⟩)), (7, .bool false), (6, .pointer (some ⟨b6, 0, none⟩)), (1, .slice ap l.length cp), (2, .slice av vs.length cv)]⟩ ∧ OwnS 4 vq (Lims a.sys.lims) en ∧ St H w (.blk b8 [I a.sys.many, vq] :: en :: .blk b6 [I 0, .slice none 0 0] :: σ)) ?_ ?_
  · refine .draw mix rfl hs ?_; intro w hs
    refine .z 0 rfl (zfa fa_api_System_0) ?_; refine .y 1 rfl hs Tryz.isAgg3 ?_; refine .z 3 rfl (zfa fa_api_System_1) ?_; refine .y 4 rfl hs Tryz.isAgg22 ?_
    refine .e2 (i := 2) (j := 7) (by kernel_rfl) rfl rfl rfl rfl .none .none hs ?_ ?_
    · refine .buildSlice (cells := []) hs bls_sl_api_Limit_0 rfl rfl ?_; intro b14 w hs
      refine .go ?_
      refine .e2 (i := 5) (j := 7) (by kernel_rfl) rfl rfl rfl rfl .none .none hs ?_ ?_
      · refine .append (xs := []) (ys := Lims a.sys.lims) hs app_sl_api_Limit_api_Limit rfl rfl (.full (len := 0) rfl) (.rs hl) (Lims_cell _) (fun l' h => by simp at h; rw [List.length_map]; omega) ?_; intro v17 en17 w hO hs
        rw [List.nil_append] at hO
        obtain ⟨a17, l17, c17, rfl, h17⟩ := hO.shape
        refine .go ?_
        refine .z 6 rfl (zbd [_, _] bld_api_System) ?_
        refine .e1 (i := 7) (by kernel_rfl) rfl rfl .none hs ?_
        refine .alloc hs Tryz.zeroValue24 rfl ?_; intro b8 w hs
        refine .go ?_
        refine .e1 (i := 8) (by kernel_rfl) rfl rfl .none hs ?_
        refine .stores (vs := [_, _]) hs rfl rfl Tryz.sizeOf24 ?_; intro w hs
        refine .go ?_
        refine .done (by kernel_rfl) hs ?_
        exact nT ⟨_, _, _, by repeat (first | exact .nil rfl rfl | refine .cons rfl ?_), hO, hs.sub (by repeat (first | exact Sub.refl _ | constructor | apply Sub.weaken))⟩
      · refine .alloc hs Tryz.zeroValue24 rfl ?_; intro b8 w hs
        refine .go ?_
        refine .e1 (i := 5) (by kernel_rfl) rfl rfl .none hs ?_
        refine .append (xs := []) (ys := Lims a.sys.lims) hs app_sl_api_Limit_api_Limit rfl rfl (.full (len := 0) rfl) (.rs hl) (Lims_cell _) (fun l' h => by simp at h; rw [List.length_map]; omega) ?_; intro v17 en17 w hO hs
        rw [List.nil_append] at hO
        obtain ⟨a17, l17, c17, rfl, h17⟩ := hO.shape
        refine .go ?_
        refine .z 6 rfl (zbd [_, _] bld_api_System) ?_
        refine .e1 (i := 8) (by kernel_rfl) rfl rfl .none hs ?_
        refine .stores (vs := [_, _]) hs rfl rfl Tryz.sizeOf24 ?_; intro w hs
        refine .go ?_
        refine .done (by kernel_rfl) hs ?_
        exact nT ⟨_, _, _, by repeat (first | exact .nil rfl rfl | refine .cons rfl ?_), hO, hs.sub (by repeat (first | exact Sub.refl _ | constructor | apply Sub.weaken))⟩
    · refine .alloc hs Tryz.zeroValue24 rfl ?_; intro b8 w hs
      refine .go ?_
      refine .e1 (i := 2) (by kernel_rfl) rfl rfl .none hs ?_
      refine .buildSlice (cells := []) hs bls_sl_api_Limit_0 rfl rfl ?_; intro b14 w hs
      refine .go ?_
      refine .e1 (i := 5) (by kernel_rfl) rfl rfl .none hs ?_
      refine .append (xs := []) (ys := Lims a.sys.lims) hs app_sl_api_Limit_api_Limit rfl rfl (.full (len := 0) rfl) (.rs hl) (Lims_cell _) (fun l' h => by simp at h; rw [List.length_map]; omega) ?_; intro v17 en17 w hO hs
      rw [List.nil_append] at hO
      obtain ⟨a17, l17, c17, rfl, h17⟩ := hO.shape
      refine .go ?_
      refine .z 6 rfl (zbd [_, _] bld_api_System) ?_
      refine .e1 (i := 8) (by kernel_rfl) rfl rfl .none hs ?_
      refine .stores (vs := [_, _]) hs rfl rfl Tryz.sizeOf24 ?_; intro w hs
      refine .go ?_
      refine .done (by kernel_rfl) hs ?_
      exact nT ⟨_, _, _, by repeat (first | exact .nil rfl rfl | refine .cons rfl ?_), hO, hs.sub (by repeat (first | exact Sub.refl _ | constructor | apply Sub.weaken))⟩
  · rintro fs w ⟨b8, vq0, en0, hfs, hO0, hs⟩
    refine WE.sub ?_ hfs
    refine .seq (.regSeq (.z zg (.nil (.block ?_))))
    refine .loop (fun p : Nat => ⟨79, [], [(9, I (p : Int)), (8, .pointer (some ⟨b8, 0, none⟩)), (6, .pointer (some ⟨b6, 0, none⟩)), (1, .slice ap l.length cp), (2, .slice av vs.length cv)]⟩)
      (fun p w => p ≤ l.length ∧ (∀ i < p, -20000 - (getP l i).t ≤ gi vs i ∧ gi vs i ≤ 20000 + (getP l i).t) ∧ ∃ vq en, OwnS 4 vq (Lims (a.sys.lims ++ tellTo l vs p)) en ∧ St H w (.blk b8 [I a.sys.many, vq] :: en :: .blk b6 [I 0, .slice none 0 0] :: σ))
      (fun p => l.length - p) 0 (by repeat (first | exact .nil rfl rfl | refine .cons rfl ?_))
      ⟨by omega, fun i hi => by omega, vq0, en0, by simpa [tellTo] using hO0, hs⟩ ?_
    rintro k w ⟨hk, hnear, vq, en, hO, hs⟩
    obtain ⟨avq, lvq, cvq, rfl, hlvq⟩ := hO.shape
    refine .seq (.regSeq (.z zm (.z zm (.z (zlen Tryz.runUnderlying28) (.z zlss (.nil ?_))))))
    refine (.condD rfl (fun hc22 => ?_) (fun hc22 => ?_))
    · refine .skip ?_
      refine nT ?_
      refine .seq (.block (.regSeq ?_))
      have hk' : k < l.length := by omega
      have hx := getP_get hk'
      obtain ⟨⟨u1, u2⟩, t1, t2⟩ := hin _ (getP_mem hk')
      have hgv := gi_get (l := vs) (i := k) (by omega)
      refine .z zm (.z zm ?_)
      refine .ixX (enc := Prb.c) hs hp rfl rfl Tryz.runUnderlying28 Tryz.sizeOf54 hx rfl ?_; intro b27 o27 hc27
      refine .z (zfa fa_api_Probe_0) ?_
      refine .q hs (q_loadR rfl Tryz.isAgg3 (hc27.get 0 rfl)) ?_
      refine .z zg (.nil (.regSeq (.z zm (.z zm ?_))))
      refine .ixX (enc := Prb.c) hs hp rfl rfl Tryz.runUnderlying28 Tryz.sizeOf54 hx rfl ?_; intro b32 o32 hc32
      refine .z (zfa fa_api_Probe_1) ?_
      refine .q hs (q_loadR rfl Tryz.isAgg3 (hc32.get 1 rfl)) ?_
      refine .z zg (.nil (.seq (.regSeq (.z zm (.z zm ?_)))))
      refine .ixX (enc := fun x => [I x]) hs hvs rfl rfl Tryz.runUnderlying25 Tryz.sizeOf3 hgv rfl ?_; intro b37 o37 hc37; replace hc37 := CellsAt.one hc37
      refine .y hs (zld Tryz.isAgg3) (.z zm (.z zsub (.z zm (.z zadd ?_))))
      refine .o (.call Tryz.call55 rfl (ref09_in_spec hs) ?_); rintro _ w ⟨rfl, hs⟩
      refine .z znot (.nil ?_)
      refine (.cond rfl (fun hc44 => ?_) (fun hc44 => ?_))
      · refine .regSeq (.y hs (zls [_, _] Tryz.isAgg24 Tryz.sizeOf24) ?_)
        refine .o (.stores (vs := [_, _]) hs rfl rfl Tryz.sizeOf24 ?_); intro w hs
        refine .z zg (.nil ?_)
        refine .ret (rT (rB (rT (rT (rB (rT (?_)))))))
        obtain ⟨H1, hle1, hRL, hs⟩ := hpub (k := k) (by omega) hO hs (by repeat constructor)
        exact Fin.retD [] [] hs fun w hs => ⟨_, results2 Tryz.results82 (rcells (vs := [_, _]) hs rfl Tryz.isAgg24 Tryz.sizeOf24) rfl, H1, _, ⟨a.sys.many, a.sys.lims ++ tellTo l vs k⟩, false, hle1, rfl, hRL, ⟨fun h => (by cases h), fun h => by
          have h9 := h k hk'
          have h8 := hc44
          rw [decide_eq_true h9] at h8
          simp at h8⟩, fun h => (by cases h), hs.out⟩
      · refine .skip ?_
        refine nT ?_
        refine .seq (.draw mix rfl hs ?_); intro w hs
        have hv : -20000 - (getP l k).t ≤ gi vs k ∧ gi vs k ≤ 20000 + (getP l k).t := by simpa using hc44
        refine .z 0 rfl (zfa fa_api_System_1) ?_; refine .y 1 rfl hs Tryz.isAgg22 ?_; refine .z 2 rfl zm ?_; refine .z 3 rfl zm ?_; refine .z 4 rfl zm ?_
        refine .ixX (enc := fun x => [I x]) (i := 5) hs rfl (by kernel_rfl) .none hvs rfl rfl Tryz.runUnderlying25 Tryz.sizeOf3 hgv rfl ?_; intro b51 o51 hc51; replace hc51 := CellsAt.one hc51
        refine .r (i := 6) hs rfl (by kernel_rfl) .none (q_loadR rfl Tryz.isAgg3 hc51) ?_
        refine .z 7 rfl zm ?_; refine .z 8 rfl zadd ?_; refine .z 9 rfl zmin ?_; refine .z 10 rfl zm ?_; refine .z 11 rfl zadd ?_; refine .z 12 rfl (zbd [_, _, _, _] bld_api_Limit) ?_
        refine .e1 (i := 13) (by kernel_rfl) rfl rfl .none hs ?_
        refine .buildSlice (cells := Lims [⟨0, (getP l k).u, min (gi vs k + (getP l k).t) 20000, 90001 + k⟩]) hs bls_sl_api_Limit_1 rfl (by kernel_rfl) ?_; intro b59 w hs
        refine .go ?_
        refine .e1 (i := 14) (by kernel_rfl) rfl rfl .none hs ?_
        refine .append (ys := Lims [⟨0, (getP l k).u, min (gi vs k + (getP l k).t) 20000, 90001 + k⟩]) hs app_sl_api_Limit_api_Limit rfl rfl hO (.own .here rfl rfl) (Lims_cell _) (fun l' h => by rw [Lims_length] at h; simp [tellTo_length] at h; omega) ?_; intro v60 en60 w hO2 hs
        obtain ⟨a60, l60, c60, rfl, h60⟩ := hO2.shape
        refine .go ?_
        refine .z 15 rfl (zfa fa_api_System_1) ?_
        refine .e1 (i := 16) (by kernel_rfl) rfl rfl .none hs ?_
        refine .store hs rfl rfl Tryz.sizeOf22 ?_; intro w hs
        refine .go ?_
        refine .done (by kernel_rfl) hs ?_
        refine .draw mix rfl hs ?_; intro w hs
        refine .z 0 rfl (zfa fa_api_System_1) ?_; refine .y 1 rfl hs Tryz.isAgg22 ?_; refine .z 2 rfl zm ?_; refine .z 3 rfl zm ?_; refine .z 4 rfl zm ?_; refine .z 5 rfl zm ?_
        refine .ixX (enc := fun x => [I x]) (i := 6) hs rfl (by kernel_rfl) .none hvs rfl rfl Tryz.runUnderlying25 Tryz.sizeOf3 hgv rfl ?_; intro b68 o68 hc68; replace hc68 := CellsAt.one hc68
        refine .r (i := 7) hs rfl (by kernel_rfl) .none (q_loadR rfl Tryz.isAgg3 hc68) ?_
        refine .z 8 rfl zsub ?_; refine .z 9 rfl zmin ?_; refine .z 10 rfl zm ?_; refine .z 11 rfl zadd ?_; refine .z 12 rfl (zbd [_, _, _, _] bld_api_Limit) ?_
        refine .e1 (i := 13) (by kernel_rfl) rfl rfl .none hs ?_
        refine .buildSlice (cells := Lims [⟨(getP l k).u, 0, min ((getP l k).t - gi vs k) 20000, 90001 + k⟩]) hs bls_sl_api_Limit_1 rfl (by kernel_rfl) ?_; intro b75 w hs
        refine .go ?_
        refine .e1 (i := 14) (by kernel_rfl) rfl rfl .none hs ?_
        rw [← Lims_append] at hO2
        refine .append (ys := Lims [⟨(getP l k).u, 0, min ((getP l k).t - gi vs k) 20000, 90001 + k⟩]) hs app_sl_api_Limit_api_Limit rfl rfl hO2 (.own .here rfl rfl) (Lims_cell _) (fun l' h => by rw [Lims_length] at h; simp [tellTo_length] at h; omega) ?_; intro v76 en76 w hO3 hs
        obtain ⟨a76, l76, c76, rfl, h76⟩ := hO3.shape
        refine .go ?_
        refine .z 15 rfl (zfa fa_api_System_1) ?_
        refine .e1 (i := 16) (by kernel_rfl) rfl rfl .none hs ?_
        refine .store hs rfl rfl Tryz.sizeOf22 ?_; intro w hs
        refine .go ?_
        refine .done (by kernel_rfl) hs ?_
        refine nB (nT ?_)
        refine .region (.z zm (.z zadd (.z zg (.nil ?_))))
        refine nT ?_
        rw [← Lims_append, List.append_assoc, List.append_assoc] at hO3
        exact ⟨k + 1, .consI rfl (by push_cast; omega) (by repeat (first | exact .nil rfl rfl | refine .cons rfl ?_)), ⟨by omega, fun i hi => by
          by_cases e : i = k
          · subst e; exact hv
          · exact hnear i (by omega), _, _, hO3, hs.sub (by repeat (first | exact Sub.refl _ | constructor | apply Sub.weaken))⟩, by omega⟩
    · refine .exit ?_
      refine xT (xT (xB (nT ?_)))
      refine .regSeq (.y hs (zls [_, _] Tryz.isAgg24 Tryz.sizeOf24) ?_)
      refine .o (.stores (vs := [_, _]) hs rfl rfl Tryz.sizeOf24 ?_); intro w hs
      refine .z zg (.nil ?_)
      refine .ret ?_
      obtain rfl : k = l.length := by omega
      obtain ⟨H1, hle1, hRL, hs⟩ := hpub (k := l.length) (by omega) hO hs (by repeat constructor)
      exact Fin.retD [] [] hs fun w hs => ⟨_, results2 Tryz.results82 (rcells (vs := [_, _]) hs rfl Tryz.isAgg24 Tryz.sizeOf24) rfl, H1, _, behS a l vs, true, hle1, rfl, hRL, ⟨fun _ => hnear, fun _ => rfl⟩, fun _ => rfl, hs.out⟩
theorem ref09_possible_spec {H : Heap} {w : World} {σ : List Ent} {v vl vv : Value} {a : Quest} {l : List Prb} {vs : List Int} (hs : St H w σ) (hr : RAsk H v a) (hp : RPs H vl l) (hvs : RI H vv vs) (hok : AskOk a) (hlen : l.length ≤ 8) (hin : ∀ p ∈ l, PrbOk a p) (hvl : vs.length = l.length) :
    Cl Tryz.prog 80 [v, vl, vv] w fun u w' => ∃ H1 b, HLe H H1 ∧ u = .bool b ∧ (b = true ↔ (behS a l vs).Sound) ∧ St H1 w' σ := by
  obtain ⟨ul, uw, rfl, hl, hw⟩ := hr
  obtain ⟨al, cl, rfl⟩ := RL.shape hl
  refine Cl.of Tryz.func80 rfl Tryz.ntmps80 (by simp) (args_cons (k := 0) rfl (args_cons (k := 1) rfl (args_cons (k := 2) rfl (args0)))) ?_
  refine .regSeq ?_
  refine .o (.box hs rfl rfl ?_); intro b3 w hs
  refine .z zg (.nil (.regSeq (.z (zfa fa_api_Ask_0) (.y hs (zls [_, _] Tryz.isAgg24 Tryz.sizeOf24) (.z zm (.z zm ?_))))))
  refine .o (.call Tryz.call82 rfl (ref09_told_spec (a := a) (l := l) (vs := vs) hs hl hp hvs hok hlen (fun p h => (hin p h).inn) hvl) ?_); rintro _ w ⟨H1, vq, S, b, hle1, rfl, hRS, hb, hbS, hs⟩
  obtain ⟨aq, cq, rfl⟩ := RL.shape hRS
  refine .z zm (.z zex (.z zex ?_))
  refine .o (.alloc hs Tryz.zeroValue24 rfl ?_); intro b7 w hs
  refine .o (.stores (vs := [_, _]) hs rfl rfl Tryz.sizeOf24 ?_); intro w hs
  refine .z zg (.nil (.seq (.regSeq (.z zm (.z znot (.nil ?_))))))
  refine (.cond rfl (fun hc18 => ?_) (fun hc18 => ?_))
  · refine .regSeq (.z zg (.nil ?_))
    refine .ret (rT (Fin.ret1 Tryz.results80 rfl ?_))
    exact ⟨H1, false, hle1, rfl, ⟨fun h => (by cases h), fun h => by
      have := hb.2 (beh_near hin h)
      subst this
      simp at hc18⟩, hs.out⟩
  · refine .skip ?_
    refine nT ?_
    refine .regSeq (.y hs (zls [_, _] Tryz.isAgg24 Tryz.sizeOf24) ?_)
    have hbt : b = true := by simpa using hc18
    obtain rfl := hbS hbt
    have hbo := behS_ok hok hlen (fun p h => (hin p h).inn) (hb.1 hbt)
    refine .o (.call Tryz.call126 rfl (ref02_Ways_spec (s := behS a l vs) hs ⟨_, rfl, hRS⟩ hbo) ?_); rintro v20 w ⟨H2, rs, hle2, hRT, hSq, hWT, hs⟩
    obtain ⟨at', ct, rfl⟩ := hRT.shape
    refine .o (.call Tryz.call154 rfl (ref02_Sound_spec hs hRT hSq (by have := hbo.n65; omega)) ?_); rintro _ w ⟨b21, rfl, hb21, hs⟩
    have hbs := hb21.trans (sound_diag hbo hWT).symm
    refine .z zg (.nil ?_)
    refine .ret (Fin.ret1 Tryz.results80 rfl ?_)
    exact ⟨H2, b21, hle1.trans hle2, rfl, hbs, hs.out⟩
theorem ref09_checkOutcome_spec {H : Heap} {w : World} {σ : List Ent} {v vl vo : Value} {a : Quest} {l : List Prb} {vs : List Int} (hs : St H w σ) (hr : RAsk H v a) (hp : RPs H vl l) (ho : ROut H vo vs) :
    Cl Tryz.prog 79 [v, vl, vo] w fun u w' => ∃ H1 e, HLe H H1 ∧ u = I e ∧ COutR a l vs e ∧ St H1 w' σ := by
  obtain ⟨ul, uw, rfl, hl, hw⟩ := hr
  obtain ⟨ap, cp, rfl⟩ := RPs.shape hp
  obtain ⟨uo, rfl, hvs⟩ := ho
  obtain ⟨ao, co, rfl⟩ := RI.shape hvs
  refine Cl.of Tryz.func79 rfl Tryz.ntmps79 (by simp) (args_cons (k := 0) rfl (args_cons (k := 1) rfl (args_cons (k := 2) rfl (args0)))) ?_
  refine .regSeq ?_
  refine .o (.box hs rfl rfl ?_); intro b3 w hs
  refine .o (.box hs rfl rfl ?_); intro b5 w hs
  refine .z zg (.nil (.regSeq (.y hs (zls [_, _, _, _] Tryz.isAgg27 Tryz.sizeOf27) (.z zm ?_))))
  refine .o (.call Tryz.call60 rfl (ref09_CheckProbes_spec (a := a) hs ⟨_, _, rfl, hl, hw⟩ hp) ?_); rintro _ w ⟨H1, e, hle1, rfl, hC, hs⟩
  refine .z zg (.nil (.seq (.regSeq (.z zm (.z zneq (.nil ?_))))))
  refine (.condN rfl (fun hc12 => ?_) (fun hc12 => ?_))
  · refine .regSeq (.z zm (.z zg (.nil ?_)))
    refine .ret (rT (Fin.ret1 Tryz.results79 rfl ?_))
    exact ⟨H1, e, hle1, rfl, .ask hC hc12, hs.out⟩
  · refine .skip ?_
    refine nT ?_
    refine .seq (.regSeq (.z (zfa fa_api_Outcome_0) (.y hs (zld Tryz.isAgg25) (.z (zlen Tryz.runUnderlying25) (.z zm (.z (zlen Tryz.runUnderlying28) (.z zneq (.nil ?_))))))))
    refine (.condN rfl (fun hc19 => ?_) (fun hc19 => ?_))
    · refine .regSeq (.z zg (.nil ?_))
      refine .ret (rT (Fin.ret1 Tryz.results79 rfl ?_))
      exact ⟨H1, 92, hle1, rfl, .size (by rw [hc12] at hC; exact hC) (by omega), hs.out⟩
    · refine .skip ?_
      refine nT ?_
      refine .regSeq (.z zg (.nil ?_))
      refine .ret (Fin.ret1 Tryz.results79 rfl ?_)
      exact ⟨H1, 0, hle1, rfl, .ok (by rw [hc12] at hC; exact hC) (by omega), hs.out⟩
theorem ref09_Possible_spec {H : Heap} {w : World} {σ : List Ent} {v vl vo : Value} {a : Quest} {l : List Prb} {vs : List Int} (hs : St H w σ) (hr : RAsk H v a) (hp : RPs H vl l) (ho : ROut H vo vs) :
    Cl Tryz.prog 26 [v, vl, vo] w fun u w' => ∃ H1 b e, HLe H H1 ∧ u = .tuple #[.bool b, I e] ∧ PossR a l vs b e ∧ St H1 w' σ := by
  obtain ⟨ul, uw, rfl, hl, hw⟩ := hr
  obtain ⟨ap, cp, rfl⟩ := RPs.shape hp
  obtain ⟨uo, rfl, hvs⟩ := ho
  obtain ⟨ao, co, rfl⟩ := RI.shape hvs
  refine Cl.of Tryz.func26 rfl Tryz.ntmps26 (by simp) (args_cons (k := 0) rfl (args_cons (k := 1) rfl (args_cons (k := 2) rfl (args0)))) ?_
  refine .regSeq ?_
  refine .o (.box hs rfl rfl ?_); intro b3 w hs
  refine .o (.box hs rfl rfl ?_); intro b5 w hs
  refine .z zg (.z zg (.nil (.regSeq (.y hs (zls [_, _, _, _] Tryz.isAgg27 Tryz.sizeOf27) (.z zm (.y hs (zls [_] Tryz.isAgg42 Tryz.sizeOf42) ?_))))))
  refine .o (.call Tryz.call79 rfl (ref09_checkOutcome_spec (a := a) (l := l) (vs := vs) hs ⟨_, _, rfl, hl, hw⟩ hp ⟨_, rfl, hvs⟩) ?_); rintro _ w ⟨H1, e, hle1, rfl, hC, hs⟩
  refine .z zg (.nil (.seq (.regSeq (.z zm (.z zneq (.nil ?_))))))
  refine (.condN rfl (fun hc14 => ?_) (fun hc14 => ?_))
  · refine .regSeq (.z zm (.z zg (.z zg (.nil ?_))))
    refine .ret (rT (Fin.ret2 Tryz.results26 rfl rfl ?_))
    exact ⟨H1, false, e, hle1, rfl, .bad hC hc14, hs.out⟩
  · refine .skip ?_
    refine nT ?_
    refine .regSeq (.y hs (zls [_, _, _, _] Tryz.isAgg27 Tryz.sizeOf27) (.z zm (.z (zfa fa_api_Outcome_0) (.y hs (zld Tryz.isAgg25) ?_))))
    rw [hc14] at hC
    obtain ⟨hC0, hvl⟩ := hC.zero
    obtain ⟨hok, hlen, hin⟩ := hC0.zero
    refine .o (.call Tryz.call80 rfl (ref09_possible_spec (a := a) (l := l) (vs := vs) hs ⟨_, _, rfl, hl.mono hle1, hw.mono hle1⟩ (hp.mono hle1) (hvs.mono hle1) hok hlen hin hvl) ?_); rintro _ w ⟨H2, b, hle2, rfl, hb, hs⟩
    refine .z zg (.z zg (.nil ?_))
    refine .ret (Fin.ret2 Tryz.results26 rfl rfl ?_)
    exact ⟨H2, b, 0, hle1.trans hle2, rfl, .ok hC hb, hs.out⟩
set_option maxHeartbeats 4000000 in
theorem ref09_After_spec {H : Heap} {w : World} {σ : List Ent} {v vl vo : Value} {a : Quest} {l : List Prb} {vs : List Int} (hs : St H w σ) (hr : RAsk H v a) (hp : RPs H vl l) (ho : ROut H vo vs) :
    Cl Tryz.prog 28 [v, vl, vo] w fun u w' => ∃ H1 va q e, HLe H H1 ∧ u = .tuple #[va, I e] ∧ RAsk H1 va q ∧ AfterR a l vs q e ∧ St H1 w' σ := by
  obtain ⟨ul, uw, rfl, hl, hw⟩ := hr
  obtain ⟨aw, cw, rfl⟩ := RI.shape hw
  obtain ⟨al, cl, rfl⟩ := RL.shape hl
  obtain ⟨ap, cp, rfl⟩ := RPs.shape hp
  obtain ⟨uo, rfl, hvs⟩ := ho
  obtain ⟨ao, co, rfl⟩ := RI.shape hvs
  refine Cl.of Tryz.func28 rfl Tryz.ntmps28 (by simp) (args_cons (k := 0) rfl (args_cons (k := 1) rfl (args_cons (k := 2) rfl (args0)))) ?_
  refine .regSeq ?_
  refine .o (.box hs rfl rfl ?_); intro b3 w hs
  refine .o (.box hs rfl rfl ?_); intro b5 w hs
  refine .o (.alloc hs Tryz.zeroValue27 rfl ?_); intro b6 w hs
  refine .z zg (.nil (.regSeq (.y hs (zls [_, _, _, _] Tryz.isAgg27 Tryz.sizeOf27) (.z zm (.y hs (zls [_] Tryz.isAgg42 Tryz.sizeOf42) ?_)))))
  refine .o (.call Tryz.call79 rfl (ref09_checkOutcome_spec (a := a) (l := l) (vs := vs) hs ⟨_, _, rfl, hl, hw⟩ hp ⟨_, rfl, hvs⟩) ?_); rintro _ w ⟨H1, e, hle1, rfl, hC, hs⟩
  refine .z zg (.nil (.seq (.regSeq (.z zm (.z zneq (.nil ?_))))))
  refine (.condN rfl (fun hc16 => ?_) (fun hc16 => ?_))
  · refine .regSeq (.z (zbd [_, _, _, _] bld_api_Ask) (.z zm ?_))
    refine .o (.stores (vs := [_, _, _, _]) hs rfl rfl Tryz.sizeOf27 ?_); intro w hs
    refine .z zg (.nil ?_)
    refine .ret (rT (?_))
    exact Fin.retD [] [] hs fun w hs => ⟨_, results2 Tryz.results28 (rcells (vs := [_, _, _, _]) hs rfl Tryz.isAgg27 Tryz.sizeOf27) rfl, H1, _, ⟨⟨0, []⟩, [], 0⟩, e, hle1, rfl, ⟨_, _, rfl, RS.nil H1 4 none 0, RS.nil H1 1 none 0⟩, .bad hC hc16, hs.out⟩
  · refine .skip ?_
    refine nT ?_
    refine .seq (.regSeq (.y hs (zls [_, _, _, _] Tryz.isAgg27 Tryz.sizeOf27) (.z zm (.z (zfa fa_api_Outcome_0) (.y hs (zld Tryz.isAgg25) ?_)))))
    rw [hc16] at hC
    obtain ⟨hC0, hvl⟩ := hC.zero
    obtain ⟨hok, hlen, hin⟩ := hC0.zero
    have hwl := hok.wl
    have hmn := hok.many
    refine .o (.call Tryz.call80 rfl (ref09_possible_spec (a := a) (l := l) (vs := vs) hs ⟨_, _, rfl, hl.mono hle1, hw.mono hle1⟩ (hp.mono hle1) (hvs.mono hle1) hok hlen hin hvl) ?_); rintro _ w ⟨H2, b, hle2, rfl, hb, hs⟩
    have hle12 := hle1.trans hle2
    refine .z znot (.nil ?_)
    refine (.cond rfl (fun hc24 => ?_) (fun hc24 => ?_))
    · refine .regSeq (.z (zbd [_, _, _, _] bld_api_Ask) ?_)
      refine .o (.stores (vs := [_, _, _, _]) hs rfl rfl Tryz.sizeOf27 ?_); intro w hs
      refine .z zg (.nil ?_)
      refine .ret (rT (?_))
      exact Fin.retD [] [] hs fun w hs => ⟨_, results2 Tryz.results28 (rcells (vs := [_, _, _, _]) hs rfl Tryz.isAgg27 Tryz.sizeOf27) rfl, H2, _, ⟨⟨0, []⟩, [], 0⟩, 92, hle12, rfl, ⟨_, _, rfl, RS.nil H2 4 none 0, RS.nil H2 1 none 0⟩, .none hC (fun h => by simp [hb.2 h] at hc24), hs.out⟩
    · refine .skip ?_
      refine nT ?_
      refine .regSeq (.z (zfa fa_api_Ask_0) (.y hs (zls [_, _] Tryz.isAgg24 Tryz.sizeOf24) (.z zm (.z (zfa fa_api_Outcome_0) (.y hs (zld Tryz.isAgg25) ?_)))))
      have hSd : (behS a l vs).Sound := hb.1 (by simpa using hc24)
      refine .o (.call Tryz.call82 rfl (ref09_told_spec (a := a) (l := l) (vs := vs) hs (hl.mono hle12) (hp.mono hle12) (hvs.mono hle12) hok hlen (fun p h => (hin p h).inn) hvl) ?_); rintro _ w ⟨H3, vq, S, b3, hle3, rfl, hRS, hb3, hbS, hs⟩
      obtain rfl := hbS (hb3.2 (beh_near hin hSd))
      obtain ⟨aq, cq, rfl⟩ := RL.shape hRS
      have hle13 := hle12.trans hle3
      refine .z zm (.z zex (.z zex ?_))
      refine .o (.alloc hs Tryz.zeroValue24 rfl ?_); intro b9 w hs
      refine .o (.stores (vs := [_, _]) hs rfl rfl Tryz.sizeOf24 ?_); intro w hs
      refine .z zg (.nil (.seq (.regSeq (.z (zfa fa_api_System_1) (.y hs (zld Tryz.isAgg22) (.z (zlen Tryz.runUnderlying22) (.z zgtr (.nil ?_))))))))
      refine (.condD rfl (fun hc38 => ?_) (fun hc38 => ?_))
      · refine .regSeq (.z (zbd [_, _, _, _] bld_api_Ask) ?_)
        refine .o (.stores (vs := [_, _, _, _]) hs rfl rfl Tryz.sizeOf27 ?_); intro w hs
        refine .z zg (.nil ?_)
        refine .ret (rT (?_))
        exact Fin.retD [] [] hs fun w hs => ⟨_, results2 Tryz.results28 (rcells (vs := [_, _, _, _]) hs rfl Tryz.isAgg27 Tryz.sizeOf27) rfl, H3, _, ⟨⟨0, []⟩, [], 0⟩, 2, hle13, rfl, ⟨_, _, rfl, RS.nil H3 4 none 0, RS.nil H3 1 none 0⟩, .long hC hSd (by omega), hs.out⟩
      · refine .skip ?_
        refine nT ?_
        refine .seq (.draw mix rfl hs ?_); intro w hs
        refine .ys 0 rfl hs [_, _] Tryz.isAgg24 Tryz.sizeOf24 ?_; refine .z 2 rfl (zfa fa_api_Ask_1) ?_; refine .y 3 rfl hs Tryz.isAgg25 ?_; refine .z 5 rfl (zfa fa_api_Ask_2) ?_; refine .y 6 rfl hs Tryz.isAgg3 ?_
        refine .e1 (i := 1) (by kernel_rfl) rfl rfl .none hs ?_
        refine .buildSlice (cells := []) hs bls_sl_int_0 rfl rfl ?_; intro b41 w hs
        refine .go ?_
        refine .e1 (i := 4) (by kernel_rfl) rfl rfl .none hs ?_
        refine .append (xs := []) (ys := Is a.ws) hs app_sl_int_int rfl rfl (.full (len := 0) rfl) (.ints (hw.mono hle13)) (Is_cell _) (fun l' h => by simp at h; rw [hwl]; simp only [Syst.n]; omega) ?_; intro v44 en44 w hO hs
        rw [List.nil_append] at hO
        obtain ⟨a44, l44, c44, rfl, h44⟩ := hO.shape
        refine .go ?_
        refine .z 7 rfl (zbd [_, _, _, _] bld_api_Ask) ?_
        refine .e1 (i := 8) (by kernel_rfl) rfl rfl .none hs ?_
        refine .stores (vs := [_, _, _, _]) hs rfl rfl Tryz.sizeOf27 ?_; intro w hs
        refine .go ?_
        refine .z 9 rfl zg ?_; refine .done (by kernel_rfl) hs ?_
        obtain ⟨H4, hle4, hRW, hs⟩ := OwnS.publishI hO (by rw [hwl]; simp only [Syst.n]; omega) hs (by repeat constructor)
        refine .ret ?_
        exact Fin.retD [] [] hs fun w hs => ⟨_, results2 Tryz.results28 (rcells (vs := [_, _, _, _]) hs rfl Tryz.isAgg27 Tryz.sizeOf27) rfl, H4, _, behQ a l vs, 0, hle13.trans hle4, rfl, ⟨_, _, rfl, RL.mono hRS hle4, hRW⟩, .ok hC hSd (by omega), hs.out⟩
theorem ref09_same_spec {H : Heap} {w : World} {σ : List Ent} {v1 v2 : Value} {x y : List Int} (hs : St H w σ) (h1 : RI H v1 x) (h2 : RI H v2 y) : Cl Tryz.prog 62 [v1, v2] w fun v w' => v = .bool (decide (x = y)) ∧ St H w' σ := by
  refine Cl.of Tryz.func62 rfl Tryz.ntmps62 (by simp) (args_cons (k := 0) rfl (args_cons (k := 1) rfl (args0))) ?_
  refine .regSeq (.z zg (.nil (.regSeq (.z zm (.z zm ?_)))))
  refine .o (.call Tryz.call20 rfl (ref02_Same_spec hs h1 h2) ?_); rintro _ w ⟨rfl, hs⟩
  refine .z zg (.nil ?_)
  refine .ret (Fin.ret1 Tryz.results62 rfl ?_)
  exact ⟨rfl, hs.out⟩
theorem ref09_SameAsk_spec {H : Heap} {w : World} {σ : List Ent} {v1 v2 : Value} {a : Quest} (hs : St H w σ) (h1 : RAsk H v1 a) (h2 : RAsk H v2 a) : Cl Tryz.prog 29 [v1, v2] w fun v w' => v = .bool true ∧ St H w' σ := by
  obtain ⟨ul1, uw1, rfl, g1, g2⟩ := h1
  obtain ⟨ul2, uw2, rfl, g3, g4⟩ := h2
  refine Cl.of Tryz.func29 rfl Tryz.ntmps29 (by simp) (args_cons (k := 0) rfl (args_cons (k := 1) rfl (args0))) ?_
  refine .regSeq ?_
  refine .o (.box hs rfl rfl ?_); intro b2 w hs
  refine .o (.box hs rfl rfl ?_); intro b3 w hs
  refine .z zg (.nil (.regSeq (.z (zfa fa_api_Ask_0) (.y hs (zls [_, _] Tryz.isAgg24 Tryz.sizeOf24) (.z (zfa fa_api_Ask_0) (.y hs (zls [_, _] Tryz.isAgg24 Tryz.sizeOf24) ?_))))))
  refine .o (.call Tryz.call83 rfl (ref02_SameSystem_spec (s1 := a.sys) (s2 := a.sys) hs ⟨_, rfl, g1⟩ ⟨_, rfl, g3⟩) ?_); rintro _ w ⟨bs, rfl, hbs, hs⟩
  obtain rfl : bs = true := hbs.2 ⟨rfl, rfl⟩
  refine .z zm ?_
  refine .bif (t' := 10) rfl (fun hb10 => ?_) (fun hb10 => ?_)
  · refine .gT rfl rfl ?_
    refine .z (zfa fa_api_Ask_1) ?_
    refine .gT rfl rfl ?_
    refine .y hs (zld Tryz.isAgg25) ?_
    refine .gT rfl rfl ?_
    refine .z (zfa fa_api_Ask_1) ?_
    refine .gT rfl rfl ?_
    refine .y hs (zld Tryz.isAgg25) ?_
    refine .gT rfl rfl ?_
    refine .o (.call Tryz.call62 rfl (ref09_same_spec hs g2 g4) ?_); rintro _ w ⟨rfl, hs⟩
    refine .z zpT (.z zm ?_)
    refine .bif (t' := 17) rfl (fun hb17 => ?_) (fun hb17 => ?_)
    · refine .gT rfl rfl ?_
      refine .z (zfa fa_api_Ask_2) ?_
      refine .gT rfl rfl ?_
      refine .y hs (zld Tryz.isAgg3) ?_
      refine .gT rfl rfl ?_
      refine .z (zfa fa_api_Ask_2) ?_
      refine .gT rfl rfl ?_
      refine .y hs (zld Tryz.isAgg3) ?_
      refine .gT rfl rfl ?_
      refine .z zeql (.z zpT (.z zg (.nil ?_)))
      refine .ret (Fin.ret1 Tryz.results29 rfl ?_)
      first | exact ⟨rfl, hs.out⟩ | (exfalso; first | (simp at hb17; done) | (simp at hb10; done) | (simp_all; done)) | (refine ⟨?_, hs.out⟩; simp; done)
    · refine .gFs 5 12 true rfl rfl rfl ?_
      refine .z zpF (.z zg (.nil ?_))
      refine .ret (Fin.ret1 Tryz.results29 rfl ?_)
      first | exact ⟨rfl, hs.out⟩ | (exfalso; first | (simp at hb17; done) | (simp at hb10; done) | (simp_all; done)) | (refine ⟨?_, hs.out⟩; simp; done)
  · refine .gFs 5 5 true rfl rfl rfl ?_
    refine .z zpF (.z zm ?_)
    refine .gFs 5 12 true rfl rfl rfl ?_
    refine .z zpF (.z zg (.nil ?_))
    refine .ret (Fin.ret1 Tryz.results29 rfl ?_)
    first | exact ⟨rfl, hs.out⟩ | (exfalso; first | (simp at hb17; done) | (simp at hb10; done) | (simp_all; done)) | (refine ⟨?_, hs.out⟩; simp; done)
end Go.Proofs.YtiiokdeehlfeeaaGreat

namespace Go.Proofs.YtiiokdeehlfeeaaGreat
open Go.MW
theorem slices_AppendSeq_spec {H : Heap} {w : World} {σ : List Ent} {gf : Nat} {cap : List Value} {L : List (List Int)} {E : Nat → Heap → List Value → Prop} (hs : St H w σ) (hit : IterE Tryz.prog gf cap H L.length E) (hc : ∀ args w, (callFunc gf args).run Tryz.prog w = .ok (.enter gf args) w)
    (hE : ∀ k H' z, E k H' z → ∃ v c, z = [v] ∧ L[k]? = some c ∧ RI H' v c) (hL : L.length ≤ 1000) :
    Cl Tryz.prog 138 [.slice none 0 0, .func (.func gf) #[] cap.toArray] w fun u w' => ∃ H1, HLe H H1 ∧ RT H1 u L ∧ St H1 w' σ := by
  refine Cl.of Tryz.func138 rfl Tryz.ntmps138 (by simp) (args_cons (k := 0) rfl (args_cons (k := 1) rfl (args0))) ?_
  refine .regSeq ?_
  refine .o (.box hs rfl rfl ?_); intro b2 w hs
  refine .z zg (.nil (.seq (.regSeq (.z zm (.nil (.block ?_))))))
  refine .rangeE (gf := gf) (cap := cap) (N := L.length) (E := E) (σb := [.blk b2 [.slice none 0 0], .nul]) (σf := σ)
    (hs.nul.perm (.swap _ _ _)) trivial rfl hit hc (fun _ _ z h => by obtain ⟨v, _, hz, _⟩ := hE _ _ _ h; rw [hz]; rfl) rfl
    (I := fun k H' σb => ∃ us v en, σb = [.blk b2 [v], en] ∧ HLe H H' ∧ OwnS 1 v us en ∧ RLs H' us (L.take k)) (Ix := fun _ _ _ => False)
    (fun k _ _ σ g1 ⟨us, v, en, g2, g3, g4, g5⟩ => ⟨us, v, en, g2, g3.trans g1, g4, g5.mono g1⟩)
    (fun _ _ _ _ _ h => h)
    ⟨[], _, .nul, rfl, HLe.refl _, .nil 1 none, RLs.nil H⟩ ?_ ?_ (fun D c H' σb w _ h _ => h.elim)
  · rintro ll k hk z H2 σb2 σf2 w hle2 hz ⟨us, v, en, rfl, hq2, hO, hR⟩ hs ⟨rr, hrr⟩
    obtain ⟨vc, c, rfl, hcc, hRc⟩ := hE _ _ _ hz
    obtain ⟨av, lv, cv, rfl, hlv⟩ := hO.shape
    obtain ⟨ac, cc, rfl⟩ := RI.shape hRc
    refine .region (.z zg (.nil ?_))
    refine nT ?_
    refine ⟨H2, _, HLe.refl _, hs, ?_⟩; rintro w σf4 - hs
    refine .block (.region (.y hs (zld Tryz.isAgg29) (.z zm ?_)))
    refine .o (.buildSlice (cells := [.slice ac c.length cc]) hs bls_slLL_int_1 rfl rfl ?_); intro b10 w hs
    refine .o (.append (ys := [.slice ac c.length cc]) hs app_slLL_int_LL_int rfl rfl hO (.own .here rfl rfl) (by simp [Value.oneCell']) (fun l' h => by have := hR.1; rw [List.length_take] at this; omega) ?_); intro v11 en11 w hO2 hs
    obtain ⟨a11, l11, c11, rfl, h11⟩ := hO2.shape
    refine .o (.store hs rfl rfl Tryz.sizeOf29 ?_); intro w hs
    refine .nil ?_
    refine nB ?_
    exact ⟨H2, [.blk b2 [.slice a11 l11 c11], en11], HLe.refl _, (hs.sub (by repeat (first | exact Sub.refl _ | constructor | apply Sub.weaken)) : St H2 w (.blk b2 _ :: en11 :: σf4)), _, _, _, rfl, hq2, hO2, by rw [take_snoc hcc]; exact hR.snoc hRc⟩
  · rintro D H2 σb2 w hle2 ⟨us, v, en, rfl, hq2, hO, hR⟩ hs
    rw [List.take_length] at hR
    obtain ⟨av, lv, cv, rfl, hlv⟩ := hO.shape
    refine nB (nT ?_)
    refine .regSeq (.y hs (zld Tryz.isAgg29) (.z zg (.nil ?_)))
    refine .ret ?_
    obtain ⟨H3, hle3, hRT, hs⟩ := hR.publish hO (by rw [hR.1]; exact hL) hs (.there (.there .here))
    exact Fin.retD [D] [.blk b2 [.slice av lv cv]] (hs.perm (.swap _ _ _)) fun w hs => ⟨_, results1 Tryz.results138 rfl, H3, hle2.trans hle3, hRT, hs.out⟩
theorem slices_Collect_spec {H : Heap} {w : World} {σ : List Ent} {gf : Nat} {cap : List Value} {L : List (List Int)} {E : Nat → Heap → List Value → Prop} (hs : St H w σ) (hit : IterE Tryz.prog gf cap H L.length E) (hc : ∀ args w, (callFunc gf args).run Tryz.prog w = .ok (.enter gf args) w)
    (hE : ∀ k H' z, E k H' z → ∃ v c, z = [v] ∧ L[k]? = some c ∧ RI H' v c) (hL : L.length ≤ 1000) :
    Cl Tryz.prog 53 [.func (.func gf) #[] cap.toArray] w fun u w' => ∃ H1, HLe H H1 ∧ RT H1 u L ∧ St H1 w' σ := by
  refine Cl.of Tryz.func53 rfl Tryz.ntmps53 (by simp) (args_cons (k := 0) rfl (args0)) ?_
  refine .regSeq (.z zg (.nil (.regSeq (.z zm ?_))))
  refine .o (.call Tryz.call138 rfl (slices_AppendSeq_spec hs hit hc hE hL) ?_); rintro v4 w ⟨H1, hle1, hRT, hs⟩
  refine .z zg (.nil ?_)
  refine .ret (Fin.ret1 Tryz.results53 rfl ?_)
  exact ⟨H1, hle1, hRT, hs.out⟩
theorem probe_Choices_spec {H : Heap} {w : World} {σ : List Ent} {n : Int} (hs : St H w σ) :
    Cl Tryz.prog 10 [I n] w fun u w' => ∃ H1 v rs e, HLe H H1 ∧ u = .tuple #[v, I e] ∧ RT H1 v rs ∧ ((¬ (0 ≤ n ∧ n ≤ 8) ∧ e = 1 ∧ rs = []) ∨ ((0 ≤ n ∧ n ≤ 8) ∧ e = 0 ∧ rs = choicesL n.toNat)) ∧ St H1 w' σ := by
  refine Cl.of Tryz.func10 rfl Tryz.ntmps10 (by simp) (args_cons (k := 0) rfl (args0)) ?_
  refine .regSeq (.z zg (.z zg (.nil (.seq (.regSeq (.z zm ?_))))))
  refine .o (.call Tryz.call52 rfl (probe_isWithin_spec hs) ?_); rintro _ w ⟨rfl, hs⟩
  refine .z znot (.nil ?_)
  refine (.cond rfl (fun hc6 => ?_) (fun hc6 => ?_))
  · refine .regSeq (.z zg (.z zg (.nil ?_)))
    refine .ret (rT (Fin.ret2 Tryz.results10 rfl rfl ?_))
    exact ⟨H, _, [], 1, HLe.refl _, rfl, ⟨[], rfl, RS.nil H 1 none 0, fun i u r h => by simp at h⟩, .inl ⟨by have h9 := hc6; simp at h9; omega, rfl, rfl⟩, hs.out⟩
  · refine .skip ?_
    refine nT ?_
    refine .regSeq (.z zm ?_)
    have hn : 0 ≤ n ∧ n ≤ 8 := by simpa using hc6
    obtain ⟨N, rfl⟩ := Int.eq_ofNat_of_zero_le hn.1
    refine .o (.call Tryz.call54 rfl (probe_choices_spec (n := N) hs (by omega)) ?_); rintro _ w ⟨H1, b8, hle1, rfl, hit, hs⟩
    refine .o (.call Tryz.call53 rfl (slices_Collect_spec (L := choicesL N) hs hit Tryz.call139 (fun k H' z ⟨v, c, h1, h2, _, h3⟩ => ⟨v, c, h1, h2, h3⟩) (by have := choicesL_length (n := N) (by omega); omega)) ?_); rintro v9 w ⟨H2, hle2, hRT, hs⟩
    refine .z zg (.z zg (.nil ?_))
    refine .ret (Fin.ret2 Tryz.results10 rfl rfl ?_)
    exact ⟨H2, _, _, 0, hle1.trans hle2, rfl, hRT, .inr ⟨hn, rfl, rfl⟩, hs.out⟩
set_option maxHeartbeats 4000000 in
theorem ref09_choices_spec {H : Heap} {w : World} {σ : List Ent} {n : Nat} (hs : St H w σ) (hn : n < 9) :
    Cl Tryz.prog 56 [I n] w fun u w' => ∃ H1, HLe H H1 ∧ RT H1 u (choicesL n) ∧ St H1 w' σ := by
  have hsmall := out_small n hn
  have hfour : ∀ {m : Nat}, m ≤ 4 → (outTo n m).length ≤ 100 := fun h => Nat.le_trans (outTo_mono n h) hsmall
  refine Cl.of Tryz.func56 rfl Tryz.ntmps56 (by simp) (args_cons (k := 0) rfl (args0)) ?_
  refine .regSeq (.z zg (.nil (.regSeq ?_)))
  refine .o (.buildSlice (cells := []) hs bls_sl_int_0 rfl rfl ?_); intro b10 w hs
  obtain ⟨H0, hle0, hR0, hs⟩ := OwnS.publishI (xs := []) (v := .slice (some ⟨b10, 0, none⟩) 0 0) (en := .blk b10 []) (.full (len := 0) rfl) (by simp) hs .here
  refine .o (.buildSlice (cells := [.slice (some ⟨b10, 0, none⟩) 0 0]) hs bls_slLL_int_1 rfl rfl ?_); intro b11 w hs
  refine .z zg (.nil (.regSeq (.z zg (.nil (.seq (.regSeq (.z zg (.nil (.block ?_)))))))))
  refine .loop (fun p : Nat × Value => ⟨63, [], [(5, I ((p.1 + 1 : Nat) : Int)), (4, I ((outTo n p.1).length : Int)), (3, p.2), (0, I (n : Int))]⟩)
    (fun p w => p.1 ≤ 3 ∧ ∃ us en Hk, HLe H Hk ∧ OwnS 1 p.2 us en ∧ RLs Hk us (outTo n (p.1 + 1)) ∧ St Hk w (en :: σ))
    (fun p => 3 - p.1) (0, .slice (some ⟨b11, 0, none⟩) 1 1) (by repeat (first | exact .nil rfl rfl | refine .cons rfl ?_))
    ⟨by omega, _, _, H0, hle0, .full (len := 1) (xs := [.slice (some ⟨b10, 0, none⟩) 0 0]) rfl, (RLs.nil H0).snoc (r := []) hR0, hs⟩ ?_
  rintro ⟨m, v3⟩ w ⟨hm, us, en, Hk, hleK, hO, hR, hs⟩
  dsimp only at hm hO hR hs ⊢
  have hul := hR.1
  have hom := hfour (m := m + 1) (by omega)
  obtain ⟨b3, c3, sp3, rfl, rfl, hc3⟩ := hO.someV (m := (outTo n (m + 1)).length) hul (by simp only [outTo, List.length_append]; cases m with | zero => rw [lvl_zero]; simp | succ m => have := outTo_mono n (m := 1) (k := m + 1) (by omega); rw [outTo_one] at this; simp at this; omega)
  refine .seq (.regSeq (.z zm (.z zleq (.nil ?_))))
  refine (.condD rfl (fun hc13 => ?_) (fun hc13 => ?_))
  · refine .skip ?_
    refine nT ?_
    refine .seq (.block (.regSeq (.z zm (.z (zlen Tryz.runUnderlying29) (.z zg (.nil (.seq (.regSeq (.z zm ?_)))))))))
    refine .z zg (.nil (.block ?_))
    refine .loop (fun p : Nat × Value => ⟨63, [], [(7, I (((outTo n m).length + p.1 : Nat) : Int)), (6, I ((outTo n (m + 1)).length : Int)), (5, I ((m + 1 : Nat) : Int)), (3, p.2), (0, I (n : Int))]⟩)
      (fun p w => p.1 ≤ (lvl n m).length ∧ ∃ us en Hj, HLe H Hj ∧ OwnS 1 p.2 us en ∧ RLs Hj us (outTo n (m + 1) ++ ((lvl n m).take p.1).flatMap (extc n)) ∧ St Hj w (en :: σ))
      (fun p => (lvl n m).length - p.1) (0, .slice (some ⟨b3, 0, none⟩) (outTo n (m + 1)).length c3) (by repeat (first | exact .nil rfl rfl | refine .cons rfl ?_))
      ⟨by omega, us, _, Hk, hleK, hO, by simpa using hR, hs⟩ ?_
    have hm3 : m < 3 := by omega
    have hstep := lvl_step n hn m hm3
    have hlen1 : (outTo n (m + 1)).length = (outTo n m).length + (lvl n m).length := by simp only [outTo, List.length_append]
    have hlen2 : (outTo n (m + 2)).length = (outTo n (m + 1)).length + (lvl n (m + 1)).length := by simp only [outTo, List.length_append]
    have hom2 := hfour (m := m + 2) (by omega)
    clear hs hO hR hul
    rintro ⟨i, v3⟩ w ⟨hi, us, en, Hj, hleJ, hO, hR, hs⟩
    dsimp only at hi hO hR hs ⊢
    have hul := hR.1
    refine .seq (.regSeq (.z zm (.z zm (.z zlss (.nil ?_)))))
    refine (.condD rfl (fun hc21 => ?_) (fun hc21 => ?_))
    · refine .skip ?_
      refine nT ?_
      refine .seq (.block (.regSeq (.z zg (.nil ?_))))
      have hi' : i < (lvl n m).length := by omega
      obtain ⟨c, hc⟩ := nth (l := lvl n m) hi'
      have hcin := lvl_in (List.mem_of_getElem? hc)
      have hcl3 : c.length ≤ 3 := by have := (walkL_in (List.mem_of_getElem? hc)).1; omega
      obtain ⟨ac, cc, hget, hRc⟩ := hR.get (out_part hc _)
      have hilen : (outTo n m).length + i < us.length := (List.getElem?_eq_some_iff.1 hget).1
      have hOk := hO
      obtain ⟨b5, c5, sp5, rfl, rfl, hc5⟩ := hO.someV (m := us.length) rfl (by omega)
      have hgetS : (us ++ sp5)[(outTo n m).length + i]? = some (.slice ac c.length cc) := by rw [List.getElem?_append_left hilen]; exact hget
      refine .cut (fun fs w => FSub fs ⟨63, [], [(8, I (nxtc c : Int)), (7, I (((outTo n m).length + i : Nat) : Int)), (6, I ((outTo n (m + 1)).length : Int)), (5, I ((m + 1 : Nat) : Int)), (3, .slice (some ⟨b5, 0, none⟩) us.length c5), (0, I (n : Int))]⟩ ∧ St Hj w (.blk b5 (us ++ sp5) :: σ)) ?_ ?_
      · refine .regSeq (.z zm (.z zm (.z (zix Tryz.runUnderlying29 Tryz.sizeOf25) ?_)))
        refine .q hs (q_load rfl Tryz.isAgg25 (hv := hgetS)) ?_
        refine .z (zlen Tryz.runUnderlying25) (.z zgtr (.nil ?_))
        refine (.condD rfl (fun hc29 => ?_) (fun hc29 => ?_))
        · refine .draw mix rfl hs ?_; intro w hs
          refine .z 0 rfl zm ?_; refine .z 1 rfl zm ?_; refine .z 2 rfl (zix Tryz.runUnderlying29 Tryz.sizeOf25) ?_
          refine .load (i := 3) hs rfl (by kernel_rfl) .none rfl Tryz.isAgg25 ?_ (hv := hgetS)
          refine .z 4 rfl zm ?_; refine .z 5 rfl zm ?_; refine .z 6 rfl (zix Tryz.runUnderlying29 Tryz.sizeOf25) ?_
          refine .load (i := 7) hs rfl (by kernel_rfl) .none rfl Tryz.isAgg25 ?_ (hv := hgetS)
          refine .z 8 rfl (zlen Tryz.runUnderlying25) ?_; refine .z 9 rfl zsub ?_
          have hc0 : 0 < c.length := by omega
          refine .ixX (enc := fun x => [I x]) (i := 10) hs rfl (by kernel_rfl) .none hRc rfl rfl Tryz.runUnderlying25 Tryz.sizeOf3 (gi_get (l := c) (i := c.length - 1) (by omega)) (by omega) ?_; intro b40 o40 hc40; replace hc40 := CellsAt.one hc40
          have hlast := nxtc_last hc0 (fun x hx => (hcin x hx).1)
          have hlx := hcin _ (List.mem_of_getElem? (gi_get (l := c) (i := c.length - 1) (by omega)))
          refine .r (i := 11) hs rfl (by kernel_rfl) .none (q_loadR rfl Tryz.isAgg3 hc40) ?_
          refine .z 12 rfl zadd ?_; refine .z 13 rfl zg ?_; refine .done (by kernel_rfl) hs ?_
          refine nT ?_
          exact ⟨.consI rfl hlast.symm (by repeat (first | exact .nil rfl rfl | refine .cons rfl ?_)), hs⟩
        · refine .skip ?_
          refine nT ?_
          have hc0 : c = [] := List.length_eq_zero_iff.1 (by omega)
          exact ⟨.consI rfl (by rw [hc0]; rfl) (by repeat (first | exact .nil rfl rfl | refine .cons rfl ?_)), hs⟩
      · rintro fs w ⟨hfs, hs⟩
        refine WE.sub ?_ hfs
        refine .regSeq (.z zm (.z zg (.nil (.block ?_))))
        refine .loop (fun p : Nat × Value => ⟨63, [], [(9, I ((nxtc c + p.1 : Nat) : Int)), (7, I (((outTo n m).length + i : Nat) : Int)), (6, I ((outTo n (m + 1)).length : Int)), (5, I ((m + 1 : Nat) : Int)), (3, p.2), (0, I (n : Int))]⟩)
          (fun p w => p.1 ≤ n - nxtc c ∧ ∃ us en Hi, HLe H Hi ∧ OwnS 1 p.2 us en ∧ RLs Hi us (outTo n (m + 1) ++ (((lvl n m).take i).flatMap (extc n) ++ (extc n c).take p.1)) ∧ St Hi w (en :: σ))
          (fun p => n - nxtc c - p.1) (0, .slice (some ⟨b5, 0, none⟩) us.length c5) (by repeat (first | exact .nil rfl rfl | refine .cons rfl ?_))
          ⟨by omega, us, _, Hj, hleJ, hOk, by simpa using hR, hs⟩ ?_
        clear hs hgetS hilen hget hRc hR hul hOk
        rintro ⟨j, v3⟩ w ⟨hj, us, en, Hi, hleI, hO, hR, hs⟩
        dsimp only at hj hO hR hs ⊢
        have hul := hR.1
        have hrl : ((lvl n m).flatMap (extc n)).length ≤ 100 := by rw [← hstep]; omega
        have hpart : (outTo n (m + 1) ++ (((lvl n m).take i).flatMap (extc n) ++ (extc n c).take j)).length ≤ 200 := by
          have e := flatMap_take (extc n) hc
          have e2 : ((lvl n m).take (i + 1)).flatMap (extc n) ++ ((lvl n m).drop (i + 1)).flatMap (extc n) = (lvl n m).flatMap (extc n) := by rw [← List.flatMap_append, List.take_append_drop]
          have e3 := congrArg List.length e2
          rw [e] at e3
          simp only [List.length_append, List.length_take] at e3 ⊢
          omega
        obtain ⟨ac, cc, hget, hRc⟩ := hR.get (out_part hc _)
        have hilen : (outTo n m).length + i < us.length := (List.getElem?_eq_some_iff.1 hget).1
        have hOk := hO
        obtain ⟨b6, c6, sp6, rfl, rfl, hc6⟩ := hO.someV (m := us.length) rfl (by omega)
        have hgetS : (us ++ sp6)[(outTo n m).length + i]? = some (.slice ac c.length cc) := by rw [List.getElem?_append_left hilen]; exact hget
        refine .seq (.regSeq (.z zm (.z zm (.z zlss (.nil ?_)))))
        refine (.condD rfl (fun hc46 => ?_) (fun hc46 => ?_))
        · refine .skip ?_
          refine nT ?_
          refine .seq (.block (.region (.z zm ?_)))
          refine .o (.buildSlice (cells := []) hs bls_sl_int_0 rfl rfl ?_); intro b50 w hs
          refine .z zm (.z zm (.z (zix Tryz.runUnderlying29 Tryz.sizeOf25) ?_))
          refine .q hs (q_load rfl Tryz.isAgg25 (hm := .there .here) (hv := hgetS)) ?_
          have hcl : c.length ≤ 3 := by have := (walkL_in (List.mem_of_getElem? hc)).1; omega
          refine .o (.append (xs := []) hs app_sl_int_int rfl rfl (.full (len := 0) rfl) (.ints hRc) (Is_cell _) (fun l' h => by simp at h; obtain rfl : l' = 0 := (by omega); omega) ?_); intro v55 en55 w hO5 hs
          rw [List.nil_append] at hO5
          obtain ⟨a55, l55, c55, rfl, h55⟩ := hO5.shape
          refine .z zm ?_
          refine .o (.buildSlice (cells := [I ((nxtc c + j : Nat) : Int)]) hs bls_sl_int_1 rfl rfl ?_); intro b57 w hs
          refine .o (.append (ys := Is [((nxtc c + j : Nat) : Int)]) hs app_sl_int_int rfl rfl hO5 (.own .here rfl rfl) (Is_cell _) (fun l' h => by simp at h; omega) ?_); intro v58 en58 w hO8 hs
          rw [← List.map_append] at hO8
          obtain ⟨H8, hle8, hR8, hs⟩ := OwnS.publishI hO8 (by simp; omega) hs .here
          obtain ⟨a58, c58, rfl⟩ := RI.shape hR8
          refine .o (.buildSlice (cells := [.slice a58 (c ++ [((nxtc c + j : Nat) : Int)]).length c58]) hs bls_slLL_int_1 rfl rfl ?_); intro b59 w hs
          refine .o (.append (ys := [.slice a58 (c ++ [((nxtc c + j : Nat) : Int)]).length c58]) hs app_slLL_int_LL_int rfl rfl hOk (.own .here rfl rfl) (by simp [Value.oneCell']) (fun l' h => by simp at h; omega) ?_); intro v60 en60 w hO60 hs
          refine .z zg (.nil ?_)
          refine nB (nT ?_)
          refine .region (.z zm (.z zadd (.z zg (.nil ?_))))
          refine nT ?_
          exact ⟨(j + 1, v60), .consI rfl (by push_cast; omega) (by repeat (first | exact .nil rfl rfl | refine .cons rfl ?_)), ⟨by omega, _, _, H8, hleI.trans hle8, hO60, by
            rw [extc_take n c (by omega), ← List.append_assoc, ← List.append_assoc]
            have := (hR.mono hle8).snoc hR8
            rw [← List.append_assoc] at this
            exact this, hs.sub (by repeat (first | exact Sub.refl _ | constructor | apply Sub.weaken))⟩, by dsimp only; omega⟩
        · refine .exit ?_
          refine xT (xT (xB (nB (nT ?_))))
          refine .region (.z zm (.z zadd (.z zg (.nil ?_))))
          refine nT ?_
          have hj' : (extc n c).take j = extc n c := List.take_of_length_le (by rw [extc_length]; omega)
          rw [hj', ← flatMap_take (extc n) hc] at hR
          exact ⟨(i + 1, .slice (some ⟨b6, 0, none⟩) us.length c6), .consI rfl (by push_cast; omega) (by repeat (first | exact .nil rfl rfl | refine .cons rfl ?_)), ⟨by omega, us, _, Hi, hleI, hOk, hR, hs⟩, by dsimp only; omega⟩
    · refine .exit ?_
      refine xT (xT (xB (nT ?_)))
      refine .region (.z zm (.z zg (.nil ?_)))
      refine nB (nT ?_)
      refine .region (.z zm (.z zadd (.z zg (.nil ?_))))
      refine nT ?_
      obtain rfl : i = (lvl n m).length := by omega
      rw [List.take_length, ← hstep] at hR
      exact ⟨(m + 1, v3), .consI rfl (by push_cast; omega) (.consI rfl rfl (by repeat (first | exact .nil rfl rfl | refine .cons rfl ?_))), ⟨by omega, us, en, Hj, hleJ, hO, hR, hs⟩, by dsimp only; omega⟩
  · refine .exit ?_
    refine xT (xT (xB (nT ?_)))
    refine .regSeq (.z zm (.z zg (.nil ?_)))
    refine .ret (Fin.ret1 Tryz.results56 rfl ?_)
    obtain rfl : m = 3 := by omega
    obtain ⟨H9, hle9, hRT, hs⟩ := hR.publish hO (by rw [hul]; omega) hs .here
    rw [out_all n hn] at hRT
    exact ⟨H9, hleK.trans hle9, by show RT H9 (.slice _ (outTo n 4).length _) _; rw [out_all n hn]; exact hRT, hs.out⟩
end Go.Proofs.YtiiokdeehlfeeaaGreat
