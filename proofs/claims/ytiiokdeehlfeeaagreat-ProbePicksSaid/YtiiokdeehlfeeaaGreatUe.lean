/-
  Texts of these claims, joined: Xc Xd Xe Xg Xh Xi Xj Xl Xn Xo Xq Xr Xs Xt Xu Xv Xw Xx Xy Opk.
-/
import Derived.Test.YtiiokdeehlfeeaaGreatUd
namespace Go.Proofs.YtiiokdeehlfeeaaGreat
open Go.MW
set_option maxHeartbeats 8000000 in
theorem ref02_CheckProof_spec {H : Heap} {w : World} {σ : List Ent} {v vw vp : Value} {s : Syst} {ws : List Int} {n : Int} {us : List Use} (hs : St H w σ) (hr : RSy H v s) (hrw : RI H vw ws) (hp : RPf H vp n us) :
    Cl Tryz.prog 157 [v, vw, vp] w fun v w' => ∃ e, v = I e ∧ ProofR s ws n us e ∧ St H w' σ := by
  obtain ⟨u, rfl, hr⟩ := hr
  obtain ⟨al, cl, rfl⟩ := RL.shape hr
  obtain ⟨aw, cw, rfl⟩ := RI.shape hrw
  obtain ⟨uu, rfl, hU⟩ := hp
  obtain ⟨au, cu, rfl⟩ := RU.shape hU
  refine Cl.of Tryz.func157 rfl Tryz.ntmps157 (by simp) (args_cons (k := 0) rfl (args_cons (k := 1) rfl (args_cons (k := 2) rfl (args0)))) ?_
  refine .regSeq ?_
  refine .o (.box hs rfl rfl ?_); intro b3 w hs
  refine .o (.box hs rfl rfl ?_); intro b5 w hs
  refine .z zg (.nil (.regSeq (.y hs (zls [_, _] Tryz.isAgg24 Tryz.sizeOf24) (.z zm ?_))))
  refine .o (.call Tryz.call151 rfl (ref02_asked_spec (s := s) hs ⟨_, rfl, hr⟩ hrw) ?_); rintro _ w ⟨rfl, hs⟩
  refine .z zg (.nil (.seq (.regSeq (.z zm (.z zneq (.nil ?_))))))
  refine (.condN rfl (fun hc19 => ?_) (fun hc19 => ?_))
  · refine .regSeq (.z zm (.z zg (.nil ?_)))
    refine .ret (rT (Fin.ret1 Tryz.results157 rfl ?_))
    exact ⟨_, rfl, .ask hc19, hs.out⟩
  · refine .skip ?_
    refine nT ?_
    refine .seq (.regSeq (.z (zfa fa_api_Proof_1) (.y hs (zld Tryz.isAgg61) (.z (zlen Tryz.runUnderlying61) (.z zgtr (.nil ?_))))))
    refine (.condD rfl (fun hc24 => ?_) (fun hc24 => ?_))
    · refine .regSeq (.z zg (.nil ?_))
      refine .ret (rT (Fin.ret1 Tryz.results157 rfl ?_))
      exact ⟨_, rfl, .bad (by simpa using hc19) (fun h => by have := h.len; omega), hs.out⟩
    · refine .skip ?_
      refine nT ?_
      refine .regSeq (.z (zfa fa_api_System_0) (.y hs (zld Tryz.isAgg3) ?_))
      have hA : askErr s ws = 0 := by simpa using hc19
      obtain ⟨hok, hwl, hz⟩ := askErr_ok hA
      have hm0 := hok.m0
      have hn65 := hok.n65
      have hll := hok.len
      have hmn : s.many + 1 = (s.n : Int) := by simp only [Syst.n]; omega
      refine .z zadd ?_
      rw [hmn]
      refine .o (.makeI s.n hs rfl rfl Tryz.runUnderlying25 Tryz.typeInfo3 rfl Tryz.sizeOf3 Tryz.zeroValue3 (by omega) ?_); intro b28 w hs
      refine .z zg (.nil (.regSeq (.z zg (.nil (.regSeq (.z zg (.nil (.seq (.regSeq ?_)))))))))
      refine .z (zfa fa_api_Proof_1) (.y hs (zld Tryz.isAgg61) (.z (zlen Tryz.runUnderlying61) (.z zm (.nil ?_))))
      refine .for (N := us.length) (J := fun k fr w => fr = [(30, .slice au us.length cu), (8, .slice (some ⟨b28, 0, none⟩) s.n s.n), (9, I (timesTo us k)), (10, I (boundTo s us k)), (3, .pointer (some ⟨b3, 0, none⟩)), (5, .pointer (some ⟨b5, 0, none⟩)), (1, .slice aw ws.length cw)] ∧ ∃ C, (C.length = s.n ∧ ∀ v < s.n, gi C v = intoTo s us k v) ∧ (∀ i < k, UseOk s us i) ∧ timesTo us k ≤ 230400000000000 ∧ St H w (.blk b28 (Is C) :: .blk b5 [I n, .slice au us.length cu] :: .blk b3 [I s.many, .slice al s.lims.length cl] :: σ)) (by omega) ?_ ?_ ?_
      · exact .mk ⟨rfl, _, ⟨by simp, fun v hv => by rw [gi_replicate _ _ hv]; rfl⟩, fun i hi => by omega, by simp [timesTo, sumTo], hs⟩
      · rintro k fr w hk ⟨rfl, C, ⟨hC1, hC2⟩, hUs, hTm, hs⟩
        have hx := gu_get hk
        refine .block (.regSeq (.z zm ?_))
        refine .ixX (enc := Use.c) hs hU rfl rfl Tryz.runUnderlying61 Tryz.sizeOf208 hx rfl ?_; intro b35 o35 hc35
        refine .q hs (q_loadsR (vs := (gu us k).c) rfl Tryz.isAgg208 Tryz.sizeOf208 hc35) ?_
        refine .o (.alloc hs Tryz.zeroValue208 rfl ?_); intro b12 w hs
        refine .z zg ?_
        refine .o (.stores (vs := (gu us k).c) hs rfl rfl Tryz.sizeOf208 ?_); intro w hs
        refine .nil (.seq ?_)
        refine .cut (fun fs w => ∃ p, FSub fs ⟨124, [], [(66, .bool p), (12, .pointer (some ⟨b12, 0, none⟩)), (32, I (k : Int)), (31, I (us.length : Int)), (30, .slice au us.length cu), (8, .slice (some ⟨b28, 0, none⟩) s.n s.n), (9, I (timesTo us k)), (10, I (boundTo s us k)), (3, .pointer (some ⟨b3, 0, none⟩)), (5, .pointer (some ⟨b5, 0, none⟩)), (1, .slice aw ws.length cw)]⟩ ∧ (p = true → ¬ UseOk s us k) ∧ (p = false → UseOk s us k) ∧ St H w (.blk b12 (gu us k).c :: .blk b28 (Is C) :: .blk b5 [I n, .slice au us.length cu] :: .blk b3 [I s.many, .slice al s.lims.length cl] :: σ)) ?_ ?_
        · refine .draw mix rfl hs ?_; intro w hs
          refine .z 0 rfl (zfa fa_api_Use_0) ?_; refine .y 1 rfl hs Tryz.isAgg3 ?_; refine .z 2 rfl (zfa fa_api_System_1) ?_; refine .y 3 rfl hs Tryz.isAgg22 ?_; refine .z 4 rfl (zlen Tryz.runUnderlying22) ?_; refine .z 5 rfl zsub ?_
          refine .e1 (i := 6) (by kernel_rfl) rfl rfl .none hs ?_
          refine .call Tryz.call174 rfl (ref02_within_spec hs) ?_; rintro _ w ⟨rfl, hs⟩
          refine .go ?_
          refine .z 7 rfl znot ?_; refine .z 8 rfl zm ?_
          refine .bif (t' := 45) rfl (fun hb45 => ?_) (fun hb45 => ?_)
          · refine .qF (i := 9) rfl (by kernel_rfl) rfl rfl ?_
            refine .qF (i := 10) rfl (by kernel_rfl) rfl rfl ?_
            refine .qF (i := 11) rfl (by kernel_rfl) rfl rfl ?_
            refine .qF (i := 12) rfl (by kernel_rfl) rfl rfl ?_
            refine .qF (i := 13) rfl (by kernel_rfl) rfl rfl ?_
            refine .qF (i := 14) rfl (by kernel_rfl) rfl rfl ?_
            refine .qF (i := 15) rfl (by kernel_rfl) rfl rfl ?_
            refine .qF (i := 16) rfl (by kernel_rfl) rfl rfl ?_
            refine .qF (i := 17) rfl (by kernel_rfl) rfl rfl ?_
            refine .qF (i := 18) rfl (by kernel_rfl) rfl rfl ?_
            refine .qF (i := 19) rfl (by kernel_rfl) rfl rfl ?_
            refine .qF (i := 20) rfl (by kernel_rfl) rfl rfl ?_
            refine .qF (i := 21) rfl (by kernel_rfl) rfl rfl ?_
            refine .qF (i := 22) rfl (by kernel_rfl) rfl rfl ?_
            refine .z 23 rfl zpT ?_; refine .z 24 rfl zm ?_
            refine .qF (i := 25) rfl (by kernel_rfl) rfl rfl ?_
            refine .qF (i := 26) rfl (by kernel_rfl) rfl rfl ?_
            refine .qF (i := 27) rfl (by kernel_rfl) rfl rfl ?_
            refine .qF (i := 28) rfl (by kernel_rfl) rfl rfl ?_
            refine .z 29 rfl zpT ?_; refine .done (by kernel_rfl) hs ?_
            exact nT ⟨_, by repeat (first | exact .nil rfl rfl | refine .cons rfl ?_), by
              intro hp hU
              have h1 := hU.l0; have h2 := hU.l1; have h3 := hU.t0; have h4 := hU.t1; have h5 := hU.ord
              first
                | (cases hp; done)
                | (have := notdec_true.1 hb45; omega)
                | (have := h5 (by omega); omega)
                | (have := notdec_true.1 hp; omega), by
              intro hp
              first
                | (cases hp; done)
                | exact ⟨by have := notdec_false.1 hb45; omega, by have := notdec_false.1 hb45; omega, by have := notdec_false.1 hp; omega, by have := notdec_false.1 hp; omega, fun h => by omega⟩, hs⟩
          · refine .z 9 rfl zm ?_; refine .z 10 rfl zgtr ?_; refine .z 11 rfl zm ?_
            refine .bifD (t' := 48) rfl (fun hb48 => ?_) (fun hb48 => ?_)
            · refine .z 12 rfl (zfa fa_api_Proof_1) ?_; refine .y 13 rfl hs Tryz.isAgg61 ?_; refine .z 14 rfl zm ?_; refine .z 15 rfl zsub ?_
              refine .ixX (enc := Use.c) (i := 16) hs rfl (by kernel_rfl) (.some rfl rfl) hU rfl rfl Tryz.runUnderlying61 Tryz.sizeOf208 (gu_get (i := k - 1) (by omega)) (by omega) ?_; intro b53 o53 hc53
              refine .z 17 rfl (zfa fa_api_Use_0) ?_
              refine .r (i := 18) hs rfl (by kernel_rfl) (.some rfl rfl) (q_loadR rfl Tryz.isAgg3 (hc53.get 0 rfl)) ?_
              refine .z 19 rfl (zfa fa_api_Use_0) ?_; refine .y 20 rfl hs Tryz.isAgg3 ?_; refine .z 21 rfl zgeq ?_; refine .z 22 rfl zpT ?_; refine .z 23 rfl zpF ?_; refine .z 24 rfl zm ?_
              refine .bifD (t' := 61) rfl (fun hb61 => ?_) (fun hb61 => ?_)
              · refine .qF (i := 25) rfl (by kernel_rfl) rfl rfl ?_
                refine .qF (i := 26) rfl (by kernel_rfl) rfl rfl ?_
                refine .qF (i := 27) rfl (by kernel_rfl) rfl rfl ?_
                refine .qF (i := 28) rfl (by kernel_rfl) rfl rfl ?_
                refine .z 29 rfl zpT ?_; refine .done (by kernel_rfl) hs ?_
                exact nT ⟨_, by repeat (first | exact .nil rfl rfl | refine .cons rfl ?_), by
                  intro hp hU
                  have h1 := hU.l0; have h2 := hU.l1; have h3 := hU.t0; have h4 := hU.t1; have h5 := hU.ord
                  first
                    | (cases hp; done)
                    | (have := notdec_true.1 hb45; omega)
                    | (have := h5 (by omega); omega)
                    | (have := notdec_true.1 hp; omega), by
                  intro hp
                  first
                    | (cases hp; done)
                    | exact ⟨by have := notdec_false.1 hb45; omega, by have := notdec_false.1 hb45; omega, by have := notdec_false.1 hp; omega, by have := notdec_false.1 hp; omega, fun h => by omega⟩, hs⟩
              · refine .z 25 rfl (zfa fa_api_Use_1) ?_; refine .y 26 rfl hs Tryz.isAgg3 ?_
                refine .e1 (i := 27) (by kernel_rfl) rfl rfl (.some rfl rfl) hs ?_
                refine .call Tryz.call174 rfl (ref02_within_spec hs) ?_; rintro _ w ⟨rfl, hs⟩
                refine .go ?_
                refine .z 28 rfl znot ?_; refine .z 29 rfl zpF ?_; refine .done (by kernel_rfl) hs ?_
                exact nT ⟨_, by repeat (first | exact .nil rfl rfl | refine .cons rfl ?_), by
                  intro hp hU
                  have h1 := hU.l0; have h2 := hU.l1; have h3 := hU.t0; have h4 := hU.t1; have h5 := hU.ord
                  first
                    | (cases hp; done)
                    | (have := notdec_true.1 hb45; omega)
                    | (have := h5 (by omega); omega)
                    | (have := notdec_true.1 hp; omega), by
                  intro hp
                  first
                    | (cases hp; done)
                    | exact ⟨by have := notdec_false.1 hb45; omega, by have := notdec_false.1 hb45; omega, by have := notdec_false.1 hp; omega, by have := notdec_false.1 hp; omega, fun h => by omega⟩, hs⟩
            · refine .qF (i := 12) rfl (by kernel_rfl) rfl rfl ?_
              refine .qF (i := 13) rfl (by kernel_rfl) rfl rfl ?_
              refine .qF (i := 14) rfl (by kernel_rfl) rfl rfl ?_
              refine .qF (i := 15) rfl (by kernel_rfl) rfl rfl ?_
              refine .qF (i := 16) rfl (by kernel_rfl) rfl rfl ?_
              refine .qF (i := 17) rfl (by kernel_rfl) rfl rfl ?_
              refine .qF (i := 18) rfl (by kernel_rfl) rfl rfl ?_
              refine .qF (i := 19) rfl (by kernel_rfl) rfl rfl ?_
              refine .qF (i := 20) rfl (by kernel_rfl) rfl rfl ?_
              refine .qF (i := 21) rfl (by kernel_rfl) rfl rfl ?_
              refine .z 22 rfl zpF ?_; refine .z 23 rfl zpF ?_; refine .z 24 rfl zm ?_; refine .z 25 rfl (zfa fa_api_Use_1) ?_; refine .y 26 rfl hs Tryz.isAgg3 ?_
              refine .e1 (i := 27) (by kernel_rfl) rfl rfl (.some rfl rfl) hs ?_
              refine .call Tryz.call174 rfl (ref02_within_spec hs) ?_; rintro _ w ⟨rfl, hs⟩
              refine .go ?_
              refine .z 28 rfl znot ?_; refine .z 29 rfl zpF ?_; refine .done (by kernel_rfl) hs ?_
              exact nT ⟨_, by repeat (first | exact .nil rfl rfl | refine .cons rfl ?_), by
                intro hp hU
                have h1 := hU.l0; have h2 := hU.l1; have h3 := hU.t0; have h4 := hU.t1; have h5 := hU.ord
                first
                  | (cases hp; done)
                  | (have := notdec_true.1 hb45; omega)
                  | (have := h5 (by omega); omega)
                  | (have := notdec_true.1 hp; omega), by
                intro hp
                first
                  | (cases hp; done)
                  | exact ⟨by have := notdec_false.1 hb45; omega, by have := notdec_false.1 hb45; omega, by have := notdec_false.1 hp; omega, by have := notdec_false.1 hp; omega, fun h => by omega⟩, hs⟩
        · rintro fs w ⟨p, hfs, hp1, hp2, hs⟩
          refine WE.sub ?_ hfs
          refine (.cond rfl (fun hc66 => ?_) (fun hc66 => ?_))
          · refine .regSeq (.z zg (.nil ?_))
            refine .ret (rT (rB (rT (rB (rT (Fin.ret1 Tryz.results157 rfl ?_))))))
            exact ⟨_, rfl, .bad hA (fun h => hp1 hc66 (h.use k hk)), hs.out⟩
          · refine .skip ?_
            refine nT ?_
            refine .regSeq ?_
            have hUk := hp2 (by simpa using hc66)
            have hUs' : ∀ i < k + 1, UseOk s us i := fun i hi => by
              by_cases e : i = k
              · subst e; exact hUk
              · exact hUs i (by omega)
            have hTp := times_pos hUs
            have ht0 := hUk.t0; have ht1 := hUk.t1; have hl0 := hUk.l0; have hl1 := hUk.l1
            have hgl := gl_get (ls := s.lims) (i := (gu us k).l.toNat) (by omega)
            obtain ⟨⟨xa0, xa1⟩, ⟨xb0, xb1⟩, xne, xM, -⟩ := hok.lim _ (List.mem_of_getElem? hgl)
            have hbd1 := bound_bd hok hUs
            have hbd2 := bound_bd hok hUs'
            have hbs : boundTo s us (k + 1) = boundTo s us k + (gu us k).t * (ul s us k).M := rfl
            have hts : timesTo us (k + 1) = timesTo us k + (gu us k).t := rfl
            change 0 ≤ (ul s us k).A at xa0; change (ul s us k).A ≤ s.many at xa1
            change 0 ≤ (ul s us k).B at xb0; change (ul s us k).B ≤ s.many at xb1
            change (ul s us k).A ≠ (ul s us k).B at xne
            have hib := into_bd hUs (ul s us k).B.toNat
            have hia := into_bd hUs (ul s us k).A.toNat
            have hAn : (ul s us k).A.toNat < s.n := by omega
            have hBn : (ul s us k).B.toNat < s.n := by omega
            have hgA := hC2 _ hAn
            have hgB := hC2 _ hBn
            refine .z zm (.z (zfa fa_api_Use_1) (.y hs (zld Tryz.isAgg3) (.z zadd (.z zg (.nil (.seq (.regSeq (.z zm (.z zgtr ?_)))))))))
            refine .nil ?_
            refine (.condD rfl (fun hc72 => ?_) (fun hc72 => ?_))
            · refine .regSeq (.z zg (.nil ?_))
              refine .ret (rT (rB (rT (rB (rT (Fin.ret1 Tryz.results157 rfl ?_))))))
              exact ⟨_, rfl, .bad hA (fun h => by have := times_le h.use (k := k + 1) (by omega); have := h.tot; omega), hs.out⟩
            · refine .skip ?_
              refine nT ?_
              refine .regSeq (.z (zfa fa_api_System_1) (.y hs (zld Tryz.isAgg22) (.z (zfa fa_api_Use_0) (.y hs (zld Tryz.isAgg3) ?_))))
              refine .ixX (enc := Lim.c) hs hr rfl rfl Tryz.runUnderlying22 Tryz.sizeOf157 hgl (by omega) ?_; intro b77 o77 hc77
              refine .q hs (q_loadsR (vs := (ul s us k).c) rfl Tryz.isAgg157 Tryz.sizeOf157 hc77) ?_
              refine .o (.alloc hs Tryz.zeroValue157 rfl ?_); intro b13 w hs
              refine .o (.stores (vs := (ul s us k).c) hs rfl rfl Tryz.sizeOf157 ?_); intro w hs
              refine .nil ?_
              refine .seq (.draw mix rfl hs ?_); intro w hs
              refine .z 0 rfl zm ?_; refine .z 1 rfl (zfa fa_api_Limit_1) ?_; refine .y 2 rfl hs Tryz.isAgg3 ?_
              refine .p (i := 3) rfl (by kernel_rfl) .none (q_ixO (k := (ul s us k).B.toNat) rfl rfl Tryz.runUnderlying25 Tryz.sizeOf3 (by omega) hBn) ?_
              refine .y 4 rfl hs Tryz.isAgg3 ?_; refine .z 5 rfl (zfa fa_api_Use_1) ?_; refine .y 6 rfl hs Tryz.isAgg3 ?_; refine .z 7 rfl zadd ?_
              refine .p (i := 8) rfl (by kernel_rfl) .none (q_ixO (k := (ul s us k).B.toNat) rfl rfl Tryz.runUnderlying25 Tryz.sizeOf3 (by omega) hBn) ?_
              refine .e1 (i := 9) (by kernel_rfl) rfl rfl .none hs ?_
              refine .store hs rfl rfl Tryz.sizeOf3 ?_; intro w hs
              refine .go ?_
              refine .done (by kernel_rfl) hs ?_
              have hD1 : (C.set (ul s us k).B.toNat (gi C (ul s us k).B.toNat + (gu us k).t)).length = s.n := by rw [List.length_set]; exact hC1
              have hD2 : ∀ v, gi (C.set (ul s us k).B.toNat (gi C (ul s us k).B.toNat + (gu us k).t)) v = if v = (ul s us k).B.toNat then gi C (ul s us k).B.toNat + (gu us k).t else gi C v := fun v => gi_set (by omega) _ v
              generalize C.set (ul s us k).B.toNat (gi C (ul s us k).B.toNat + (gu us k).t) = D at hs hD1 hD2
              have hgD : gi D (ul s us k).A.toNat = gi C (ul s us k).A.toNat := by rw [hD2, if_neg (by omega)]
              refine .seq (.draw mix rfl hs ?_); intro w hs
              refine .z 0 rfl zm ?_; refine .z 1 rfl (zfa fa_api_Limit_0) ?_; refine .y 2 rfl hs Tryz.isAgg3 ?_
              refine .p (i := 3) rfl (by kernel_rfl) .none (q_ixO (k := (ul s us k).A.toNat) rfl rfl Tryz.runUnderlying25 Tryz.sizeOf3 (by omega) hAn) ?_
              refine .y 4 rfl hs Tryz.isAgg3 ?_; refine .z 5 rfl (zfa fa_api_Use_1) ?_; refine .y 6 rfl hs Tryz.isAgg3 ?_; refine .z 7 rfl zsub ?_
              refine .p (i := 8) rfl (by kernel_rfl) .none (q_ixO (k := (ul s us k).A.toNat) rfl rfl Tryz.runUnderlying25 Tryz.sizeOf3 (by omega) hAn) ?_
              refine .e1 (i := 9) (by kernel_rfl) rfl rfl .none hs ?_
              refine .store hs rfl rfl Tryz.sizeOf3 ?_; intro w hs
              refine .go ?_
              refine .done (by kernel_rfl) hs ?_
              refine .region (.z zm (.z (zfa fa_api_Use_1) (.y hs (zld Tryz.isAgg3) (.z (zfa fa_api_Limit_2) (.y hs (zld Tryz.isAgg3) (.z zmul (.z zadd (.z zg (.nil ?_)))))))))
              refine nB (nT ?_)
              exact .mk ⟨rfl, D.set (ul s us k).A.toNat (gi D (ul s us k).A.toNat - (gu us k).t), ⟨by rw [List.length_set]; exact hD1, fun v hv => by
                have hst : intoTo s us (k + 1) v = intoTo s us k v + (gu us k).t * (ind (ul s us k).B.toNat v - ind (ul s us k).A.toNat v) := rfl
                rw [gi_set (by omega), hst, ← hC2 v hv]
                by_cases e1 : v = (ul s us k).A.toNat
                · have i1 : ind (ul s us k).A.toNat v = 1 := by unfold ind; rw [if_pos e1.symm]
                  have i2 : ind (ul s us k).B.toNat v = 0 := by unfold ind; rw [if_neg (by omega)]
                  rw [if_pos e1, hgD, i1, i2, e1]; omega
                · have i1 : ind (ul s us k).A.toNat v = 0 := by unfold ind; rw [if_neg (by omega)]
                  rw [if_neg e1, hD2, i1]
                  by_cases e2 : v = (ul s us k).B.toNat
                  · have i2 : ind (ul s us k).B.toNat v = 1 := by unfold ind; rw [if_pos e2.symm]
                    rw [if_pos e2, i2, e2]; omega
                  · have i2 : ind (ul s us k).B.toNat v = 0 := by unfold ind; rw [if_neg (by omega)]
                    rw [if_neg e2, i2]; omega⟩, hUs', by omega, hs.sub (by repeat (first | exact Sub.refl _ | constructor | apply Sub.weaken))⟩ (hs := .cons rfl (.cons rfl (.cons rfl (.cons rfl (.consI rfl hts.symm (.consI rfl hbs.symm (by repeat (first | exact .nil rfl rfl | refine .cons rfl ?_))))))))
      · rintro fr w ⟨rfl, C, ⟨hC1, hC2⟩, hUs, hTm, hs⟩
        have hlen : us.length ≤ 400 := by omega
        refine nT ?_
        refine .seq (.regSeq (.z zg (.nil (.block ?_))))
        refine .loop (fun k : Nat => ⟨124, [], [(14, I ((k : Int) + 1)), (8, .slice (some ⟨b28, 0, none⟩) s.n s.n), (10, I (boundTo s us us.length)), (3, .pointer (some ⟨b3, 0, none⟩)), (5, .pointer (some ⟨b5, 0, none⟩)), (1, .slice aw ws.length cw)]⟩)
          (fun k w => (k + 1 ≤ s.n ∧ ∀ v, 1 ≤ v → v < k + 1 → gi C v = gi ws v) ∧ St H w (.blk b28 (Is C) :: .blk b5 [I n, .slice au us.length cu] :: .blk b3 [I s.many, .slice al s.lims.length cl] :: σ))
          (fun k => s.n - k) 0 (by repeat (first | exact .nil rfl rfl | refine .cons rfl ?_)) ⟨⟨s.n_pos, fun v h1 h2 => by omega⟩, hs⟩ ?_
        clear hs
        rintro k w ⟨⟨hk, hno⟩, hs⟩
        refine .seq (.regSeq (.z zm (.z (zfa fa_api_System_0) (.y hs (zld Tryz.isAgg3) (.z zleq (.nil ?_))))))
        refine (.condD rfl (fun hc108 => ?_) (fun hc108 => ?_))
        · refine .skip ?_
          refine nT ?_
          refine .seq (.block ?_)
          refine .seq (.draw mix rfl hs ?_); intro w hs
          have hk1 : k + 1 < s.n := by omega
          refine .z 0 rfl zm ?_; refine .z 1 rfl zm ?_
          refine .p (i := 2) rfl (by kernel_rfl) .none (q_ixO (k := k + 1) rfl rfl Tryz.runUnderlying25 Tryz.sizeOf3 (by push_cast; rfl) hk1) ?_
          refine .y 3 rfl hs Tryz.isAgg3 ?_; refine .z 4 rfl zm ?_; refine .z 5 rfl zm ?_
          refine .ixX (enc := fun x => [I x]) (i := 6) hs rfl (by kernel_rfl) .none hrw rfl rfl Tryz.runUnderlying25 Tryz.sizeOf3 (gi_get (l := ws) (i := k + 1) (by omega)) (by push_cast; rfl) ?_; intro b117 o117 hc117; replace hc117 := CellsAt.one hc117
          refine .r (i := 7) hs rfl (by kernel_rfl) .none (q_loadR rfl Tryz.isAgg3 hc117) ?_
          refine .z 8 rfl zneq ?_; refine .done (by kernel_rfl) hs ?_
          refine (.condN rfl (fun hc119 => ?_) (fun hc119 => ?_))
          · refine .regSeq (.z zg (.nil ?_))
            refine .ret (rB (rT (rT (rB (rT (Fin.ret1 Tryz.results157 rfl ?_))))))
            exact ⟨_, rfl, .bad hA (fun h => hc119 (by rw [hC2 _ hk1]; exact h.into _ (by omega) hk1)), hs.out⟩
          · refine .skip ?_
            refine nB (nT ?_)
            refine .region (.z zm (.z zadd (.z zg (.nil ?_))))
            refine nT ?_
            exact ⟨k + 1, .consI rfl (by push_cast; omega) (by repeat (first | exact .nil rfl rfl | refine .cons rfl ?_)), ⟨⟨by omega, fun v h1 h2 => by
              by_cases e : v = k + 1
              · subst e; exact hc119
              · exact hno v h1 (by omega)⟩, hs⟩, by omega⟩
        · refine .exit ?_
          refine xT (xT (xB (nT ?_)))
          refine .seq (.regSeq (.z zm (.z (zfa fa_api_Proof_0) (.y hs (zld Tryz.isAgg3) (.z zneq (.nil ?_))))))
          refine (.condN rfl (fun hc123 => ?_) (fun hc123 => ?_))
          · refine .regSeq (.z zg (.nil ?_))
            refine .ret (rT (Fin.ret1 Tryz.results157 rfl ?_))
            exact ⟨_, rfl, .bad hA (fun h => hc123 h.bound), hs.out⟩
          · refine .skip ?_
            refine nT ?_
            refine .regSeq (.z zg (.nil ?_))
            refine .ret (Fin.ret1 Tryz.results157 rfl ?_)
            exact ⟨_, rfl, .ok hA ⟨hlen, hUs, hTm, fun v h1 h2 => by rw [← hC2 v h2]; exact hno v h1 (by omega), by simpa using hc123⟩, hs.out⟩
end Go.Proofs.YtiiokdeehlfeeaaGreat

namespace Go.Proofs.YtiiokdeehlfeeaaGreat
open Go.MW
theorem slices_Equal_int {H : Heap} {w : World} {σ : List Ent} {va vb : Value} {A B : List Int} (hs : St H w σ) (hA : RI H va A) (hB : RI H vb B) :
    Cl Tryz.prog 91 [va, vb] w fun v w' => v = .bool (decide (A = B)) ∧ St H w' σ := by
  obtain ⟨aA, cA, rfl⟩ := RI.shape hA
  obtain ⟨aB, cB, rfl⟩ := RI.shape hB
  have hlA := (RI.len hA).2.2
  have hlB := (RI.len hB).2.2
  refine Cl.of Tryz.func91 rfl Tryz.ntmps91 (by simp) (args_cons (k := 0) rfl (args_cons (k := 1) rfl (args0))) ?_
  refine .regSeq (.z zg (.nil (.seq (.regSeq (.z zm (.z (zlen Tryz.runUnderlying25) (.z zm (.z (zlen Tryz.runUnderlying25) (.z zneq ?_)))))))))
  refine .nil ?_
  refine (.condN rfl (fun hc10 => ?_) (fun hc10 => ?_))
  · refine .regSeq (.z zg (.nil ?_))
    refine .ret (rT (Fin.ret1 Tryz.results91 rfl ?_))
    exact ⟨by rw [decide_eq_false (by intro h; subst h; exact hc10 rfl)], hs⟩
  · refine .skip ?_
    refine nT ?_
    refine .seq (.regSeq (.z zm (.z (zlen Tryz.runUnderlying25) (.z zm (.nil ?_)))))
    refine .for (N := A.length) (J := fun k fr w => fr = [(0, .slice aA A.length cA), (1, .slice aB B.length cB)] ∧ (∀ j < k, A[j]? = B[j]?) ∧ St H w σ) (by omega) ?_ ?_ ?_
    · exact .mk ⟨rfl, fun j h => by omega, hs⟩
    · rintro k fr w hk ⟨rfl, h0, hs⟩
      obtain ⟨xA, hxA⟩ := nth hk
      obtain ⟨xB, hxB⟩ := nth (l := B) (k := k) (by omega)
      refine .block (.regSeq (.z zm (.z zg (.nil ?_))))
      refine .seq (.draw mix rfl hs ?_); intro w hs
      refine .z 0 rfl zm ?_; refine .z 1 rfl zm ?_
      refine .ixX (enc := fun x => [I x]) (i := 2) hs rfl (by kernel_rfl) .none hA rfl rfl Tryz.runUnderlying25 Tryz.sizeOf3 hxA rfl ?_; intro b18 o18 hc18; replace hc18 := CellsAt.one hc18
      refine .r (i := 3) hs rfl (by kernel_rfl) .none (q_loadR rfl Tryz.isAgg3 hc18) ?_
      refine .z 4 rfl zm ?_; refine .z 5 rfl zm ?_
      refine .ixX (enc := fun x => [I x]) (i := 6) hs rfl (by kernel_rfl) .none hB rfl rfl Tryz.runUnderlying25 Tryz.sizeOf3 hxB rfl ?_; intro b22 o22 hc22; replace hc22 := CellsAt.one hc22
      refine .r (i := 7) hs rfl (by kernel_rfl) .none (q_loadR rfl Tryz.isAgg3 hc22) ?_
      refine .z 8 rfl zneq ?_; refine .done (by kernel_rfl) hs ?_
      refine (.condN rfl (fun hc24 => ?_) (fun hc24 => ?_))
      · refine .regSeq (.z zg (.nil ?_))
        refine .ret (rB (rT (rB (rT (Fin.ret1 Tryz.results91 rfl ?_)))))
        exact ⟨by rw [decide_eq_false (by intro h; subst h; rw [hxA] at hxB; cases hxB; exact hc24 rfl)], hs⟩
      · refine .skip ?_
        refine nB (nT ?_)
        exact .mk ⟨rfl, fun j hj => by
          by_cases e : j = k
          · subst e; rw [hxA, hxB, hc24]
          · exact h0 j (by omega), hs⟩
    · rintro fr w ⟨rfl, h0, hs⟩
      refine nT ?_
      refine .regSeq (.z zg (.nil ?_))
      refine .ret (Fin.ret1 Tryz.results91 rfl ?_)
      exact ⟨by rw [decide_eq_true (List.ext_getElem? fun j => by
        by_cases e : j < A.length
        · exact h0 j e
        · rw [List.getElem?_eq_none (by omega), List.getElem?_eq_none (by omega)])], hs⟩
set_option maxHeartbeats 8000000 in
theorem bound_isProof_spec {H : Heap} {w : World} {σ : List Ent} {v vw vp : Value} {s : Syst} {ws : List Int} {n : Int} {us : List Use} (hs : St H w σ) (hr : RSy H v s) (hrw : RI H vw ws) (hp : RPf H vp n us) (hA : askErr s ws = 0) :
    Cl Tryz.prog 159 [v, vw, vp] w fun v w' => ∃ H1 b, HLe H H1 ∧ v = .bool b ∧ (b = true ↔ ProofOk s ws n us) ∧ St H1 w' σ := by
  obtain ⟨u, rfl, hr⟩ := hr
  obtain ⟨al, cl, rfl⟩ := RL.shape hr
  obtain ⟨aw, cw, rfl⟩ := RI.shape hrw
  obtain ⟨uu, rfl, hU⟩ := hp
  obtain ⟨au, cu, rfl⟩ := RU.shape hU
  obtain ⟨hok, hwl, hz⟩ := askErr_ok hA
  have hm0 := hok.m0
  have hn65 := hok.n65
  have hll := hok.len
  have hmn : s.many + 1 = (s.n : Int) := by simp only [Syst.n]; omega
  refine Cl.of Tryz.func159 rfl Tryz.ntmps159 (by simp) (args_cons (k := 0) rfl (args_cons (k := 1) rfl (args_cons (k := 2) rfl (args0)))) ?_
  refine .regSeq ?_
  refine .o (.box hs rfl rfl ?_); intro b3 w hs
  refine .o (.box hs rfl rfl ?_); intro b5 w hs
  refine .z zg (.nil (.seq (.regSeq (.z (zfa fa_api_Proof_1) (.y hs (zld Tryz.isAgg61) (.z (zlen Tryz.runUnderlying61) (.z zgtr (.nil ?_))))))))
  refine (.condD rfl (fun hc16 => ?_) (fun hc16 => ?_))
  · refine .regSeq (.z zg (.nil ?_))
    refine .ret (rT (Fin.ret1 Tryz.results159 rfl ?_))
    exact ⟨H, false, HLe.refl H, rfl, ⟨fun h => (by cases h), fun h => by have := h.len; omega⟩, hs.out⟩
  · refine .skip ?_
    refine nT ?_
    refine .regSeq (.z (zfa fa_api_System_0) (.y hs (zld Tryz.isAgg3) (.z zadd ?_)))
    rw [hmn]
    refine .o (.makeI s.n hs rfl rfl Tryz.runUnderlying25 Tryz.typeInfo3 rfl Tryz.sizeOf3 Tryz.zeroValue3 (by omega) ?_); intro b20 w hs
    refine .z zg (.nil (.regSeq (.z zg (.z zg (.nil (.seq (.regSeq (.z (zfa fa_api_Proof_1) (.y hs (zld Tryz.isAgg61) ?_)))))))))
    refine .z (zlen Tryz.runUnderlying61) (.z zm (.nil ?_))
    refine .for (N := us.length) (J := fun k fr w => fr = [(22, .slice au us.length cu), (7, .slice (some ⟨b20, 0, none⟩) s.n s.n), (8, I (timesTo us k)), (9, I (IntKind.i64.wrap (boundTo s us k))), (3, .pointer (some ⟨b3, 0, none⟩)), (5, .pointer (some ⟨b5, 0, none⟩)), (1, .slice aw ws.length cw)] ∧ ∃ C, (C.length = s.n ∧ ∀ v < s.n, gi C v = intoTo s us k v) ∧ (∀ i < k, UseOk s us i) ∧ timesTo us k ≤ 3600000000000 * k ∧ St H w (.blk b20 (Is C) :: .blk b5 [I n, .slice au us.length cu] :: .blk b3 [I s.many, .slice al s.lims.length cl] :: σ)) (by omega) ?_ ?_ ?_
    · exact .mk ⟨rfl, _, ⟨by simp, fun v hv => by rw [gi_replicate _ _ hv]; rfl⟩, fun i hi => by omega, by simp [timesTo, sumTo], hs⟩ (hs := .cons rfl (.cons rfl (.cons rfl (.cons rfl (.cons rfl (.consI rfl (by simp [boundTo, sumTo, i64wrap_eq]) (by repeat (first | exact .nil rfl rfl | refine .cons rfl ?_))))))))
    · rintro k fr w hk ⟨rfl, C, ⟨hC1, hC2⟩, hUs, hTm, hs⟩
      have hx := gu_get hk
      have hu400 : us.length ≤ 400 := by omega
      refine .block (.regSeq (.z zm ?_))
      refine .ixX (enc := Use.c) hs hU rfl rfl Tryz.runUnderlying61 Tryz.sizeOf208 hx rfl ?_; intro b27 o27 hc27
      refine .q hs (q_loadsR (vs := (gu us k).c) rfl Tryz.isAgg208 Tryz.sizeOf208 hc27) ?_
      refine .o (.alloc hs Tryz.zeroValue208 rfl ?_); intro b11 w hs
      refine .z zg ?_
      refine .o (.stores (vs := (gu us k).c) hs rfl rfl Tryz.sizeOf208 ?_); intro w hs
      refine .nil (.seq ?_)
      refine .cut (fun fs w => ∃ p, FSub fs ⟨110, [], [(58, .bool p), (11, .pointer (some ⟨b11, 0, none⟩)), (24, I (k : Int)), (23, I (us.length : Int)), (22, .slice au us.length cu), (7, .slice (some ⟨b20, 0, none⟩) s.n s.n), (8, I (timesTo us k)), (9, I (IntKind.i64.wrap (boundTo s us k))), (3, .pointer (some ⟨b3, 0, none⟩)), (5, .pointer (some ⟨b5, 0, none⟩)), (1, .slice aw ws.length cw)]⟩ ∧ (p = true → ¬ UseOk s us k) ∧ (p = false → UseOk s us k) ∧ St H w (.blk b11 (gu us k).c :: .blk b20 (Is C) :: .blk b5 [I n, .slice au us.length cu] :: .blk b3 [I s.many, .slice al s.lims.length cl] :: σ)) ?_ ?_
      · refine .draw mix rfl hs ?_; intro w hs
        refine .z 0 rfl (zfa fa_api_Use_0) ?_; refine .y 1 rfl hs Tryz.isAgg3 ?_; refine .z 2 rfl (zfa fa_api_System_1) ?_; refine .y 3 rfl hs Tryz.isAgg22 ?_; refine .z 4 rfl (zlen Tryz.runUnderlying22) ?_; refine .z 5 rfl zsub ?_
        refine .e1 (i := 6) (by kernel_rfl) rfl rfl .none hs ?_
        refine .call Tryz.call167 rfl (bound_within_spec hs) ?_; rintro _ w ⟨rfl, hs⟩
        refine .go ?_
        refine .z 7 rfl znot ?_; refine .z 8 rfl zm ?_
        refine .bif (t' := 37) rfl (fun hb37 => ?_) (fun hb37 => ?_)
        · refine .qF (i := 9) rfl (by kernel_rfl) rfl rfl ?_
          refine .qF (i := 10) rfl (by kernel_rfl) rfl rfl ?_
          refine .qF (i := 11) rfl (by kernel_rfl) rfl rfl ?_
          refine .qF (i := 12) rfl (by kernel_rfl) rfl rfl ?_
          refine .z 13 rfl zpT ?_; refine .z 14 rfl zm ?_
          refine .qF (i := 15) rfl (by kernel_rfl) rfl rfl ?_
          refine .qF (i := 16) rfl (by kernel_rfl) rfl rfl ?_
          refine .qF (i := 17) rfl (by kernel_rfl) rfl rfl ?_
          refine .qF (i := 18) rfl (by kernel_rfl) rfl rfl ?_
          refine .qF (i := 19) rfl (by kernel_rfl) rfl rfl ?_
          refine .qF (i := 20) rfl (by kernel_rfl) rfl rfl ?_
          refine .qF (i := 21) rfl (by kernel_rfl) rfl rfl ?_
          refine .qF (i := 22) rfl (by kernel_rfl) rfl rfl ?_
          refine .qF (i := 23) rfl (by kernel_rfl) rfl rfl ?_
          refine .qF (i := 24) rfl (by kernel_rfl) rfl rfl ?_
          refine .qF (i := 25) rfl (by kernel_rfl) rfl rfl ?_
          refine .qF (i := 26) rfl (by kernel_rfl) rfl rfl ?_
          refine .qF (i := 27) rfl (by kernel_rfl) rfl rfl ?_
          refine .qF (i := 28) rfl (by kernel_rfl) rfl rfl ?_
          refine .z 29 rfl zpT ?_; refine .done (by kernel_rfl) hs ?_
          exact nT ⟨_, by repeat (first | exact .nil rfl rfl | refine .cons rfl ?_), by
            intro hp hU
            have h1 := hU.l0; have h2 := hU.l1; have h3 := hU.t0; have h4 := hU.t1; have h5 := hU.ord
            first
              | (cases hp; done)
              | (have := notdec_true.1 hb37; omega)
              | (have := notdec_true.1 hb43; omega)
              | (have := of_decide_eq_true hp; have := h5 (by omega); omega), by
            intro hp
            first
              | (cases hp; done)
              | exact ⟨by have := notdec_false.1 hb37; omega, by have := notdec_false.1 hb37; omega, by have := notdec_false.1 hb43; omega, by have := notdec_false.1 hb43; omega, fun h => by first | omega | (have := of_decide_eq_false hp; omega)⟩, hs⟩
        · refine .z 9 rfl (zfa fa_api_Use_1) ?_; refine .y 10 rfl hs Tryz.isAgg3 ?_
          refine .e1 (i := 11) (by kernel_rfl) rfl rfl (.some rfl rfl) hs ?_
          refine .call Tryz.call167 rfl (bound_within_spec hs) ?_; rintro _ w ⟨rfl, hs⟩
          refine .go ?_
          refine .z 12 rfl znot ?_; refine .z 13 rfl zpF ?_; refine .z 14 rfl zm ?_
          refine .bif (t' := 43) rfl (fun hb43 => ?_) (fun hb43 => ?_)
          · refine .qF (i := 15) rfl (by kernel_rfl) rfl rfl ?_
            refine .qF (i := 16) rfl (by kernel_rfl) rfl rfl ?_
            refine .qF (i := 17) rfl (by kernel_rfl) rfl rfl ?_
            refine .qF (i := 18) rfl (by kernel_rfl) rfl rfl ?_
            refine .qF (i := 19) rfl (by kernel_rfl) rfl rfl ?_
            refine .qF (i := 20) rfl (by kernel_rfl) rfl rfl ?_
            refine .qF (i := 21) rfl (by kernel_rfl) rfl rfl ?_
            refine .qF (i := 22) rfl (by kernel_rfl) rfl rfl ?_
            refine .qF (i := 23) rfl (by kernel_rfl) rfl rfl ?_
            refine .qF (i := 24) rfl (by kernel_rfl) rfl rfl ?_
            refine .qF (i := 25) rfl (by kernel_rfl) rfl rfl ?_
            refine .qF (i := 26) rfl (by kernel_rfl) rfl rfl ?_
            refine .qF (i := 27) rfl (by kernel_rfl) rfl rfl ?_
            refine .qF (i := 28) rfl (by kernel_rfl) rfl rfl ?_
            refine .z 29 rfl zpT ?_; refine .done (by kernel_rfl) hs ?_
            exact nT ⟨_, by repeat (first | exact .nil rfl rfl | refine .cons rfl ?_), by
              intro hp hU
              have h1 := hU.l0; have h2 := hU.l1; have h3 := hU.t0; have h4 := hU.t1; have h5 := hU.ord
              first
                | (cases hp; done)
                | (have := notdec_true.1 hb37; omega)
                | (have := notdec_true.1 hb43; omega)
                | (have := of_decide_eq_true hp; have := h5 (by omega); omega), by
              intro hp
              first
                | (cases hp; done)
                | exact ⟨by have := notdec_false.1 hb37; omega, by have := notdec_false.1 hb37; omega, by have := notdec_false.1 hb43; omega, by have := notdec_false.1 hb43; omega, fun h => by first | omega | (have := of_decide_eq_false hp; omega)⟩, hs⟩
          · refine .z 15 rfl zm ?_; refine .z 16 rfl zgtr ?_; refine .z 17 rfl zm ?_
            refine .bifD (t' := 46) rfl (fun hb46 => ?_) (fun hb46 => ?_)
            · refine .z 18 rfl (zfa fa_api_Proof_1) ?_; refine .y 19 rfl hs Tryz.isAgg61 ?_; refine .z 20 rfl zm ?_; refine .z 21 rfl zsub ?_
              refine .ixX (enc := Use.c) (i := 22) hs rfl (by kernel_rfl) (.some rfl rfl) hU rfl rfl Tryz.runUnderlying61 Tryz.sizeOf208 (gu_get (i := k - 1) (by omega)) (by omega) ?_; intro b51 o51 hc51
              refine .z 23 rfl (zfa fa_api_Use_0) ?_
              refine .r (i := 24) hs rfl (by kernel_rfl) (.some rfl rfl) (q_loadR rfl Tryz.isAgg3 (hc51.get 0 rfl)) ?_
              refine .z 25 rfl (zfa fa_api_Use_0) ?_; refine .y 26 rfl hs Tryz.isAgg3 ?_; refine .z 27 rfl zgeq ?_; refine .z 28 rfl zpT ?_; refine .z 29 rfl zpF ?_; refine .done (by kernel_rfl) hs ?_
              exact nT ⟨_, by repeat (first | exact .nil rfl rfl | refine .cons rfl ?_), by
                intro hp hU
                have h1 := hU.l0; have h2 := hU.l1; have h3 := hU.t0; have h4 := hU.t1; have h5 := hU.ord
                first
                  | (cases hp; done)
                  | (have := notdec_true.1 hb37; omega)
                  | (have := notdec_true.1 hb43; omega)
                  | (have := of_decide_eq_true hp; have := h5 (by omega); omega), by
                intro hp
                first
                  | (cases hp; done)
                  | exact ⟨by have := notdec_false.1 hb37; omega, by have := notdec_false.1 hb37; omega, by have := notdec_false.1 hb43; omega, by have := notdec_false.1 hb43; omega, fun h => by first | omega | (have := of_decide_eq_false hp; omega)⟩, hs⟩
            · refine .qF (i := 18) rfl (by kernel_rfl) rfl rfl ?_
              refine .qF (i := 19) rfl (by kernel_rfl) rfl rfl ?_
              refine .qF (i := 20) rfl (by kernel_rfl) rfl rfl ?_
              refine .qF (i := 21) rfl (by kernel_rfl) rfl rfl ?_
              refine .qF (i := 22) rfl (by kernel_rfl) rfl rfl ?_
              refine .qF (i := 23) rfl (by kernel_rfl) rfl rfl ?_
              refine .qF (i := 24) rfl (by kernel_rfl) rfl rfl ?_
              refine .qF (i := 25) rfl (by kernel_rfl) rfl rfl ?_
              refine .qF (i := 26) rfl (by kernel_rfl) rfl rfl ?_
              refine .qF (i := 27) rfl (by kernel_rfl) rfl rfl ?_
              refine .z 28 rfl zpF ?_; refine .z 29 rfl zpF ?_; refine .done (by kernel_rfl) hs ?_
              exact nT ⟨_, by repeat (first | exact .nil rfl rfl | refine .cons rfl ?_), by
                intro hp hU
                have h1 := hU.l0; have h2 := hU.l1; have h3 := hU.t0; have h4 := hU.t1; have h5 := hU.ord
                first
                  | (cases hp; done)
                  | (have := notdec_true.1 hb37; omega)
                  | (have := notdec_true.1 hb43; omega)
                  | (have := of_decide_eq_true hp; have := h5 (by omega); omega), by
                intro hp
                first
                  | (cases hp; done)
                  | exact ⟨by have := notdec_false.1 hb37; omega, by have := notdec_false.1 hb37; omega, by have := notdec_false.1 hb43; omega, by have := notdec_false.1 hb43; omega, fun h => by first | omega | (have := of_decide_eq_false hp; omega)⟩, hs⟩
      · rintro fs w ⟨p, hfs, hp1, hp2, hs⟩
        refine WE.sub ?_ hfs
        refine (.cond rfl (fun hc58 => ?_) (fun hc58 => ?_))
        · refine .regSeq (.z zg (.nil ?_))
          refine .ret (rT (rB (rT (rB (rT (Fin.ret1 Tryz.results159 rfl ?_))))))
          exact ⟨H, false, HLe.refl H, rfl, ⟨fun h => (by cases h), fun h => (hp1 hc58 (h.use k hk)).elim⟩, hs.out⟩
        · refine .skip ?_
          refine nT ?_
          refine .regSeq ?_
          have hUk := hp2 (by simpa using hc58)
          have hUs' : ∀ i < k + 1, UseOk s us i := fun i hi => by
            by_cases e : i = k
            · subst e; exact hUk
            · exact hUs i (by omega)
          have hTp := times_pos hUs
          have ht0 := hUk.t0; have ht1 := hUk.t1; have hl0 := hUk.l0; have hl1 := hUk.l1
          have hgl := gl_get (ls := s.lims) (i := (gu us k).l.toNat) (by omega)
          obtain ⟨⟨xa0, xa1⟩, ⟨xb0, xb1⟩, xne, xM, -⟩ := hok.lim _ (List.mem_of_getElem? hgl)
          have hbs : boundTo s us (k + 1) = boundTo s us k + (gu us k).t * (ul s us k).M := rfl
          have hts : timesTo us (k + 1) = timesTo us k + (gu us k).t := rfl
          change 0 ≤ (ul s us k).A at xa0; change (ul s us k).A ≤ s.many at xa1
          change 0 ≤ (ul s us k).B at xb0; change (ul s us k).B ≤ s.many at xb1
          change (ul s us k).A ≠ (ul s us k).B at xne
          change -20000 ≤ (ul s us k).M ∧ (ul s us k).M ≤ 20000 at xM
          have hm1 : (gu us k).t * -20000 ≤ (gu us k).t * (ul s us k).M := Int.mul_le_mul_of_nonneg_left xM.1 (by omega)
          have hm2 : (gu us k).t * (ul s us k).M ≤ (gu us k).t * 20000 := Int.mul_le_mul_of_nonneg_left xM.2 (by omega)
          have hib := into_bd hUs (ul s us k).B.toNat
          have hia := into_bd hUs (ul s us k).A.toNat
          have hAn : (ul s us k).A.toNat < s.n := by omega
          have hBn : (ul s us k).B.toNat < s.n := by omega
          have hgA := hC2 _ hAn
          have hgB := hC2 _ hBn
          refine .z (zfa fa_api_System_1) (.y hs (zld Tryz.isAgg22) (.z (zfa fa_api_Use_0) (.y hs (zld Tryz.isAgg3) ?_)))
          refine .ixX (enc := Lim.c) hs hr rfl rfl Tryz.runUnderlying22 Tryz.sizeOf157 hgl (by omega) ?_; intro b63 o63 hc63
          refine .q hs (q_loadsR (vs := (ul s us k).c) rfl Tryz.isAgg157 Tryz.sizeOf157 hc63) ?_
          refine .o (.alloc hs Tryz.zeroValue157 rfl ?_); intro b12 w hs
          refine .o (.stores (vs := (ul s us k).c) hs rfl rfl Tryz.sizeOf157 ?_); intro w hs
          refine .nil ?_
          refine .seq (.draw mix rfl hs ?_); intro w hs
          refine .z 0 rfl zm ?_; refine .z 1 rfl (zfa fa_api_Limit_1) ?_; refine .y 2 rfl hs Tryz.isAgg3 ?_
          refine .p (i := 3) rfl (by kernel_rfl) .none (q_ixO (k := (ul s us k).B.toNat) rfl rfl Tryz.runUnderlying25 Tryz.sizeOf3 (by omega) hBn) ?_
          refine .y 4 rfl hs Tryz.isAgg3 ?_; refine .z 5 rfl (zfa fa_api_Use_1) ?_; refine .y 6 rfl hs Tryz.isAgg3 ?_; refine .z 7 rfl zadd ?_
          refine .p (i := 8) rfl (by kernel_rfl) .none (q_ixO (k := (ul s us k).B.toNat) rfl rfl Tryz.runUnderlying25 Tryz.sizeOf3 (by omega) hBn) ?_
          refine .e1 (i := 9) (by kernel_rfl) rfl rfl .none hs ?_
          refine .store hs rfl rfl Tryz.sizeOf3 ?_; intro w hs
          refine .go ?_
          refine .done (by kernel_rfl) hs ?_
          have hD1 : (C.set (ul s us k).B.toNat (gi C (ul s us k).B.toNat + (gu us k).t)).length = s.n := by rw [List.length_set]; exact hC1
          have hD2 : ∀ v, gi (C.set (ul s us k).B.toNat (gi C (ul s us k).B.toNat + (gu us k).t)) v = if v = (ul s us k).B.toNat then gi C (ul s us k).B.toNat + (gu us k).t else gi C v := fun v => gi_set (by omega) _ v
          generalize C.set (ul s us k).B.toNat (gi C (ul s us k).B.toNat + (gu us k).t) = D at hs hD1 hD2
          have hgD : gi D (ul s us k).A.toNat = gi C (ul s us k).A.toNat := by rw [hD2, if_neg (by omega)]
          refine .seq (.draw mix rfl hs ?_); intro w hs
          refine .z 0 rfl zm ?_; refine .z 1 rfl (zfa fa_api_Limit_0) ?_; refine .y 2 rfl hs Tryz.isAgg3 ?_
          refine .p (i := 3) rfl (by kernel_rfl) .none (q_ixO (k := (ul s us k).A.toNat) rfl rfl Tryz.runUnderlying25 Tryz.sizeOf3 (by omega) hAn) ?_
          refine .y 4 rfl hs Tryz.isAgg3 ?_; refine .z 5 rfl (zfa fa_api_Use_1) ?_; refine .y 6 rfl hs Tryz.isAgg3 ?_; refine .z 7 rfl zsub ?_
          refine .p (i := 8) rfl (by kernel_rfl) .none (q_ixO (k := (ul s us k).A.toNat) rfl rfl Tryz.runUnderlying25 Tryz.sizeOf3 (by omega) hAn) ?_
          refine .e1 (i := 9) (by kernel_rfl) rfl rfl .none hs ?_
          refine .store hs rfl rfl Tryz.sizeOf3 ?_; intro w hs
          refine .go ?_
          refine .done (by kernel_rfl) hs ?_
          refine .regSeq (.z zm (.z (zfa fa_api_Use_1) (.y hs (zld Tryz.isAgg3) (.z zadd (.z zg (.nil (.region (.z zm (.z (zfa fa_api_Use_1) ?_)))))))))
          refine .y hs (zld Tryz.isAgg3) (.z (zfa fa_api_Limit_2) (.y hs (zld Tryz.isAgg3) (.z zmul ?_)))
          refine .q hs (q_add rfl rfl) ?_
          rw [i64wrap_add]
          refine .z zg (.nil ?_)
          refine nB (nT ?_)
          exact .mk ⟨rfl, D.set (ul s us k).A.toNat (gi D (ul s us k).A.toNat - (gu us k).t), ⟨by rw [List.length_set]; exact hD1, fun v hv => by
            have hst : intoTo s us (k + 1) v = intoTo s us k v + (gu us k).t * (ind (ul s us k).B.toNat v - ind (ul s us k).A.toNat v) := rfl
            rw [gi_set (by omega), hst, ← hC2 v hv]
            by_cases e1 : v = (ul s us k).A.toNat
            · have i1 : ind (ul s us k).A.toNat v = 1 := by unfold ind; rw [if_pos e1.symm]
              have i2 : ind (ul s us k).B.toNat v = 0 := by unfold ind; rw [if_neg (by omega)]
              rw [if_pos e1, hgD, i1, i2, e1]; omega
            · have i1 : ind (ul s us k).A.toNat v = 0 := by unfold ind; rw [if_neg (by omega)]
              rw [if_neg e1, hD2, i1]
              by_cases e2 : v = (ul s us k).B.toNat
              · have i2 : ind (ul s us k).B.toNat v = 1 := by unfold ind; rw [if_pos e2.symm]
                rw [if_pos e2, i2, e2]; omega
              · have i2 : ind (ul s us k).B.toNat v = 0 := by unfold ind; rw [if_neg (by omega)]
                rw [if_neg e2, i2]; omega⟩, hUs', by omega, hs.sub (by repeat (first | exact Sub.refl _ | constructor | apply Sub.weaken))⟩ (hs := .cons rfl (.cons rfl (.cons rfl (.cons rfl (.consI rfl hts.symm (.consI rfl (by rw [hbs]) (by repeat (first | exact .nil rfl rfl | refine .cons rfl ?_))))))))
    · rintro fr w ⟨rfl, C, ⟨hC1, hC2⟩, hUs, hTm, hs⟩
      have hlen : us.length ≤ 400 := by omega
      obtain ⟨H1, hle1, hRow, hs⟩ := hs.publish (b := b20) (c := Is C) .here
      have hRC : RI H1 (.slice (some ⟨b20, 0, none⟩) s.n s.n) C := by
        have := Row.RI (xs := C) (spare := []) (by simpa using hRow) s.n (by omega) (by omega)
        rwa [hC1] at this
      have hRT := RI.tail hRC (k := 1) (by have := s.n_pos; omega)
      have hWT := RI.tail (hrw.mono hle1) (k := 1) (by have := s.n_pos; omega)
      have hbd := bound_bd hok hUs
      have heq : C.drop 1 = ws.drop 1 ↔ ∀ v, 1 ≤ v → v < s.n → intoTo s us us.length v = gi ws v := by
        constructor
        · intro h v h1 h2
          rw [← hC2 v h2]
          have := congrArg (fun l => gi l (v - 1)) h
          simpa [gi, List.getD, show 1 + (v - 1) = v by omega, show v - 1 + 1 = v by omega] using this
        · intro h
          refine ext_gi' (by simp [hC1, hwl]) fun k hk => ?_
          have hk' : k + 1 < s.n := by simp at hk; omega
          have := h (k + 1) (by omega) hk'
          rw [← hC2 _ hk'] at this
          simpa [gi, List.getD, Nat.add_comm] using this
      refine nT ?_
      refine .seq (.draw mix rfl hs ?_); intro w hs
      refine .z 0 rfl zm ?_; refine .z 1 rfl zleq ?_; refine .z 2 rfl zm ?_
      refine .bifD (t' := 97) rfl (fun hb97 => ?_) (fun hb97 => ?_)
      · refine .z 3 rfl zm ?_
        refine .p (i := 4) rfl (by kernel_rfl) (.some rfl rfl) (q_sliceLX (k := 1) rfl rfl Tryz.runUnderlying25 Tryz.sizeOf3 rfl (by have := s.n_pos; omega)) ?_
        refine .z 5 rfl zm ?_
        refine .p (i := 6) rfl (by kernel_rfl) (.some rfl rfl) (q_sliceLX (k := 1) rfl rfl Tryz.runUnderlying25 Tryz.sizeOf3 rfl (by have := s.n_pos; omega)) ?_
        refine .e1 (i := 7) (by kernel_rfl) rfl rfl (.some rfl rfl) hs ?_
        refine .call Tryz.call91 rfl (slices_Equal_int hs hRT hWT) ?_; rintro _ w ⟨rfl, hs⟩
        refine .go ?_
        refine .z 8 rfl zpT ?_; refine .z 9 rfl zm ?_
        refine .bif (t' := 104) rfl (fun hb104 => ?_) (fun hb104 => ?_)
        · refine .z 10 rfl zm ?_; refine .z 11 rfl (zfa fa_api_Proof_0) ?_; refine .y 12 rfl hs Tryz.isAgg3 ?_; refine .z 13 rfl zeql ?_; refine .z 14 rfl zpT ?_; refine .z 15 rfl zg ?_; refine .done (by kernel_rfl) hs ?_
          refine .ret (Fin.ret1 Tryz.results159 rfl ?_)
          exact ⟨H1, _, hle1, rfl, by
            first
              | exact ⟨fun h => (by cases h), fun h => (hb97 h.tot).elim⟩
              | exact ⟨fun h => (by cases h), fun h => by have := heq.2 h.into; simp_all⟩
              | (rw [i64wrap (by omega)]
                 have he : C.drop 1 = ws.drop 1 := by simpa using hb104
                 exact ⟨fun h => ⟨hlen, hUs, hb97, heq.1 he, of_decide_eq_true h⟩, fun h => decide_eq_true h.bound⟩), hs.out⟩
        · refine .qF (i := 10) rfl (by kernel_rfl) rfl rfl ?_
          refine .qF (i := 11) rfl (by kernel_rfl) rfl rfl ?_
          refine .qF (i := 12) rfl (by kernel_rfl) rfl rfl ?_
          refine .qF (i := 13) rfl (by kernel_rfl) rfl rfl ?_
          refine .z 14 rfl zpF ?_; refine .z 15 rfl zg ?_; refine .done (by kernel_rfl) hs ?_
          refine .ret (Fin.ret1 Tryz.results159 rfl ?_)
          exact ⟨H1, _, hle1, rfl, by
            first
              | exact ⟨fun h => (by cases h), fun h => (hb97 h.tot).elim⟩
              | exact ⟨fun h => (by cases h), fun h => by have := heq.2 h.into; simp_all⟩
              | (rw [i64wrap (by omega)]
                 have he : C.drop 1 = ws.drop 1 := by simpa using hb104
                 exact ⟨fun h => ⟨hlen, hUs, hb97, heq.1 he, of_decide_eq_true h⟩, fun h => decide_eq_true h.bound⟩), hs.out⟩
      · refine .qF (i := 3) rfl (by kernel_rfl) rfl rfl ?_
        refine .qF (i := 4) rfl (by kernel_rfl) rfl rfl ?_
        refine .qF (i := 5) rfl (by kernel_rfl) rfl rfl ?_
        refine .qF (i := 6) rfl (by kernel_rfl) rfl rfl ?_
        refine .qF (i := 7) rfl (by kernel_rfl) rfl rfl ?_
        refine .z 8 rfl zpF ?_; refine .z 9 rfl zm ?_
        refine .qF (i := 10) rfl (by kernel_rfl) rfl rfl ?_
        refine .qF (i := 11) rfl (by kernel_rfl) rfl rfl ?_
        refine .qF (i := 12) rfl (by kernel_rfl) rfl rfl ?_
        refine .qF (i := 13) rfl (by kernel_rfl) rfl rfl ?_
        refine .z 14 rfl zpF ?_; refine .z 15 rfl zg ?_; refine .done (by kernel_rfl) hs ?_
        refine .ret (Fin.ret1 Tryz.results159 rfl ?_)
        exact ⟨H1, _, hle1, rfl, by
          first
            | exact ⟨fun h => (by cases h), fun h => (hb97 h.tot).elim⟩
            | exact ⟨fun h => (by cases h), fun h => by have := heq.2 h.into; simp_all⟩
            | (rw [i64wrap (by omega)]
               have he : C.drop 1 = ws.drop 1 := by simpa using hb104
               exact ⟨fun h => ⟨hlen, hUs, hb97, heq.1 he, of_decide_eq_true h⟩, fun h => decide_eq_true h.bound⟩), hs.out⟩
theorem bound_CheckProof_spec {H : Heap} {w : World} {σ : List Ent} {v vw vp : Value} {s : Syst} {ws : List Int} {n : Int} {us : List Use} (hs : St H w σ) (hr : RSy H v s) (hrw : RI H vw ws) (hp : RPf H vp n us) :
    Cl Tryz.prog 98 [v, vw, vp] w fun v w' => ∃ H1 e, HLe H H1 ∧ v = I e ∧ ProofR s ws n us e ∧ St H1 w' σ := by
  obtain ⟨u, rfl, hr⟩ := hr
  obtain ⟨al, cl, rfl⟩ := RL.shape hr
  obtain ⟨aw, cw, rfl⟩ := RI.shape hrw
  obtain ⟨uu, rfl, hU⟩ := hp
  obtain ⟨au, cu, rfl⟩ := RU.shape hU
  refine Cl.of Tryz.func98 rfl Tryz.ntmps98 (by simp) (args_cons (k := 0) rfl (args_cons (k := 1) rfl (args_cons (k := 2) rfl (args0)))) ?_
  refine .regSeq ?_
  refine .o (.box hs rfl rfl ?_); intro b3 w hs
  refine .o (.box hs rfl rfl ?_); intro b5 w hs
  refine .z zg (.nil (.seq (.regSeq (.y hs (zls [_, _] Tryz.isAgg24 Tryz.sizeOf24) (.z zm ?_)))))
  refine .o (.call Tryz.call158 rfl (bound_checkWeights_spec (s := s) hs ⟨_, rfl, hr⟩ hrw) ?_); rintro _ w ⟨rfl, hs⟩
  refine .z zg (.nil (.regSeq (.z zm (.z zneq (.nil ?_)))))
  refine (.condN rfl (fun hc12 => ?_) (fun hc12 => ?_))
  · refine .regSeq (.z zm (.z zg (.nil ?_)))
    refine .ret (rT (Fin.ret1 Tryz.results98 rfl ?_))
    exact ⟨H, _, HLe.refl H, rfl, .ask hc12, hs.out⟩
  · refine .skip ?_
    refine nT ?_
    refine .seq (.regSeq (.y hs (zls [_, _] Tryz.isAgg24 Tryz.sizeOf24) (.z zm (.y hs (zls [_, _] Tryz.isAgg63 Tryz.sizeOf63) ?_))))
    have hA : askErr s ws = 0 := by simpa using hc12
    refine .o (.call Tryz.call159 rfl (bound_isProof_spec (s := s) (n := n) (us := us) hs ⟨_, rfl, hr⟩ hrw ⟨_, rfl, hU⟩ hA) ?_); rintro _ w ⟨H1, b, hle1, rfl, hb, hs⟩
    refine .z znot (.nil ?_)
    refine (.cond rfl (fun hc18 => ?_) (fun hc18 => ?_))
    · refine .regSeq (.z zg (.nil ?_))
      refine .ret (rT (Fin.ret1 Tryz.results98 rfl ?_))
      exact ⟨H1, _, hle1, rfl, .bad hA (fun h => by rw [hb.2 h] at hc18; cases hc18), hs.out⟩
    · refine .skip ?_
      refine nT ?_
      refine .regSeq (.z zg (.nil ?_))
      refine .ret (Fin.ret1 Tryz.results98 rfl ?_)
      exact ⟨H1, _, hle1, rfl, .ok hA (hb.1 (by simpa using hc18)), hs.out⟩
end Go.Proofs.YtiiokdeehlfeeaaGreat

namespace Go.Proofs.YtiiokdeehlfeeaaGreat
open Go.MW
inductive CWR (a : Quest) (l : List Prb) (n m : Int) (us : List Use) : Int → Prop
  | ask {e : Int} (h : CPrbR a l e) (he : e ≠ 0) : CWR a l n m us e
  | bad {e : Int} (h : CPrbR a l 0) (h1 : ProofR (dblS a l) (dblW a.ws) m us e) (he : e ≠ 0) : CWR a l n m us 24
  | more (h : CPrbR a l 0) (h1 : ProofR (dblS a l) (dblW a.ws) m us 0) (he : n < m) : CWR a l n m us 94
  | ok (h : CPrbR a l 0) (h1 : ProofR (dblS a l) (dblW a.ws) m us 0) (he : ¬ n < m) : CWR a l n m us 0
theorem CWR.uniq {a : Quest} {l : List Prb} {n m : Int} {us : List Use} {e f : Int} (h : CWR a l n m us e) (g : CWR a l n m us f) : e = f := by
  cases h with
  | ask h he =>
    cases g with
    | ask g _ => exact h.uniq g
    | bad g _ _ => exact (he (h.uniq g)).elim
    | more g _ _ => exact (he (h.uniq g)).elim
    | ok g _ _ => exact (he (h.uniq g)).elim
  | bad h h1 he =>
    cases g with
    | ask g ge => exact (ge (g.uniq h)).elim
    | bad g _ _ => rfl
    | more g g1 _ => exact (he (h1.uniq g1)).elim
    | ok g g1 _ => exact (he (h1.uniq g1)).elim
  | more h h1 he =>
    cases g with
    | ask g ge => exact (ge (g.uniq h)).elim
    | bad g g1 ge => exact (ge (g1.uniq h1)).elim
    | more g _ _ => rfl
    | ok g _ ge => exact (ge he).elim
  | ok h h1 he =>
    cases g with
    | ask g ge => exact (ge (g.uniq h)).elim
    | bad g g1 ge => exact (ge (g1.uniq h1)).elim
    | more g _ ge => exact (he ge).elim
    | ok g _ _ => rfl
theorem ref09_CheckWorst_spec {H : Heap} {w : World} {σ : List Ent} {v vl vp : Value} {a : Quest} {l : List Prb} {n m : Int} {us : List Use} (hs : St H w σ) (hr : RAsk H v a) (hp : RPs H vl l) (hq : RPf H vp m us) :
    Cl Tryz.prog 92 [v, vl, I n, vp] w fun u w' => ∃ H1 e, HLe H H1 ∧ u = I e ∧ CWR a l n m us e ∧ St H1 w' σ := by
  obtain ⟨ul, uw, rfl, hl, hw⟩ := hr
  obtain ⟨ap, cp, rfl⟩ := RPs.shape hp
  obtain ⟨uu, rfl, hU⟩ := hq
  obtain ⟨au, cu, rfl⟩ := RU.shape hU
  refine Cl.of Tryz.func92 rfl Tryz.ntmps92 (by simp) (args_cons (k := 0) rfl (args_cons (k := 1) rfl (args_cons (k := 2) rfl (args_cons (k := 3) rfl (args0))))) ?_
  refine .regSeq ?_
  refine .o (.box hs rfl rfl ?_); intro b4 w hs
  refine .o (.box hs rfl rfl ?_); intro b7 w hs
  refine .z zg (.nil (.regSeq (.y hs (zls [_, _, _, _] Tryz.isAgg27 Tryz.sizeOf27) (.z zm ?_))))
  refine .o (.call Tryz.call60 rfl (ref09_CheckProbes_spec (a := a) hs ⟨_, _, rfl, hl, hw⟩ hp) ?_); rintro _ w ⟨H1, e, hle1, rfl, hC, hs⟩
  refine .z zg (.nil (.seq (.regSeq (.z zm (.z zneq (.nil ?_))))))
  refine (.condN rfl (fun hc16 => ?_) (fun hc16 => ?_))
  · refine .regSeq (.z zm (.z zg (.nil ?_)))
    refine .ret (rT (Fin.ret1 Tryz.results92 rfl ?_))
    exact ⟨H1, e, hle1, rfl, .ask hC hc16, hs.out⟩
  · refine .skip ?_
    refine nT ?_
    refine .regSeq (.y hs (zls [_, _, _, _] Tryz.isAgg27 Tryz.sizeOf27) (.z zm ?_))
    rw [hc16] at hC
    obtain ⟨hok, hlen, hin⟩ := hC.zero
    refine .o (.call Tryz.call144 rfl (ref09_pairs_spec (a := a) hs ⟨_, _, rfl, hl.mono hle1, hw.mono hle1⟩ (hp.mono hle1) hok hlen (fun p h => (hin p h).inn)) ?_); rintro _ w ⟨H2, vp, vw, hle2, rfl, hvp, hvw, hs⟩
    obtain ⟨ap1, cp1, rfl⟩ := RL.shape hvp; obtain ⟨av1, cv1, rfl⟩ := RI.shape hvw
    have hle12 := hle1.trans hle2
    refine .z zm (.z zex (.z zex ?_))
    refine .o (.alloc hs Tryz.zeroValue24 rfl ?_); intro b10 w hs
    refine .o (.stores (vs := [_, _]) hs rfl rfl Tryz.sizeOf24 ?_); intro w hs
    refine .z zg (.nil (.seq (.regSeq (.y hs (zls [_, _] Tryz.isAgg24 Tryz.sizeOf24) (.z zm (.y hs (zls [_, _] Tryz.isAgg63 Tryz.sizeOf63) ?_))))))
    refine .o (.call Tryz.call157 rfl (ref02_CheckProof_spec (s := dblS a l) (n := m) (us := us) hs ⟨_, rfl, hvp⟩ hvw ⟨_, rfl, hU.mono hle12⟩) ?_); rintro _ w ⟨e5, rfl, hPf, hs⟩
    refine .z zneq (.nil ?_)
    refine (.condN rfl (fun hc28 => ?_) (fun hc28 => ?_))
    · refine .regSeq (.z zg (.nil ?_))
      refine .ret (rT (Fin.ret1 Tryz.results92 rfl ?_))
      exact ⟨H2, _, hle12, rfl, .bad hC hPf hc28, hs.out⟩
    · refine .skip ?_
      refine nT ?_
      refine .seq (.regSeq (.z (zfa fa_api_Proof_0) (.y hs (zld Tryz.isAgg3) (.z zm (.z zgtr (.nil ?_))))))
      refine (.condD rfl (fun hc32 => ?_) (fun hc32 => ?_))
      · refine .regSeq (.z zg (.nil ?_))
        refine .ret (rT (Fin.ret1 Tryz.results92 rfl ?_))
        exact ⟨H2, _, hle12, rfl, .more hC (by rw [hc28] at hPf; exact hPf) (by simpa using hc32), hs.out⟩
      · refine .skip ?_
        refine nT ?_
        refine .regSeq (.z zg (.nil ?_))
        refine .ret (Fin.ret1 Tryz.results92 rfl ?_)
        exact ⟨H2, _, hle12, rfl, .ok hC (by rw [hc28] at hPf; exact hPf) (by simpa using hc32), hs.out⟩
theorem probe_told_none {H : Heap} {w : World} {σ : List Ent} {v vl : Value} {a : Quest} {l : List Prb} {R : Int → Prop} {g : Nat} {cap : List Value} (hs : St H w σ) (hr : RAsk H v a) (hp : RPs H vl l) (hc : ∀ args w, (callFunc g args).run Tryz.prog w = .ok (.enter g args) w)
    (hg : ∀ H' w σ', HLe H H' → CPrbR a l 0 → St H' w σ' → Cl Tryz.prog g ([v] ++ cap) w fun u w' => ∃ H'' e, HLe H' H'' ∧ u = .tuple #[.agg #[], I e] ∧ R e ∧ St H'' w' σ') :
    Cl Tryz.prog 89 [v, vl, .func (.func g) #[] cap.toArray] w fun u w' => ∃ H1 e, HLe H H1 ∧ u = .tuple #[.agg #[], I e] ∧ ((CPrbR a l e ∧ e ≠ 0) ∨ (CPrbR a l 0 ∧ R e)) ∧ St H1 w' σ := by
  obtain ⟨ul, uw, rfl, hl, hw⟩ := hr
  refine Cl.of Tryz.func89 rfl Tryz.ntmps89 (by simp) (args_cons (k := 0) rfl (args_cons (k := 1) rfl (args_cons (k := 2) rfl (args0)))) ?_
  refine .regSeq ?_
  refine .o (.box hs rfl rfl ?_); intro b3 w hs
  refine .o (.alloc hs Tryz.zeroValue130 rfl ?_); intro b6 w hs
  refine .z zg (.nil (.seq (.regSeq (.y hs (zls [_, _, _, _] Tryz.isAgg27 Tryz.sizeOf27) (.z zm ?_)))))
  refine .o (.call Tryz.call141 rfl (probe_CheckProbes_spec (a := a) hs ⟨_, _, rfl, hl, hw⟩ hp) ?_); rintro _ w ⟨H1, e, hle1, rfl, hC, hs⟩
  refine .z zg (.nil (.regSeq (.z zm (.z zneq (.nil ?_)))))
  refine (.condN rfl (fun hc14 => ?_) (fun hc14 => ?_))
  · refine .regSeq ?_
    refine .o (.alloc hs Tryz.zeroValue130 rfl ?_); intro b9 w hs
    refine .nil (.regSeq (.y hs (zls [] Tryz.isAgg130 Tryz.sizeOf130) (.z zm ?_)))
    refine .o (.stores (vs := []) hs rfl rfl Tryz.sizeOf130 ?_); intro w hs
    refine .z zg (.nil ?_)
    refine .ret (rT (?_))
    exact Fin.retD [] [] hs fun w hs => ⟨_, results2 Tryz.results89 (rcells (vs := []) hs rfl Tryz.isAgg130 Tryz.sizeOf130) rfl, H1, e, hle1, rfl, .inl ⟨hC, hc14⟩, hs.out⟩
  · refine .skip ?_
    refine nT ?_
    refine .regSeq (.z zm (.y hs (zls [_, _, _, _] Tryz.isAgg27 Tryz.sizeOf27) ?_))
    rw [hc14] at hC
    refine .o (.callG (first := []) rfl rfl hc (hg _ _ _ hle1 hC hs) ?_); rintro _ w ⟨H2, e2, hle2, rfl, hR, hs⟩
    refine .z zex (.z zex ?_)
    refine .o (.stores (vs := []) hs rfl rfl Tryz.sizeOf130 ?_); intro w hs
    refine .z zg (.nil ?_)
    refine .ret ?_
    exact Fin.retD [] [] hs fun w hs => ⟨_, results2 Tryz.results89 (rcells (vs := []) hs rfl Tryz.isAgg130 Tryz.sizeOf130) rfl, H2, e2, hle1.trans hle2, rfl, .inr ⟨hC, hR⟩, hs.out⟩
theorem probe_CheckWorst_1 {H : Heap} {w : World} {σ : List Ent} {v vl vp : Value} {a : Quest} {l : List Prb} {n m : Int} {us : List Use} {bl bp bn : Nat} (hs : St H w σ) (hr : RAsk H v a) (hbl : Row H bl [vl]) (hp : RPs H vl l) (hbp : Row H bp [I m, vp]) (hU : RU H vp us) (hbn : Row H bn [I n]) (hC : CPrbR a l 0) :
    Cl Tryz.prog 97 [v, .pointer (some ⟨bl, 0, none⟩), .pointer (some ⟨bp, 0, none⟩), .pointer (some ⟨bn, 0, none⟩)] w fun u w' => ∃ H'' e, HLe H H'' ∧ u = .tuple #[.agg #[], I e] ∧ CWR a l n m us e ∧ St H'' w' σ := by
  obtain ⟨ul, uw, rfl, hl, hw⟩ := hr
  obtain ⟨al, cpl, rfl⟩ := RPs.shape hp
  obtain ⟨au, cu, rfl⟩ := RU.shape hU
  obtain ⟨hok, hlen, hin⟩ := hC.zero
  have hb0 := hbl.at 0
  refine Cl.of Tryz.func97 rfl Tryz.ntmps97 (by simp) (args_cons (k := 0) rfl (args_cons (k := 1) rfl (args_cons (k := 2) rfl (args_cons (k := 3) rfl (args0))))) ?_
  refine .regSeq ?_
  refine .o (.box hs rfl rfl ?_); intro b4 w hs
  refine .o (.alloc hs Tryz.zeroValue130 rfl ?_); intro b5 w hs
  refine .z zg (.nil (.regSeq (.y hs (zls [_, _, _, _] Tryz.isAgg27 Tryz.sizeOf27) ?_)))
  refine .q hs (q_loadR rfl Tryz.isAgg28 hb0) ?_
  refine .o (.call Tryz.call87 rfl (probe_double_spec (a := a) hs ⟨_, _, rfl, hl, hw⟩ hp hok hlen (fun p h => (hin p h).inn)) ?_); rintro _ w ⟨H1, ul1, uw1, vp, vw, hle1, rfl, hl1, hw1, hvp, hvw, hs⟩
  obtain ⟨al1, cl1, rfl⟩ := RL.shape hl1; obtain ⟨aw1, cw1, rfl⟩ := RI.shape hw1; obtain ⟨ap1, cp1, rfl⟩ := RL.shape hvp; obtain ⟨av1, cv1, rfl⟩ := RI.shape hvw
  have hp0 := (hbp.mono hle1).cells 0 [I m, .slice au us.length cu]
  refine .o (.alloc hs Tryz.zeroValue125 rfl ?_); intro b7 w hs
  refine .o (.stores (vs := [_, _, _, _, _, _, _]) hs rfl rfl Tryz.sizeOf125 ?_); intro w hs
  refine .nil (.seq (.regSeq (.z (zfa fa_probe_doubled_1) (.y hs (zls [_, _] Tryz.isAgg24 Tryz.sizeOf24) (.z (zfa fa_probe_doubled_2) (.y hs (zld Tryz.isAgg25) ?_))))))
  refine .q hs (q_loadsR (vs := [I m, .slice au us.length cu]) rfl Tryz.isAgg63 Tryz.sizeOf63 hp0) ?_
  refine .o (.call Tryz.call98 rfl (bound_CheckProof_spec (s := dblS a l) (n := m) (us := us) hs ⟨_, rfl, hvp⟩ hvw ⟨_, rfl, hU.mono hle1⟩) ?_); rintro _ w ⟨H2, e5, hle2, rfl, hPf, hs⟩
  have hp1 := ((hbp.mono hle1).mono hle2).cells 0 [I m, .slice au us.length cu]
  have hn1 := ((hbn.mono hle1).mono hle2).at 0
  have hle12 := hle1.trans hle2
  refine .z zneq (.nil ?_)
  refine (.condN rfl (fun hc17 => ?_) (fun hc17 => ?_))
  · refine .regSeq (.z (zbd [] bld_struct) ?_)
    refine .o (.stores (vs := []) hs rfl rfl Tryz.sizeOf130 ?_); intro w hs
    refine .z zg (.nil ?_)
    refine .ret (rT (?_))
    exact Fin.retD [] [] hs fun w hs => ⟨_, results2 Tryz.results97 (rcells (vs := []) hs rfl Tryz.isAgg130 Tryz.sizeOf130) rfl, H2, _, hle12, rfl, .bad hC hPf hc17, hs.out⟩
  · refine .skip ?_
    refine nT ?_
    refine .seq (.regSeq (.z (zfa fa_api_Proof_0) ?_))
    refine .q hs (q_loadR rfl Tryz.isAgg3 (hp1.get 0 rfl)) ?_
    refine .q hs (q_loadR rfl Tryz.isAgg3 hn1) ?_
    refine .z zgtr (.nil ?_)
    refine (.condD rfl (fun hc22 => ?_) (fun hc22 => ?_))
    · refine .regSeq (.z (zbd [] bld_struct) ?_)
      refine .o (.stores (vs := []) hs rfl rfl Tryz.sizeOf130 ?_); intro w hs
      refine .z zg (.nil ?_)
      refine .ret (rT (?_))
      exact Fin.retD [] [] hs fun w hs => ⟨_, results2 Tryz.results97 (rcells (vs := []) hs rfl Tryz.isAgg130 Tryz.sizeOf130) rfl, H2, _, hle12, rfl, .more hC (by rw [hc17] at hPf; exact hPf) (by simpa using hc22), hs.out⟩
    · refine .skip ?_
      refine nT ?_
      refine .regSeq (.z (zbd [] bld_struct) ?_)
      refine .o (.stores (vs := []) hs rfl rfl Tryz.sizeOf130 ?_); intro w hs
      refine .z zg (.nil ?_)
      refine .ret ?_
      exact Fin.retD [] [] hs fun w hs => ⟨_, results2 Tryz.results97 (rcells (vs := []) hs rfl Tryz.isAgg130 Tryz.sizeOf130) rfl, H2, _, hle12, rfl, .ok hC (by rw [hc17] at hPf; exact hPf) (by simpa using hc22), hs.out⟩
theorem probe_CheckWorst_spec {H : Heap} {w : World} {σ : List Ent} {v vl vp : Value} {a : Quest} {l : List Prb} {n m : Int} {us : List Use} (hs : St H w σ) (hr : RAsk H v a) (hp : RPs H vl l) (hq : RPf H vp m us) :
    Cl Tryz.prog 37 [v, vl, I n, vp] w fun u w' => ∃ H1 e, HLe H H1 ∧ u = I e ∧ CWR a l n m us e ∧ St H1 w' σ := by
  obtain ⟨ul, uw, rfl, hl, hw⟩ := hr
  obtain ⟨al, cpl, rfl⟩ := RPs.shape hp
  obtain ⟨uu, rfl, hU⟩ := hq
  obtain ⟨au, cu, rfl⟩ := RU.shape hU
  refine Cl.of Tryz.func37 rfl Tryz.ntmps37 (by simp) (args_cons (k := 0) rfl (args_cons (k := 1) rfl (args_cons (k := 2) rfl (args_cons (k := 3) rfl (args0))))) ?_
  refine .regSeq ?_
  refine .o (.box hs rfl rfl ?_); intro b4 w hs
  refine .o (.box hs rfl rfl ?_); intro b5 w hs
  refine .o (.box hs rfl rfl ?_); intro b6 w hs
  refine .o (.box hs rfl rfl ?_); intro b7 w hs
  refine .z zg (.nil (.regSeq (.y hs (zls [_, _, _, _] Tryz.isAgg27 Tryz.sizeOf27) (.y hs (zld Tryz.isAgg28) ?_))))
  refine .q hs (q_makeFunc (f := []) (c := [_, _, _]) rfl rfl) ?_
  obtain ⟨H0, hle0, hb5, hs⟩ := hs.publish (b := b5) (by repeat constructor)
  obtain ⟨H1, hle1, hb6, hs⟩ := hs.publish (b := b6) (by repeat constructor)
  obtain ⟨H2, hle2, hb7, hs⟩ := hs.publish (b := b7) (by repeat constructor)
  have hle02 := hle0.trans (hle1.trans hle2)
  refine .o (.call Tryz.call89 rfl (probe_told_none (R := CWR a l n m us) (a := a) (l := l) (cap := [.pointer (some ⟨b5, 0, none⟩), .pointer (some ⟨b7, 0, none⟩), .pointer (some ⟨b6, 0, none⟩)]) hs ⟨_, _, rfl, hl.mono hle02, hw.mono hle02⟩ (hp.mono hle02) Tryz.call97 ?_) ?_)
  · rintro H' w σ' hle hC hs
    exact probe_CheckWorst_1 (a := a) (l := l) hs ⟨_, _, rfl, (hl.mono hle02).mono hle, (hw.mono hle02).mono hle⟩ ((hb5.mono (hle1.trans hle2)).mono hle) ((hp.mono hle02).mono hle) (hb7.mono hle) ((hU.mono hle02).mono hle) ((hb6.mono hle2).mono hle) hC
  rintro _ w ⟨H3, e, hle3, rfl, hR, hs⟩
  refine .z zm (.z zex (.z zex ?_))
  refine .o (.alloc hs Tryz.zeroValue130 rfl ?_); intro b9 w hs
  refine .o (.stores (vs := []) hs rfl rfl Tryz.sizeOf130 ?_); intro w hs
  refine .z zg (.nil (.regSeq (.z zm (.z zg (.nil ?_)))))
  refine .ret (Fin.ret1 Tryz.results37 rfl ?_)
  exact ⟨H3, e, hle02.trans hle3, rfl, by
    rcases hR with ⟨h1, h2⟩ | ⟨_, h2⟩
    · exact .ask h1 h2
    · exact h2, hs.out⟩
end Go.Proofs.YtiiokdeehlfeeaaGreat

namespace Go.Proofs.YtiiokdeehlfeeaaGreat
open Go.MW
def ROut (H : Heap) (v : Value) (vs : List Int) : Prop := ∃ u, v = .agg #[u] ∧ RI H u vs
theorem ROut.mono {H H' : Heap} {v : Value} {vs : List Int} (h : ROut H v vs) (hl : HLe H H') : ROut H' v vs := by
  obtain ⟨u, h1, h2⟩ := h; exact ⟨u, h1, h2.mono hl⟩
end Go.Proofs.YtiiokdeehlfeeaaGreat

namespace Go.Proofs.YtiiokdeehlfeeaaGreat
open Go.MW
inductive COutR (a : Quest) (l : List Prb) (vs : List Int) : Int → Prop
  | ask {e : Int} (h : CPrbR a l e) (he : e ≠ 0) : COutR a l vs e
  | size (h : CPrbR a l 0) (h1 : vs.length ≠ l.length) : COutR a l vs 92
  | ok (h : CPrbR a l 0) (h1 : vs.length = l.length) : COutR a l vs 0
theorem COutR.zero {a : Quest} {l : List Prb} {vs : List Int} (h : COutR a l vs 0) : CPrbR a l 0 ∧ vs.length = l.length := by
  generalize hz : (0 : Int) = y at h
  cases h with
  | ask _ he => exact (he hz.symm).elim
  | size => omega
  | ok h h1 => exact ⟨h, h1⟩
theorem COutR.uniq {a : Quest} {l : List Prb} {vs : List Int} {e f : Int} (h : COutR a l vs e) (g : COutR a l vs f) : e = f := by
  cases h with
  | ask h he =>
    cases g with
    | ask g _ => exact h.uniq g
    | size g _ => exact (he (h.uniq g)).elim
    | ok g _ => exact (he (h.uniq g)).elim
  | size h h1 =>
    cases g with
    | ask g ge => exact (ge (g.uniq h)).elim
    | size => rfl
    | ok _ g1 => exact (h1 g1).elim
  | ok h h1 =>
    cases g with
    | ask g ge => exact (ge (g.uniq h)).elim
    | size _ g1 => exact (g1 h1).elim
    | ok => rfl
end Go.Proofs.YtiiokdeehlfeeaaGreat

namespace Go.Proofs.YtiiokdeehlfeeaaGreat
open Go.MW
structure KeepsP (s : Syst) (x : List Int) : Prop where
  len : x.length = s.n
  zero : gi x 0 = 0
  free : ∀ v < s.n, -1000000000 ≤ gi x v ∧ gi x v ≤ 1000000000
  feas : Feas s.arcs (gi x)
end Go.Proofs.YtiiokdeehlfeeaaGreat

namespace Go.Proofs.YtiiokdeehlfeeaaGreat
open Go.MW
theorem ref02_keeps_spec {H : Heap} {w : World} {σ : List Ent} {v vx : Value} {s : Syst} {x : List Int} (hs : St H w σ) (hr : RSy H v s) (hx : RI H vx x) (hok : s.Ok) :
    Cl Tryz.prog 188 [v, vx] w fun u w' => ∃ b, u = .bool b ∧ (b = true ↔ KeepsP s x) ∧ St H w' σ := by
  obtain ⟨ul, rfl, hl⟩ := hr
  obtain ⟨al, cl, rfl⟩ := RL.shape hl
  obtain ⟨ax, cx, rfl⟩ := RI.shape hx
  have hm0 := hok.m0
  have hm1 := hok.m1
  have hll := hok.len
  have hlx := (RI.len hx).2.2
  have hnn : (s.n : Int) = s.many + 1 := by simp only [Syst.n]; omega
  refine Cl.of Tryz.func188 rfl Tryz.ntmps188 (by simp) (args_cons (k := 0) rfl (args_cons (k := 1) rfl (args0))) ?_
  refine .regSeq ?_
  refine .o (.box hs rfl rfl ?_); intro b2 w hs
  refine .z zg (.nil (.seq (.regSeq (.z zm (.z (zlen Tryz.runUnderlying25) (.z (zfa fa_api_System_0) (.y hs (zld Tryz.isAgg3) (.z zadd (.z zneq ?_)))))))))
  refine .z zm ?_
  refine .bifN (t' := 15) rfl (fun hb15 => ?_) (fun hb15 => ?_)
  · refine .gFs 4 6 false rfl rfl rfl ?_
    refine .z zpT (.nil ?_)
    refine (.condT rfl rfl ?_)
    refine .regSeq (.z zg (.nil ?_))
    refine .ret (rT (Fin.ret1 Tryz.results188 rfl ?_))
    exact ⟨false, rfl, ⟨fun h => (by cases h), fun h => by
      have h8 := h.len
      have h9 := h.zero
      exfalso
      first | (have h7 := hb15; simp at h7; omega) | (simp_all; done)⟩, hs.out⟩
  · refine .gT rfl rfl ?_
    refine .z zm ?_
    refine .gT rfl rfl ?_
    refine .ixX (enc := fun x => [I x]) hs hx rfl rfl Tryz.runUnderlying25 Tryz.sizeOf3 (gi_get (l := x) (i := 0) (by omega)) rfl ?_; intro b17 o17 hc17; replace hc17 := CellsAt.one hc17
    refine .gT rfl rfl ?_
    refine .q hs (q_loadR rfl Tryz.isAgg3 hc17) ?_
    refine .gT rfl rfl ?_
    refine .z zneq (.z zpF (.nil ?_))
    refine (.condN rfl (fun hc20 => ?_) (fun hc20 => ?_))
    · refine .regSeq (.z zg (.nil ?_))
      refine .ret (rT (Fin.ret1 Tryz.results188 rfl ?_))
      exact ⟨false, rfl, ⟨fun h => (by cases h), fun h => by
        have h8 := h.len
        have h9 := h.zero
        exfalso
        first | (have h7 := hb15; simp at h7; omega) | (simp_all; done)⟩, hs.out⟩
    · refine .skip ?_
      refine nT ?_
      refine .seq (.regSeq (.z zm (.z (zlen Tryz.runUnderlying25) (.z zm (.nil ?_)))))
      refine .for (N := x.length) (J := fun k fr w => fr = [(21, .slice ax x.length cx), (1, .slice ax x.length cx), (2, .pointer (some ⟨b2, 0, none⟩))] ∧ (∀ i < k, -1000000000 ≤ gi x i ∧ gi x i ≤ 1000000000) ∧ St H w (.blk b2 [I s.many, .slice al s.lims.length cl] :: σ)) (by omega) ?_ ?_ ?_
      · exact .mk ⟨rfl, fun i hi => by omega, hs⟩
      · rintro k fr w hk ⟨rfl, h0, hs⟩
        refine .block (.regSeq ?_)
        refine .ixX (enc := fun x => [I x]) hs hx rfl rfl Tryz.runUnderlying25 Tryz.sizeOf3 (gi_get hk) rfl ?_; intro b25 o25 hc25; replace hc25 := CellsAt.one hc25
        refine .q hs (q_loadR rfl Tryz.isAgg3 hc25) ?_
        refine .z zg (.nil (.regSeq (.z zm ?_)))
        refine .o (.call Tryz.call174 rfl (ref02_within_spec hs) ?_); rintro _ w ⟨rfl, hs⟩
        refine .z znot (.nil ?_)
        refine (.cond rfl (fun hc29 => ?_) (fun hc29 => ?_))
        · refine .regSeq (.z zg (.nil ?_))
          refine .ret (rB (rT (rB (rT (Fin.ret1 Tryz.results188 rfl ?_)))))
          exact ⟨false, rfl, ⟨fun h => (by cases h), fun h => by
            have h8 := h.free k (by have := h.len; omega)
            exfalso
            have h7 := hc29
            rw [decide_eq_true h8] at h7
            simp at h7⟩, hs.out⟩
        · refine .skip ?_
          refine nB (nT ?_)
          exact .mk ⟨rfl, fun i hi => by
            by_cases e : i = k
            · subst e; exact of_decide_eq_true (by simpa using hc29)
            · exact h0 i (by omega), hs⟩
      · rintro fr w ⟨rfl, h0, hs⟩
        refine nT ?_
        refine .seq (.regSeq (.z (zfa fa_api_System_1) (.y hs (zld Tryz.isAgg22) (.z (zlen Tryz.runUnderlying22) (.z zm (.nil ?_))))))
        refine .for (N := s.lims.length) (J := fun k fr w => fr = [(32, .slice al s.lims.length cl), (1, .slice ax x.length cx)] ∧ (∀ i < k, ∀ y, s.lims[i]? = some y → gi x y.B.toNat ≤ gi x y.A.toNat + y.M) ∧ St H w (.blk b2 [I s.many, .slice al s.lims.length cl] :: σ)) (by omega) ?_ ?_ ?_
        · exact .mk ⟨rfl, fun i hi => by omega, hs⟩
        · rintro k fr w hk ⟨rfl, h1, hs⟩
          obtain ⟨y, hy⟩ := nth hk
          obtain ⟨⟨y1, y2⟩, ⟨y3, y4⟩, y5, y6, -⟩ := hok.lim y (List.mem_of_getElem? hy)
          have z1 := h0 y.B.toNat (by omega)
          have z2 := h0 y.A.toNat (by omega)
          refine .block (.regSeq ?_)
          refine .ixX (enc := Lim.c) hs hl rfl rfl Tryz.runUnderlying22 Tryz.sizeOf157 hy rfl ?_; intro b36 o36 hc36
          refine .q hs (q_loadsR (vs := y.c) rfl Tryz.isAgg157 Tryz.sizeOf157 hc36) ?_
          refine .o (.alloc hs Tryz.zeroValue157 rfl ?_); intro b8 w hs
          refine .o (.stores (vs := y.c) hs rfl rfl Tryz.sizeOf157 ?_); intro w hs
          refine .nil ?_
          refine .seq (.draw mix rfl hs ?_); intro w hs
          refine .z 0 rfl zm ?_; refine .z 1 rfl (zfa fa_api_Limit_1) ?_; refine .y 2 rfl hs Tryz.isAgg3 ?_
          refine .ixX (enc := fun x => [I x]) (i := 3) hs rfl (by kernel_rfl) .none hx rfl rfl Tryz.runUnderlying25 Tryz.sizeOf3 (gi_get (l := x) (i := y.B.toNat) (by omega)) (by omega) ?_; intro b41 o41 hc41; replace hc41 := CellsAt.one hc41
          refine .r (i := 4) hs rfl (by kernel_rfl) .none (q_loadR rfl Tryz.isAgg3 hc41) ?_
          refine .z 5 rfl zm ?_; refine .z 6 rfl (zfa fa_api_Limit_0) ?_; refine .y 7 rfl hs Tryz.isAgg3 ?_
          refine .ixX (enc := fun x => [I x]) (i := 8) hs rfl (by kernel_rfl) .none hx rfl rfl Tryz.runUnderlying25 Tryz.sizeOf3 (gi_get (l := x) (i := y.A.toNat) (by omega)) (by omega) ?_; intro b46 o46 hc46; replace hc46 := CellsAt.one hc46
          refine .r (i := 9) hs rfl (by kernel_rfl) .none (q_loadR rfl Tryz.isAgg3 hc46) ?_
          refine .z 10 rfl zsub ?_; refine .z 11 rfl (zfa fa_api_Limit_2) ?_; refine .y 12 rfl hs Tryz.isAgg3 ?_; refine .z 13 rfl zgtr ?_; refine .done (by kernel_rfl) hs ?_
          refine (.condD rfl (fun hc51 => ?_) (fun hc51 => ?_))
          · refine .regSeq (.z zg (.nil ?_))
            refine .ret (rB (rT (rB (rT (Fin.ret1 Tryz.results188 rfl ?_)))))
            exact ⟨false, rfl, ⟨fun h => (by cases h), fun h => by
              have h8 := feas_iff.1 h.feas y (List.mem_of_getElem? hy)
              exfalso; omega⟩, hs.out⟩
          · refine .skip ?_
            refine nB (nT ?_)
            exact .mk ⟨rfl, fun i hi z hz => by
              by_cases e : i = k
              · subst e; rw [hy] at hz; cases hz; omega
              · exact h1 i (by omega) z hz, hs.out⟩
        · rintro fr w ⟨rfl, h1, hs⟩
          refine nT ?_
          refine .regSeq (.z zg (.nil ?_))
          refine .ret (Fin.ret1 Tryz.results188 rfl ?_)
          exact ⟨true, rfl, ⟨fun _ => ⟨by omega, by first | omega | (simp_all; done), fun v hv => h0 v (by omega), feas_iff.2 fun y hy => by
            obtain ⟨i, hi⟩ := List.getElem?_of_mem hy
            exact h1 i (List.getElem?_eq_some_iff.1 hi).1 y hi⟩, fun _ => rfl⟩, hs.out⟩
inductive CPtR (s : Syst) (x : List Int) : Int → Prop
  | bad (h : s.check ≠ 0) : CPtR s x s.check
  | off (h : s.Ok) (h1 : ¬ KeepsP s x) : CPtR s x 25
  | ok (h : s.Ok) (h1 : KeepsP s x) : CPtR s x 0
theorem CPtR.uniq {s : Syst} {x : List Int} {e f : Int} (h : CPtR s x e) (g : CPtR s x f) : e = f := by
  cases h with
  | bad h =>
    cases g with
    | bad => rfl
    | off g _ => exact (h (s.ok_iff.2 g)).elim
    | ok g _ => exact (h (s.ok_iff.2 g)).elim
  | off h h1 =>
    cases g with
    | bad g => exact (g (s.ok_iff.2 h)).elim
    | off => rfl
    | ok _ g1 => exact (h1 g1).elim
  | ok h h1 =>
    cases g with
    | bad g => exact (g (s.ok_iff.2 h)).elim
    | off _ g1 => exact (g1 h1).elim
    | ok => rfl
theorem ref02_CheckPoint_spec {H : Heap} {w : World} {σ : List Ent} {v vx : Value} {s : Syst} {x : List Int} (hs : St H w σ) (hr : RSy H v s) (hx : RI H vx x) :
    Cl Tryz.prog 147 [v, vx] w fun u w' => ∃ e, u = I e ∧ CPtR s x e ∧ St H w' σ := by
  obtain ⟨ul, rfl, hl⟩ := hr
  obtain ⟨al, cl, rfl⟩ := RL.shape hl
  obtain ⟨ax, cx, rfl⟩ := RI.shape hx
  refine Cl.of Tryz.func147 rfl Tryz.ntmps147 (by simp) (args_cons (k := 0) rfl (args_cons (k := 1) rfl (args0))) ?_
  refine .regSeq ?_
  refine .o (.box hs rfl rfl ?_); intro b2 w hs
  refine .z zg (.nil (.regSeq (.y hs (zls [_, _] Tryz.isAgg24 Tryz.sizeOf24) ?_)))
  refine .o (.call Tryz.call117 rfl (ref02_Check_spec (s := s) hs ⟨_, rfl, hl⟩) ?_); rintro _ w ⟨rfl, hs⟩
  refine .z zg (.nil (.seq (.regSeq (.z zm (.z zneq (.nil ?_))))))
  refine (.condN rfl (fun hc9 => ?_) (fun hc9 => ?_))
  · refine .regSeq (.z zm (.z zg (.nil ?_)))
    refine .ret (rT (Fin.ret1 Tryz.results147 rfl ?_))
    exact ⟨_, rfl, .bad hc9, hs.out⟩
  · refine .skip ?_
    refine nT ?_
    refine .seq (.regSeq (.y hs (zls [_, _] Tryz.isAgg24 Tryz.sizeOf24) (.z zm ?_)))
    have hok : s.Ok := s.ok_iff.1 (by simpa using hc9)
    refine .o (.call Tryz.call188 rfl (ref02_keeps_spec (s := s) hs ⟨_, rfl, hl⟩ hx hok) ?_); rintro _ w ⟨b, rfl, hb, hs⟩
    refine .z znot (.nil ?_)
    refine (.cond rfl (fun hc14 => ?_) (fun hc14 => ?_))
    · refine .regSeq (.z zg (.nil ?_))
      refine .ret (rT (Fin.ret1 Tryz.results147 rfl ?_))
      exact ⟨_, rfl, .off hok (fun h => by simp [hb.2 h] at hc14), hs.out⟩
    · refine .skip ?_
      refine nT ?_
      refine .regSeq (.z zg (.nil ?_))
      refine .ret (Fin.ret1 Tryz.results147 rfl ?_)
      exact ⟨_, rfl, .ok hok (hb.1 (by simpa using hc14)), hs.out⟩
end Go.Proofs.YtiiokdeehlfeeaaGreat

namespace Go.Proofs.YtiiokdeehlfeeaaGreat
open Go.MW
def ValR (a : Quest) (p : Prb) (lo hi e : Int) : Prop := (CPrbR a [p] e ∧ e ≠ 0 ∧ lo = 0 ∧ hi = 0) ∨ (CPrbR a [p] 0 ∧ e = 0 ∧ ∃ l h, RangeR a.sys (oneW a.sys.many p.u) l h 0 ∧ lo = l - p.t ∧ hi = h + p.t)
theorem ValR.uniq {a : Quest} {p : Prb} {lo hi e lo' hi' e' : Int} (h : ValR a p lo hi e) (g : ValR a p lo' hi' e') : lo = lo' ∧ hi = hi' ∧ e = e' := by
  rcases h with ⟨h1, h2, h3, h4⟩ | ⟨h1, h2, l, u, h3, h4, h5⟩
  · rcases g with ⟨g1, g2, g3, g4⟩ | ⟨g1, g2, _⟩
    · exact ⟨by omega, by omega, h1.uniq g1⟩
    · exact (h2 (h1.uniq g1)).elim
  · rcases g with ⟨g1, g2, g3, g4⟩ | ⟨g1, g2, l', u', g3, g4, g5⟩
    · exact (g2 (g1.uniq h1)).elim
    · obtain ⟨rfl, rfl, _⟩ := h3.uniq g3
      exact ⟨by omega, by omega, by omega⟩
end Go.Proofs.YtiiokdeehlfeeaaGreat

namespace Go.Proofs.YtiiokdeehlfeeaaGreat
open Go.MW
theorem IndexFunc_int {H : Heap} {w : World} {σ : List Ent} {v : Value} {ls : List Int} {g : Nat} {cap : List Value} {q : Int → Prop} (hs : St H w σ) (hr : RI H v ls)
    (hc : ∀ args w, (callFunc g args).run Tryz.prog w = .ok (.enter g args) w) (hp : ∀ w l, St H w σ → Cl Tryz.prog g ([I l] ++ cap) w fun u w' => ∃ b, u = .bool b ∧ (b = true ↔ q l) ∧ St H w' σ) :
    Cl Tryz.prog 161 [v, .func (.func g) #[] cap.toArray] w fun u w' => ∃ i, u = I i ∧ (0 ≤ i ↔ ∃ p ∈ ls, q p) ∧ St H w' σ := by
  obtain ⟨a, c, rfl⟩ := RI.shape hr
  have hl := (RI.len hr).2.2
  refine Cl.of Tryz.func161 rfl Tryz.ntmps161 (by simp) (args_cons (k := 0) rfl (args_cons (k := 1) rfl (args0))) ?_
  refine .regSeq (.z zg (.nil (.seq (.regSeq (.z zm (.z (zlen Tryz.runUnderlying25) (.z zm (.nil ?_))))))))
  refine .for (N := ls.length) (J := fun k fr w => fr = [(1, .func (.func g) #[] cap.toArray), (0, .slice a ls.length c)] ∧ St H w σ ∧ ∀ j < k, ∀ l, ls[j]? = some l → ¬ q l) (by omega) ?_ ?_ ?_
  · exact .mk ⟨rfl, hs, fun j hj => by omega⟩
  · rintro k fr w hk ⟨rfl, hs, hno⟩
    obtain ⟨l, hl⟩ := nth hk
    refine .block (.regSeq (.z zm (.z zg (.nil (.regSeq (.z zm (.z zm (.z zm ?_))))))))
    first | (refine .ixv hs Tryz.runUnderlying25 Tryz.sizeOf3 ?_; intro b14 o14 hc14) | refine .z (zix Tryz.runUnderlying25 Tryz.sizeOf3) ?_
    refine .y hs (zld Tryz.isAgg3) ?_
    refine .o (.callG (first := []) rfl rfl hc (hp _ _ hs) ?_); rintro _ w ⟨b16, rfl, hb16, hs⟩
    refine .nil ?_
    refine (.cond rfl (fun hc16 => ?_) (fun hc16 => ?_))
    · refine .regSeq (.z zm (.z zg (.nil ?_)))
      refine .ret (rB (rT (rB (rT (Fin.ret1 Tryz.results161 rfl ?_)))))
      exact ⟨_, rfl, ⟨fun _ => ⟨l, List.mem_of_getElem? hl, hb16.1 hc16⟩, fun _ => by omega⟩, hs⟩
    · refine .skip ?_
      refine nB (nT ?_)
      exact .mk ⟨rfl, hs, upto_succ hno hl (fun h => by rw [hb16.2 h] at hc16; cases hc16)⟩
  · rintro fr w ⟨rfl, hs, hno⟩
    refine nT ?_
    refine .regSeq (.z zg (.nil ?_))
    refine .ret (Fin.ret1 Tryz.results161 rfl ?_)
    exact ⟨_, rfl, ⟨fun h => by omega, fun ⟨p, h1, h2⟩ => by
      obtain ⟨j, hj⟩ := List.getElem?_of_mem h1
      exact (hno j (List.getElem?_eq_some_iff.1 hj).1 p hj h2).elim⟩, hs⟩
theorem ContainsFunc_int {H : Heap} {w : World} {σ : List Ent} {v : Value} {ls : List Int} {g : Nat} {cap : List Value} {q : Int → Prop} (hs : St H w σ) (hr : RI H v ls)
    (hc : ∀ args w, (callFunc g args).run Tryz.prog w = .ok (.enter g args) w) (hp : ∀ w l, St H w σ → Cl Tryz.prog g ([I l] ++ cap) w fun u w' => ∃ b, u = .bool b ∧ (b = true ↔ q l) ∧ St H w' σ) :
    Cl Tryz.prog 129 [v, .func (.func g) #[] cap.toArray] w fun u w' => ∃ b, u = .bool b ∧ (b = true ↔ ∃ p ∈ ls, q p) ∧ St H w' σ := by
  refine Cl.of Tryz.func129 rfl Tryz.ntmps129 (by simp) (args_cons (k := 0) rfl (args_cons (k := 1) rfl (args0))) ?_
  refine .regSeq (.z zg (.nil (.regSeq (.z zm (.z zm ?_)))))
  refine .o (.call Tryz.call161 rfl (IndexFunc_int hs hr hc hp) ?_); rintro _ w ⟨i, rfl, hi, hs⟩
  refine .z zgeq (.z zg (.nil ?_))
  refine .ret (Fin.ret1 Tryz.results129 rfl ?_)
  exact ⟨_, rfl, by simp only [decide_eq_true_eq]; exact hi, hs⟩
theorem bound_CheckPoint_1 {H : Heap} {w : World} {σ : List Ent} {n : Int} (hs : St H w σ) : Cl Tryz.prog 187 [I n] w fun v w' => ∃ b, v = .bool b ∧ (b = true ↔ ¬ (-1000000000 ≤ n ∧ n ≤ 1000000000)) ∧ St H w' σ := by
  refine Cl.of Tryz.func187 rfl Tryz.ntmps187 (by simp) (args_cons (k := 0) rfl (args0)) ?_
  refine .regSeq (.z zg (.nil (.regSeq (.z zm ?_))))
  refine .o (.call Tryz.call167 rfl (bound_within_spec hs) ?_); rintro _ w ⟨rfl, hs⟩
  refine .z znot (.z zg (.nil ?_))
  refine .ret (Fin.ret1 Tryz.results187 rfl ?_)
  exact ⟨_, rfl, by simp; omega, hs⟩
theorem bound_CheckPoint_spec {H : Heap} {w : World} {σ : List Ent} {v vx : Value} {s : Syst} {x : List Int} (hs : St H w σ) (hr : RSy H v s) (hx : RI H vx x) :
    Cl Tryz.prog 146 [v, vx] w fun u w' => ∃ e, u = I e ∧ CPtR s x e ∧ St H w' σ := by
  obtain ⟨ul, rfl, hl⟩ := hr
  obtain ⟨al, cl, rfl⟩ := RL.shape hl
  obtain ⟨ax, cx, rfl⟩ := RI.shape hx
  refine Cl.of Tryz.func146 rfl Tryz.ntmps146 (by simp) (args_cons (k := 0) rfl (args_cons (k := 1) rfl (args0))) ?_
  refine .regSeq ?_
  refine .o (.box hs rfl rfl ?_); intro b2 w hs
  refine .z zg (.nil (.seq (.regSeq (.y hs (zls [_, _] Tryz.isAgg24 Tryz.sizeOf24) ?_))))
  refine .o (.call Tryz.call113 rfl (bound_Check_spec (s := s) hs ⟨_, rfl, hl⟩) ?_); rintro _ w ⟨rfl, hs⟩
  refine .z zg (.nil (.regSeq (.z zm (.z zneq (.nil ?_)))))
  skip
  refine (.condN rfl (fun hc11 => ?_) (fun hc11 => ?_))
  · refine .regSeq (.z zm (.z zg (.nil ?_)))
    refine .ret (rT (Fin.ret1 Tryz.results146 rfl ?_))
    exact ⟨_, rfl, .bad hc11, hs.out⟩
  · refine .skip ?_
    refine nT ?_
    refine .seq (.regSeq ?_)
    have hok : s.Ok := s.ok_iff.1 (by simpa using hc11)
    have hm0 := hok.m0
    have hm1 := hok.m1
    have hll := hok.len
    have hnn : (s.n : Int) = s.many + 1 := by simp only [Syst.n]; omega
    refine .z zm (.z (zlen Tryz.runUnderlying25) (.z (zfa fa_api_System_0) (.y hs (zld Tryz.isAgg3) (.z zadd (.z zneq (.z zm ?_))))))
    refine .bifN (t' := 19) rfl (fun hb19 => ?_) (fun hb19 => ?_)
    · refine .gFs 4 6 false rfl rfl rfl ?_
      refine .z zpT (.z zm ?_)
      refine .gFs 2 12 false rfl rfl rfl ?_
      refine .z zpT (.nil ?_)
      refine (.condT rfl rfl ?_)
      refine .regSeq (.z zg (.nil ?_))
      refine .ret (rT (Fin.ret1 Tryz.results146 rfl ?_))
      first
        | exact ⟨_, rfl, .ok hok ⟨by omega, by first | omega | (simpa using hb25), fun v hv => hfree v (by omega), feas_iff.2 fun y hy => by
            obtain ⟨i, hi⟩ := List.getElem?_of_mem hy
            exact h1 i (List.getElem?_eq_some_iff.1 hi).1 y hi⟩, hs.out⟩
        | exact ⟨_, rfl, .off hok (fun h => by have := h.len; omega), hs.out⟩
        | exact ⟨_, rfl, .off hok (fun h => by have := h.zero; first | omega | (simp at hb25; omega)), hs.out⟩
        | exact ⟨_, rfl, .off hok (fun h => by
            obtain ⟨p, h1, h2⟩ := hb27.1 hc28
            obtain ⟨i, hi⟩ := List.getElem?_of_mem h1
            have hil := (List.getElem?_eq_some_iff.1 hi).1
            have := gi_get hil
            rw [hi] at this
            cases this
            exact h2 (h.free i (by have := h.len; omega))), hs.out⟩
        | exact ⟨_, rfl, .off hok (fun h => by
            have h8 := feas_iff.1 h.feas y (List.mem_of_getElem? hy)
            omega), hs.out⟩
    · refine .gT rfl rfl ?_
      refine .z zm ?_
      refine .gT rfl rfl ?_
      refine .ixX (enc := fun x => [I x]) hs hx rfl rfl Tryz.runUnderlying25 Tryz.sizeOf3 (gi_get (l := x) (i := 0) (by omega)) rfl ?_; intro b21 o21 hc21; replace hc21 := CellsAt.one hc21
      refine .gT rfl rfl ?_
      refine .y hs (zld Tryz.isAgg3) ?_
      refine .gT rfl rfl ?_
      refine .z zneq (.z zpF (.z zm ?_))
      refine .bifN (t' := 25) rfl (fun hb25 => ?_) (fun hb25 => ?_)
      · refine .gFs 2 12 false rfl rfl rfl ?_
        refine .z zpT (.nil ?_)
        refine (.condT rfl rfl ?_)
        refine .regSeq (.z zg (.nil ?_))
        refine .ret (rT (Fin.ret1 Tryz.results146 rfl ?_))
        first
          | exact ⟨_, rfl, .ok hok ⟨by omega, by first | omega | (simpa using hb25), fun v hv => hfree v (by omega), feas_iff.2 fun y hy => by
              obtain ⟨i, hi⟩ := List.getElem?_of_mem hy
              exact h1 i (List.getElem?_eq_some_iff.1 hi).1 y hi⟩, hs.out⟩
          | exact ⟨_, rfl, .off hok (fun h => by have := h.len; omega), hs.out⟩
          | exact ⟨_, rfl, .off hok (fun h => by have := h.zero; first | omega | (simp at hb25; omega)), hs.out⟩
          | exact ⟨_, rfl, .off hok (fun h => by
              obtain ⟨p, h1, h2⟩ := hb27.1 hc28
              obtain ⟨i, hi⟩ := List.getElem?_of_mem h1
              have hil := (List.getElem?_eq_some_iff.1 hi).1
              have := gi_get hil
              rw [hi] at this
              cases this
              exact h2 (h.free i (by have := h.len; omega))), hs.out⟩
          | exact ⟨_, rfl, .off hok (fun h => by
              have h8 := feas_iff.1 h.feas y (List.mem_of_getElem? hy)
              omega), hs.out⟩
      · refine .gT rfl rfl ?_
        refine .z zm ?_
        refine .gT rfl rfl ?_
        refine .o (.call Tryz.call129 rfl (ContainsFunc_int (q := fun n => ¬ (-1000000000 ≤ n ∧ n ≤ 1000000000)) (cap := []) hs hx Tryz.call187 (fun w n hs => bound_CheckPoint_1 hs)) ?_); rintro _ w ⟨b27, rfl, hb27, hs⟩
        refine .z zpF (.nil ?_)
        refine (.cond rfl (fun hc28 => ?_) (fun hc28 => ?_))
        · refine .regSeq (.z zg (.nil ?_))
          refine .ret (rT (Fin.ret1 Tryz.results146 rfl ?_))
          first
            | exact ⟨_, rfl, .ok hok ⟨by omega, by first | omega | (simpa using hb25), fun v hv => hfree v (by omega), feas_iff.2 fun y hy => by
                obtain ⟨i, hi⟩ := List.getElem?_of_mem hy
                exact h1 i (List.getElem?_eq_some_iff.1 hi).1 y hi⟩, hs.out⟩
            | exact ⟨_, rfl, .off hok (fun h => by have := h.len; omega), hs.out⟩
            | exact ⟨_, rfl, .off hok (fun h => by have := h.zero; first | omega | (simp at hb25; omega)), hs.out⟩
            | exact ⟨_, rfl, .off hok (fun h => by
                obtain ⟨p, h1, h2⟩ := hb27.1 hc28
                obtain ⟨i, hi⟩ := List.getElem?_of_mem h1
                have hil := (List.getElem?_eq_some_iff.1 hi).1
                have := gi_get hil
                rw [hi] at this
                cases this
                exact h2 (h.free i (by have := h.len; omega))), hs.out⟩
            | exact ⟨_, rfl, .off hok (fun h => by
                have h8 := feas_iff.1 h.feas y (List.mem_of_getElem? hy)
                omega), hs.out⟩
        · refine .skip ?_
          refine nT ?_
          refine .seq (.regSeq (.z (zfa fa_api_System_1) (.y hs (zld Tryz.isAgg22) (.z (zlen Tryz.runUnderlying22) (.z zm (.nil ?_))))))
          refine .for (N := s.lims.length) (J := fun k fr w => fr = [(30, .slice al s.lims.length cl), (1, .slice ax x.length cx)] ∧ (∀ i < k, ∀ y, s.lims[i]? = some y → gi x y.B.toNat ≤ gi x y.A.toNat + y.M) ∧ St H w (.blk b2 [I s.many, .slice al s.lims.length cl] :: σ)) (by omega) ?_ ?_ ?_
          · exact .mk ⟨rfl, fun i hi => by omega, hs⟩
          · have hfree : ∀ v < x.length, -1000000000 ≤ gi x v ∧ gi x v ≤ 1000000000 := fun v hv => by
              apply Classical.byContradiction
              intro h
              have := hb27.2 ⟨gi x v, List.mem_of_getElem? (gi_get hv), h⟩
              subst this
              simp at hc28
            rintro k fr w hk ⟨rfl, h1, hs⟩
            obtain ⟨y, hy⟩ := nth hk
            obtain ⟨⟨y1, y2⟩, ⟨y3, y4⟩, y5, y6, -⟩ := hok.lim y (List.mem_of_getElem? hy)
            have z1 := hfree y.B.toNat (by omega)
            have z2 := hfree y.A.toNat (by omega)
            refine .block (.regSeq ?_)
            refine .ixX (enc := Lim.c) hs hl rfl rfl Tryz.runUnderlying22 Tryz.sizeOf157 hy rfl ?_; intro b34 o34 hc34
            refine .q hs (q_loadsR (vs := y.c) rfl Tryz.isAgg157 Tryz.sizeOf157 hc34) ?_
            refine .o (.alloc hs Tryz.zeroValue157 rfl ?_); intro b7 w hs
            refine .o (.stores (vs := y.c) hs rfl rfl Tryz.sizeOf157 ?_); intro w hs
            refine .nil ?_
            refine .seq (.draw mix rfl hs ?_); intro w hs
            refine .z 0 rfl zm ?_; refine .z 1 rfl (zfa fa_api_Limit_1) ?_; refine .y 2 rfl hs Tryz.isAgg3 ?_
            refine .ixX (enc := fun x => [I x]) (i := 3) hs rfl (by kernel_rfl) .none hx rfl rfl Tryz.runUnderlying25 Tryz.sizeOf3 (gi_get (l := x) (i := y.B.toNat) (by omega)) (by omega) ?_; intro b39 o39 hc39; replace hc39 := CellsAt.one hc39
            refine .r (i := 4) hs rfl (by kernel_rfl) .none (q_loadR rfl Tryz.isAgg3 hc39) ?_
            refine .z 5 rfl zm ?_; refine .z 6 rfl (zfa fa_api_Limit_0) ?_; refine .y 7 rfl hs Tryz.isAgg3 ?_
            refine .ixX (enc := fun x => [I x]) (i := 8) hs rfl (by kernel_rfl) .none hx rfl rfl Tryz.runUnderlying25 Tryz.sizeOf3 (gi_get (l := x) (i := y.A.toNat) (by omega)) (by omega) ?_; intro b44 o44 hc44; replace hc44 := CellsAt.one hc44
            refine .r (i := 9) hs rfl (by kernel_rfl) .none (q_loadR rfl Tryz.isAgg3 hc44) ?_
            refine .z 10 rfl zsub ?_; refine .z 11 rfl (zfa fa_api_Limit_2) ?_; refine .y 12 rfl hs Tryz.isAgg3 ?_; refine .z 13 rfl zgtr ?_; refine .done (by kernel_rfl) hs ?_
            refine (.condD rfl (fun hc49 => ?_) (fun hc49 => ?_))
            · refine .regSeq (.z zg (.nil ?_))
              refine .ret (rB (rT (rB (rT (Fin.ret1 Tryz.results146 rfl ?_)))))
              first
                | exact ⟨_, rfl, .ok hok ⟨by omega, by first | omega | (simpa using hb25), fun v hv => hfree v (by omega), feas_iff.2 fun y hy => by
                    obtain ⟨i, hi⟩ := List.getElem?_of_mem hy
                    exact h1 i (List.getElem?_eq_some_iff.1 hi).1 y hi⟩, hs.out⟩
                | exact ⟨_, rfl, .off hok (fun h => by have := h.len; omega), hs.out⟩
                | exact ⟨_, rfl, .off hok (fun h => by have := h.zero; first | omega | (simp at hb25; omega)), hs.out⟩
                | exact ⟨_, rfl, .off hok (fun h => by
                    obtain ⟨p, h1, h2⟩ := hb27.1 hc28
                    obtain ⟨i, hi⟩ := List.getElem?_of_mem h1
                    have hil := (List.getElem?_eq_some_iff.1 hi).1
                    have := gi_get hil
                    rw [hi] at this
                    cases this
                    exact h2 (h.free i (by have := h.len; omega))), hs.out⟩
                | exact ⟨_, rfl, .off hok (fun h => by
                    have h8 := feas_iff.1 h.feas y (List.mem_of_getElem? hy)
                    omega), hs.out⟩
            · refine .skip ?_
              refine nB (nT ?_)
              exact .mk ⟨rfl, fun i hi z hz => by
                by_cases e : i = k
                · subst e; rw [hy] at hz; cases hz; omega
                · exact h1 i (by omega) z hz, hs.out⟩
          · have hfree : ∀ v < x.length, -1000000000 ≤ gi x v ∧ gi x v ≤ 1000000000 := fun v hv => by
              apply Classical.byContradiction
              intro h
              have := hb27.2 ⟨gi x v, List.mem_of_getElem? (gi_get hv), h⟩
              subst this
              simp at hc28
            rintro fr w ⟨rfl, h1, hs⟩
            refine nT ?_
            refine .regSeq (.z zg (.nil ?_))
            refine .ret (Fin.ret1 Tryz.results146 rfl ?_)
            first
              | exact ⟨_, rfl, .ok hok ⟨by omega, by first | omega | (simpa using hb25), fun v hv => hfree v (by omega), feas_iff.2 fun y hy => by
                  obtain ⟨i, hi⟩ := List.getElem?_of_mem hy
                  exact h1 i (List.getElem?_eq_some_iff.1 hi).1 y hi⟩, hs.out⟩
              | exact ⟨_, rfl, .off hok (fun h => by have := h.len; omega), hs.out⟩
              | exact ⟨_, rfl, .off hok (fun h => by have := h.zero; first | omega | (simp at hb25; omega)), hs.out⟩
              | exact ⟨_, rfl, .off hok (fun h => by
                  obtain ⟨p, h1, h2⟩ := hb27.1 hc28
                  obtain ⟨i, hi⟩ := List.getElem?_of_mem h1
                  have hil := (List.getElem?_eq_some_iff.1 hi).1
                  have := gi_get hil
                  rw [hi] at this
                  cases this
                  exact h2 (h.free i (by have := h.len; omega))), hs.out⟩
              | exact ⟨_, rfl, .off hok (fun h => by
                  have h8 := feas_iff.1 h.feas y (List.mem_of_getElem? hy)
                  omega), hs.out⟩
end Go.Proofs.YtiiokdeehlfeeaaGreat

namespace Go.Proofs.YtiiokdeehlfeeaaGreat
open Go.MW
def apartV (a : Quest) (A B : List Int) (k : Nat) : Int := sumTo (fun i => gi a.ws i * (gi B i - gi A i)) k
inductive ApR (a : Quest) (l : List Prb) (A B : List Int) : Int → Int → Prop
  | point (h1 : ¬ (KeepsP a.sys A ∧ KeepsP a.sys B)) : ApR a l A B 0 25
  | far (h1 : KeepsP a.sys A) (h2 : KeepsP a.sys B) (h3 : ¬ Near l (gi A) (gi B)) : ApR a l A B 0 92
  | ok (h1 : KeepsP a.sys A) (h2 : KeepsP a.sys B) (h3 : Near l (gi A) (gi B)) : ApR a l A B (IntKind.i64.wrap (apartV a A B a.ws.length)) 0
theorem ApR.uniq {a : Quest} {l : List Prb} {A B : List Int} {n m e f : Int} (h : ApR a l A B n e) (g : ApR a l A B m f) : n = m ∧ e = f := by
  cases h with
  | point h1 =>
    cases g with
    | point => exact ⟨rfl, rfl⟩
    | far g1 g2 _ => exact (h1 ⟨g1, g2⟩).elim
    | ok g1 g2 _ => exact (h1 ⟨g1, g2⟩).elim
  | far h1 h2 h3 =>
    cases g with
    | point g1 => exact (g1 ⟨h1, h2⟩).elim
    | far => exact ⟨rfl, rfl⟩
    | ok _ _ g3 => exact (h3 g3).elim
  | ok h1 h2 h3 =>
    cases g with
    | point g1 => exact (g1 ⟨h1, h2⟩).elim
    | far _ _ g3 => exact (g3 h3).elim
    | ok => exact ⟨rfl, rfl⟩
def TwnR (a : Quest) (l : List Prb) (A B : List Int) (n e : Int) : Prop := (CPrbR a l e ∧ e ≠ 0 ∧ n = 0) ∨ (CPrbR a l 0 ∧ ApR a l A B n e)
theorem TwnR.uniq {a : Quest} {l : List Prb} {A B : List Int} {n m e f : Int} (h : TwnR a l A B n e) (g : TwnR a l A B m f) : n = m ∧ e = f := by
  rcases h with ⟨h1, h2, h3⟩ | ⟨h1, h2⟩
  · rcases g with ⟨g1, g2, g3⟩ | ⟨g1, g2⟩
    · exact ⟨by omega, h1.uniq g1⟩
    · exact (h2 (h1.uniq g1)).elim
  · rcases g with ⟨g1, g2, g3⟩ | ⟨g1, g2⟩
    · exact (g2 (g1.uniq h1)).elim
    · exact h2.uniq g2
theorem apartV_succ (a : Quest) (A B : List Int) (k : Nat) : apartV a A B (k + 1) = apartV a A B k + gi a.ws k * (gi B k - gi A k) := rfl
theorem near_upto {l : List Prb} {x y : Nat → Int} (h : ∀ i < l.length, x (getP l i).u.toNat - y (getP l i).u.toNat ≤ 2 * (getP l i).t ∧ y (getP l i).u.toNat - x (getP l i).u.toNat ≤ 2 * (getP l i).t) : Near l x y := fun p hp => by
  obtain ⟨i, hi⟩ := List.getElem?_of_mem hp
  have hil := (List.getElem?_eq_some_iff.1 hi).1
  have e := getP_get hil
  rw [hi] at e
  cases e
  exact h i hil
set_option maxHeartbeats 4000000 in
theorem probe_apart_spec {H : Heap} {w : World} {σ : List Ent} {v vl va vb : Value} {a : Quest} {l : List Prb} {A B : List Int} (hs : St H w σ) (hr : RAsk H v a) (hp : RPs H vl l) (hA : RI H va A) (hB : RI H vb B) (hok : AskOk a) (hlen : l.length ≤ 8) (hin : ∀ p ∈ l, PrbIn a p) :
    Cl Tryz.prog 66 [v, vl, .agg #[va, vb]] w fun u w' => ∃ n e, u = .tuple #[I n, I e] ∧ ApR a l A B n e ∧ St H w' σ := by
  obtain ⟨ul, uw, rfl, hl, hw⟩ := hr
  obtain ⟨al, cl, rfl⟩ := RL.shape hl
  obtain ⟨aw, cw, rfl⟩ := RI.shape hw
  obtain ⟨ap, cp, rfl⟩ := RPs.shape hp
  obtain ⟨aA, cA, rfl⟩ := RI.shape hA
  obtain ⟨aB, cB, rfl⟩ := RI.shape hB
  have hwl := hok.wl
  have hm1 := hok.many
  have hm0 := hok.ok.m0
  have hnn : (a.sys.n : Int) = a.sys.many + 1 := by simp only [Syst.n]; omega
  refine Cl.of Tryz.func66 rfl Tryz.ntmps66 (by simp) (args_cons (k := 0) rfl (args_cons (k := 1) rfl (args_cons (k := 2) rfl (args0)))) ?_
  refine .regSeq ?_
  refine .o (.box hs rfl rfl ?_); intro b3 w hs
  refine .o (.box hs rfl rfl ?_); intro b5 w hs
  refine .z zg (.z zg (.nil (.seq (.regSeq (.z (zfa fa_api_Twins_0) (.y hs (zld Tryz.isAgg25) (.z (zfa fa_api_Twins_1) (.y hs (zld Tryz.isAgg25) ?_))))))))
  refine .o (.buildSlice (cells := [_, _]) hs bls_slLL_int_2 rfl rfl ?_); intro b20 w hs
  refine .z (zlen Tryz.runUnderlying29) (.z zm (.nil ?_))
  refine .for (N := 2) (J := fun k fr w => fr = [(20, .slice (some ⟨b20, 0, none⟩) 2 2), (3, .pointer (some ⟨b3, 0, none⟩)), (5, .pointer (some ⟨b5, 0, none⟩)), (1, .slice ap l.length cp)] ∧ (0 < k → KeepsP a.sys A) ∧ (1 < k → KeepsP a.sys B) ∧   St H w (.blk b20 [.slice aA A.length cA, .slice aB B.length cB] :: .blk b5 [.slice aA A.length cA, .slice aB B.length cB] :: .blk b3 [I a.sys.many, .slice al a.sys.lims.length cl, .slice aw a.ws.length cw, I a.width] :: σ)) (by omega) ?_ ?_ ?_
  · exact .mk ⟨rfl, fun h => by omega, fun h => by omega, hs⟩
  · rintro k fr w hk ⟨rfl, k1, k2, hs⟩
    obtain ⟨X, aX, cX, hX, hget, hx0, hx1⟩ : ∃ X aX cX, RI H (.slice aX X.length cX) X ∧ ([Value.slice aA A.length cA, .slice aB B.length cB] : List Value)[k]? = some (.slice aX X.length cX) ∧ (k = 0 → X = A) ∧ (k = 1 → X = B) := by
      rcases (by omega : k = 0 ∨ k = 1) with rfl | rfl
      · exact ⟨A, aA, cA, hA, rfl, fun _ => rfl, fun h => by omega⟩
      · exact ⟨B, aB, cB, hB, rfl, fun h => by omega, fun _ => rfl⟩
    refine .block (.regSeq (.z (zix Tryz.runUnderlying29 Tryz.sizeOf25) ?_))
    refine .q hs (q_load rfl Tryz.isAgg25 (hv := hget)) ?_
    refine .z zg (.nil (.regSeq (.z (zfa fa_api_Ask_0) (.y hs (zls [_, _] Tryz.isAgg24 Tryz.sizeOf24) (.z zm ?_)))))
    refine .o (.call Tryz.call146 rfl (bound_CheckPoint_spec (s := a.sys) (x := X) hs ⟨_, rfl, hl⟩ hX) ?_); rintro _ w ⟨e29, rfl, hC, hs⟩
    refine .z zneq (.nil ?_)
    refine (.condN rfl (fun hc30 => ?_) (fun hc30 => ?_))
    · refine .regSeq (.z zg (.z zg (.nil ?_)))
      refine .ret (rB (rT (rB (rT (Fin.ret2 Tryz.results66 rfl rfl ?_)))))
      have h25 : ¬ KeepsP a.sys X := fun h => hc30 (hC.uniq (.ok hok.ok h))
      exact ⟨_, _, rfl, .point (fun h => h25 (by
        rcases (by omega : k = 0 ∨ k = 1) with e | e
        · rw [hx0 e]; exact h.1
        · rw [hx1 e]; exact h.2)), hs.out⟩
    · refine .skip ?_
      refine nB (nT ?_)
      have hkX : KeepsP a.sys X := by
        subst hc30
        generalize hz : (0 : Int) = z at hC
        cases hC with
        | bad h => exact (h hz.symm).elim
        | off _ _ => omega
        | ok _ h => exact h
      exact .mk ⟨rfl, fun _ => by
        by_cases e : k = 0
        · rw [← hx0 e]; exact hkX
        · exact k1 (by omega), fun _ => by
        have e : k = 1 := by omega
        rw [← hx1 e]; exact hkX, hs⟩
  · rintro fr w ⟨rfl, k1, k2, hs⟩
    have kA := k1 (by omega)
    have kB := k2 (by omega)
    have lA := kA.len
    have lB := kB.len
    refine nT ?_
    refine .seq (.regSeq (.z zm (.z (zlen Tryz.runUnderlying28) (.z zm (.nil ?_)))))
    refine .for (N := l.length) (J := fun k fr w => fr = [(32, .slice ap l.length cp), (3, .pointer (some ⟨b3, 0, none⟩)), (5, .pointer (some ⟨b5, 0, none⟩))] ∧ (∀ i < k, gi A (getP l i).u.toNat - gi B (getP l i).u.toNat ≤ 2 * (getP l i).t ∧ gi B (getP l i).u.toNat - gi A (getP l i).u.toNat ≤ 2 * (getP l i).t) ∧   St H w (.blk b5 [.slice aA A.length cA, .slice aB B.length cB] :: .blk b3 [I a.sys.many, .slice al a.sys.lims.length cl, .slice aw a.ws.length cw, I a.width] :: σ)) (by omega) ?_ ?_ ?_
    · exact .mk ⟨rfl, fun i h => by omega, hs.tail⟩
    · rintro k fr w hk ⟨rfl, hn, hs⟩
      have hg := getP_get hk
      obtain ⟨⟨u1, u2⟩, t1, t2⟩ := hin _ (getP_mem hk)
      have fA := kA.free (getP l k).u.toNat (by omega)
      have fB := kB.free (getP l k).u.toNat (by omega)
      refine .block (.regSeq ?_)
      refine .ixX (enc := Prb.c) hs hp rfl rfl Tryz.runUnderlying28 Tryz.sizeOf54 hg rfl ?_; intro b36 o36 hc36
      refine .q hs (q_loadsR (vs := (getP l k).c) rfl Tryz.isAgg54 Tryz.sizeOf54 hc36) ?_
      refine .o (.alloc hs Tryz.zeroValue54 rfl ?_); intro b11 w hs
      refine .o (.stores (vs := (getP l k).c) hs rfl rfl Tryz.sizeOf54 ?_); intro w hs
      refine .nil ?_
      refine .seq (.draw mix rfl hs ?_); intro w hs
      refine .z 0 rfl (zfa fa_api_Twins_0) ?_; refine .y 1 rfl hs Tryz.isAgg25 ?_; refine .z 2 rfl (zfa fa_api_Probe_0) ?_; refine .y 3 rfl hs Tryz.isAgg3 ?_
      refine .ixX (enc := fun x => [I x]) (i := 4) hs rfl (by kernel_rfl) .none hA rfl rfl Tryz.runUnderlying25 Tryz.sizeOf3 (gi_get (l := A) (i := (getP l k).u.toNat) (by omega)) (by omega) ?_; intro b42 o42 hc42; replace hc42 := CellsAt.one hc42
      refine .r (i := 5) hs rfl (by kernel_rfl) .none (q_loadR rfl Tryz.isAgg3 hc42) ?_
      refine .z 6 rfl (zfa fa_api_Twins_1) ?_; refine .y 7 rfl hs Tryz.isAgg25 ?_; refine .z 8 rfl (zfa fa_api_Probe_0) ?_; refine .y 9 rfl hs Tryz.isAgg3 ?_
      refine .ixX (enc := fun x => [I x]) (i := 10) hs rfl (by kernel_rfl) .none hB rfl rfl Tryz.runUnderlying25 Tryz.sizeOf3 (gi_get (l := B) (i := (getP l k).u.toNat) (by omega)) (by omega) ?_; intro b48 o48 hc48; replace hc48 := CellsAt.one hc48
      refine .r (i := 11) hs rfl (by kernel_rfl) .none (q_loadR rfl Tryz.isAgg3 hc48) ?_
      refine .z 12 rfl zsub ?_; refine .z 13 rfl zg ?_; refine .done (by kernel_rfl) hs ?_
      refine .regSeq (.z zm (.z zm (.z zneg (.z zmax (.z (zfa fa_api_Probe_1) (.y hs (zld Tryz.isAgg3) (.z zmul (.z zgtr (.nil ?_)))))))))
      refine (.condD rfl (fun hc58 => ?_) (fun hc58 => ?_))
      · refine .regSeq (.z zg (.z zg (.nil ?_)))
        refine .ret (rB (rT (rB (rT (Fin.ret2 Tryz.results66 rfl rfl ?_)))))
        exact ⟨_, _, rfl, .far kA kB (fun h => by have := h _ (getP_mem hk); omega), hs.out⟩
      · refine .skip ?_
        refine nB (nT ?_)
        exact .mk ⟨rfl, fun i hi => by
          by_cases e : i = k
          · subst e; omega
          · exact hn i (by omega), hs.out⟩
    · rintro fr w ⟨rfl, hn, hs⟩
      refine nT ?_
      refine .regSeq (.z zg (.nil (.seq (.regSeq (.z (zfa fa_api_Ask_1) (.y hs (zld Tryz.isAgg25) (.z (zlen Tryz.runUnderlying25) (.z zm (.nil ?_)))))))))
      refine .for (N := a.ws.length) (J := fun k fr w => fr = [(61, .slice aw a.ws.length cw), (13, I (IntKind.i64.wrap (apartV a A B k))), (5, .pointer (some ⟨b5, 0, none⟩))] ∧   St H w (.blk b5 [.slice aA A.length cA, .slice aB B.length cB] :: .blk b3 [I a.sys.many, .slice al a.sys.lims.length cl, .slice aw a.ws.length cw, I a.width] :: σ)) (by omega) ?_ ?_ ?_
      · exact .mk ⟨rfl, hs⟩ (hs := .consI rfl rfl (.consI rfl rfl (.cons rfl (.consI rfl (by simp [apartV, sumTo, i64wrap_eq]) (by repeat (first | exact .nil rfl rfl | refine .cons rfl ?_))))))
      · rintro k fr w hk ⟨rfl, hs⟩
        have hgw := gi_get (l := a.ws) (i := k) hk
        have fA := kA.free k (by omega)
        have fB := kB.free k (by omega)
        have gA := gi_get (l := A) (i := k) (by omega)
        have gB := gi_get (l := B) (i := k) (by omega)
        refine .block (.regSeq (.z zm ?_))
        first | (refine .ixv hs Tryz.runUnderlying25 Tryz.sizeOf3 ?_; intro b66 o66 hc66) | refine .z (zix Tryz.runUnderlying25 Tryz.sizeOf3) ?_
        refine .y hs (zld Tryz.isAgg3) (.z zg (.z zg (.nil ?_)))
        refine .draw mix rfl hs ?_; intro w hs
        refine .z 0 rfl zm ?_; refine .z 1 rfl zm ?_; refine .z 2 rfl (zfa fa_api_Twins_1) ?_; refine .y 3 rfl hs Tryz.isAgg25 ?_; refine .z 4 rfl zm ?_
        refine .ixX (enc := fun x => [I x]) (i := 5) hs rfl (by kernel_rfl) .none hB rfl rfl Tryz.runUnderlying25 Tryz.sizeOf3 gB rfl ?_; intro b73 o73 hc73; replace hc73 := CellsAt.one hc73
        refine .r (i := 6) hs rfl (by kernel_rfl) .none (q_loadR rfl Tryz.isAgg3 hc73) ?_
        refine .z 7 rfl (zfa fa_api_Twins_0) ?_; refine .y 8 rfl hs Tryz.isAgg25 ?_; refine .z 9 rfl zm ?_
        refine .ixX (enc := fun x => [I x]) (i := 10) hs rfl (by kernel_rfl) .none hA rfl rfl Tryz.runUnderlying25 Tryz.sizeOf3 gA rfl ?_; intro b78 o78 hc78; replace hc78 := CellsAt.one hc78
        refine .r (i := 11) hs rfl (by kernel_rfl) .none (q_loadR rfl Tryz.isAgg3 hc78) ?_
        refine .z 12 rfl zsub ?_; refine .z 13 rfl (q_mul rfl rfl) ?_; refine .z 14 rfl (q_add rfl rfl) ?_; refine .z 15 rfl zg ?_; refine .done (by kernel_rfl) hs ?_
        refine nB (nT ?_)
        exact .mk ⟨rfl, hs⟩ (hs := .consI rfl (by push_cast; omega) (.cons rfl (.cons rfl (.consI rfl (by rw [i64wrap_add2, i64wrap_add, apartV_succ]) (by repeat (first | exact .nil rfl rfl | refine .cons rfl ?_))))))
      · rintro fr w ⟨rfl, hs⟩
        refine nT ?_
        refine .regSeq (.z zm (.z zg (.z zg (.nil ?_))))
        refine .ret (Fin.ret2 Tryz.results66 rfl rfl ?_)
        exact ⟨_, _, rfl, .ok kA kB (near_upto hn), hs.out⟩
set_option maxHeartbeats 4000000 in
theorem ref09_twins_spec {H : Heap} {w : World} {σ : List Ent} {v vl va vb : Value} {a : Quest} {l : List Prb} {A B : List Int} (hs : St H w σ) (hr : RAsk H v a) (hp : RPs H vl l) (hA : RI H va A) (hB : RI H vb B) (hok : AskOk a) (hlen : l.length ≤ 8) (hin : ∀ p ∈ l, PrbIn a p) :
    Cl Tryz.prog 67 [v, vl, .agg #[va, vb]] w fun u w' => ∃ n e, u = .tuple #[I n, I e] ∧ ApR a l A B n e ∧ St H w' σ := by
  obtain ⟨ul, uw, rfl, hl, hw⟩ := hr
  obtain ⟨al, cl, rfl⟩ := RL.shape hl
  obtain ⟨aw, cw, rfl⟩ := RI.shape hw
  obtain ⟨ap, cp, rfl⟩ := RPs.shape hp
  obtain ⟨aA, cA, rfl⟩ := RI.shape hA
  obtain ⟨aB, cB, rfl⟩ := RI.shape hB
  have hwl := hok.wl
  have hm1 := hok.many
  have hm0 := hok.ok.m0
  have hnn : (a.sys.n : Int) = a.sys.many + 1 := by simp only [Syst.n]; omega
  refine Cl.of Tryz.func67 rfl Tryz.ntmps67 (by simp) (args_cons (k := 0) rfl (args_cons (k := 1) rfl (args_cons (k := 2) rfl (args0)))) ?_
  refine .regSeq ?_
  refine .o (.box hs rfl rfl ?_); intro b3 w hs
  refine .o (.box hs rfl rfl ?_); intro b5 w hs
  refine .z zg (.z zg (.nil (.seq (.regSeq (.z (zfa fa_api_Ask_0) (.y hs (zls [_, _] Tryz.isAgg24 Tryz.sizeOf24) (.z (zfa fa_api_Twins_0) (.y hs (zld Tryz.isAgg25) ?_))))))))
  refine .o (.call Tryz.call147 rfl (ref02_CheckPoint_spec (s := a.sys) (x := A) hs ⟨_, rfl, hl⟩ hA) ?_); rintro _ w ⟨eA, rfl, hCA, hs⟩
  refine .z zneq (.z zm ?_)
  refine .bifN (t' := 18) rfl (fun hb18 => ?_) (fun hb18 => ?_)
  · refine .gFs 6 6 false rfl rfl rfl ?_
    refine .z zpT (.nil ?_)
    refine (.condT rfl rfl ?_)
    refine .regSeq (.z zg (.z zg (.nil ?_)))
    refine .ret (rT (Fin.ret2 Tryz.results67 rfl rfl ?_))
    exact ⟨_, _, rfl, .point (fun h => by have := hCA.uniq (.ok hok.ok h.1); simp_all), hs.out⟩
  · refine .gT rfl rfl ?_
    refine .z (zfa fa_api_Ask_0) ?_
    refine .gT rfl rfl ?_
    refine .y hs (zls [_, _] Tryz.isAgg24 Tryz.sizeOf24) ?_
    refine .gT rfl rfl ?_
    refine .z (zfa fa_api_Twins_1) ?_
    refine .gT rfl rfl ?_
    refine .y hs (zld Tryz.isAgg25) ?_
    refine .gT rfl rfl ?_
    refine .o (.call Tryz.call147 rfl (ref02_CheckPoint_spec (s := a.sys) (x := B) hs ⟨_, rfl, hl⟩ hB) ?_); rintro _ w ⟨eB, rfl, hCB, hs⟩
    refine .gT rfl rfl ?_
    refine .z zneq (.z zpF (.nil ?_))
    refine (.condN rfl (fun hc25 => ?_) (fun hc25 => ?_))
    · refine .regSeq (.z zg (.z zg (.nil ?_)))
      refine .ret (rT (Fin.ret2 Tryz.results67 rfl rfl ?_))
      exact ⟨_, _, rfl, .point (fun h => by have := hCB.uniq (.ok hok.ok h.2); simp_all), hs.out⟩
    · refine .skip ?_
      refine nT ?_
      refine .seq (.regSeq (.z zg (.nil ?_)))
      have keep : ∀ {X : List Int} {e : Int}, CPtR a.sys X e → e = 0 → KeepsP a.sys X := by
        intro X e h he
        cases h with
        | bad h => exact (h he).elim
        | off _ _ => omega
        | ok _ h => exact h
      have kA := keep hCA (by simp_all)
      have kB := keep hCB (by simp_all)
      have lA := kA.len
      have lB := kB.len
      refine .block ?_
      refine .loop (fun p : Nat => ⟨94, [], [(8, I (p : Int)), (3, .pointer (some ⟨b3, 0, none⟩)), (5, .pointer (some ⟨b5, 0, none⟩)), (1, .slice ap l.length cp)]⟩)
        (fun p w => p ≤ l.length ∧ (∀ i < p, gi A (getP l i).u.toNat - gi B (getP l i).u.toNat ≤ 2 * (getP l i).t ∧ gi B (getP l i).u.toNat - gi A (getP l i).u.toNat ≤ 2 * (getP l i).t) ∧ St H w (.blk b5 [.slice aA A.length cA, .slice aB B.length cB] :: .blk b3 [I a.sys.many, .slice al a.sys.lims.length cl, .slice aw a.ws.length cw, I a.width] :: σ))
        (fun p => l.length - p) 0 (by repeat (first | exact .nil rfl rfl | refine .cons rfl ?_))
        ⟨by omega, fun i h => by omega, hs⟩ ?_
      rintro k w ⟨hk, hn, hs⟩
      refine .seq (.regSeq (.z zm (.z zm (.z (zlen Tryz.runUnderlying28) (.z zlss (.nil ?_))))))
      refine (.condD rfl (fun hc29 => ?_) (fun hc29 => ?_))
      · refine .skip ?_
        refine nT ?_
        refine .seq (.block (.regSeq ?_))
        have hk' : k < l.length := by omega
        have hg := getP_get hk'
        obtain ⟨⟨u1, u2⟩, t1, t2⟩ := hin _ (getP_mem hk')
        have fA := kA.free (getP l k).u.toNat (by omega)
        have fB := kB.free (getP l k).u.toNat (by omega)
        have gA := gi_get (l := A) (i := (getP l k).u.toNat) (by omega)
        have gB := gi_get (l := B) (i := (getP l k).u.toNat) (by omega)
        refine .z zm (.z zm ?_)
        refine .ixX (enc := Prb.c) hs hp rfl rfl Tryz.runUnderlying28 Tryz.sizeOf54 hg rfl ?_; intro b34 o34 hc34
        refine .z (zfa fa_api_Probe_0) ?_
        refine .q hs (q_loadR rfl Tryz.isAgg3 (hc34.get 0 rfl)) ?_
        refine .z zg (.nil ?_)
        refine .seq (.draw mix rfl hs ?_); intro w hs
        refine .z 0 rfl (zfa fa_api_Twins_0) ?_; refine .y 1 rfl hs Tryz.isAgg25 ?_; refine .z 2 rfl zm ?_
        refine .ixX (enc := fun x => [I x]) (i := 3) hs rfl (by kernel_rfl) .none hA rfl rfl Tryz.runUnderlying25 Tryz.sizeOf3 gA (by omega) ?_; intro b40 o40 hc40; replace hc40 := CellsAt.one hc40
        refine .r (i := 4) hs rfl (by kernel_rfl) .none (q_loadR rfl Tryz.isAgg3 hc40) ?_
        refine .z 5 rfl (zfa fa_api_Twins_1) ?_; refine .y 6 rfl hs Tryz.isAgg25 ?_; refine .z 7 rfl zm ?_
        refine .ixX (enc := fun x => [I x]) (i := 8) hs rfl (by kernel_rfl) .none hB rfl rfl Tryz.runUnderlying25 Tryz.sizeOf3 gB (by omega) ?_; intro b45 o45 hc45; replace hc45 := CellsAt.one hc45
        refine .r (i := 9) hs rfl (by kernel_rfl) .none (q_loadR rfl Tryz.isAgg3 hc45) ?_
        refine .z 10 rfl zsub ?_; refine .z 11 rfl (zfa fa_api_Twins_1) ?_; refine .y 12 rfl hs Tryz.isAgg25 ?_; refine .z 13 rfl zm ?_
        refine .ixX (enc := fun x => [I x]) (i := 14) hs rfl (by kernel_rfl) .none hB rfl rfl Tryz.runUnderlying25 Tryz.sizeOf3 gB (by omega) ?_; intro b51 o51 hc51; replace hc51 := CellsAt.one hc51
        refine .r (i := 15) hs rfl (by kernel_rfl) .none (q_loadR rfl Tryz.isAgg3 hc51) ?_
        refine .z 16 rfl (zfa fa_api_Twins_0) ?_; refine .y 17 rfl hs Tryz.isAgg25 ?_; refine .z 18 rfl zm ?_
        refine .ixX (enc := fun x => [I x]) (i := 19) hs rfl (by kernel_rfl) .none hA rfl rfl Tryz.runUnderlying25 Tryz.sizeOf3 gA (by omega) ?_; intro b56 o56 hc56; replace hc56 := CellsAt.one hc56
        refine .r (i := 20) hs rfl (by kernel_rfl) .none (q_loadR rfl Tryz.isAgg3 hc56) ?_
        refine .z 21 rfl zsub ?_; refine .z 22 rfl zmax ?_; refine .z 23 rfl zm ?_; refine .z 24 rfl zm ?_
        refine .ixX (enc := Prb.c) (i := 25) hs rfl (by kernel_rfl) .none hp rfl rfl Tryz.runUnderlying28 Tryz.sizeOf54 hg rfl ?_; intro b62 o62 hc62
        refine .z 26 rfl (zfa fa_api_Probe_1) ?_
        refine .r (i := 27) hs rfl (by kernel_rfl) .none (q_loadR rfl Tryz.isAgg3 (hc62.get 1 rfl)) ?_
        refine .z 28 rfl zmul ?_; refine .z 29 rfl zgtr ?_; refine .done (by kernel_rfl) hs ?_
        refine (.condD rfl (fun hc66 => ?_) (fun hc66 => ?_))
        · refine .regSeq (.z zg (.z zg (.nil ?_)))
          refine .ret (rB (rT (rT (rB (rT (Fin.ret2 Tryz.results67 rfl rfl ?_))))))
          exact ⟨_, _, rfl, .far kA kB (fun h => by have := h _ (getP_mem hk'); omega), hs.out⟩
        · refine .skip ?_
          refine nB (nT ?_)
          refine .region (.z zm (.z zadd (.z zg (.nil ?_))))
          refine nT ?_
          exact ⟨k + 1, .consI rfl (by push_cast; omega) (by repeat (first | exact .nil rfl rfl | refine .cons rfl ?_)), ⟨by omega, fun i hi => by
            by_cases e : i = k
            · subst e; omega
            · exact hn i (by omega), hs⟩, by omega⟩
      · refine .exit ?_
        refine xT (xT (xB (nT ?_)))
        refine .regSeq (.z zg (.nil (.seq (.regSeq (.z zg (.nil (.block ?_)))))))
        refine .loop (fun p : Nat => ⟨94, [], [(11, I (p : Int)), (10, I (IntKind.i64.wrap (apartV a A B p))), (3, .pointer (some ⟨b3, 0, none⟩)), (5, .pointer (some ⟨b5, 0, none⟩))]⟩)
          (fun p w => p ≤ a.ws.length ∧ St H w (.blk b5 [.slice aA A.length cA, .slice aB B.length cB] :: .blk b3 [I a.sys.many, .slice al a.sys.lims.length cl, .slice aw a.ws.length cw, I a.width] :: σ))
          (fun p => a.ws.length - p) 0 (.consI rfl rfl (.consI rfl (by simp [apartV, sumTo, i64wrap_eq]) (by repeat (first | exact .nil rfl rfl | refine .cons rfl ?_))))
          ⟨by omega, hs⟩ ?_
        rintro q w ⟨hq, hs⟩
        refine .seq (.regSeq (.z zm (.z (zfa fa_api_Ask_1) (.y hs (zld Tryz.isAgg25) (.z (zlen Tryz.runUnderlying25) (.z zlss (.nil ?_)))))))
        refine (.condD rfl (fun hc71 => ?_) (fun hc71 => ?_))
        · refine .skip ?_
          refine nT ?_
          refine .seq (.block ?_)
          refine .draw mix rfl hs ?_; intro w hs
          have hq' : q < a.ws.length := by omega
          have fA := kA.free q (by omega)
          have fB := kB.free q (by omega)
          have gA := gi_get (l := A) (i := q) (by omega)
          have gB := gi_get (l := B) (i := q) (by omega)
          refine .z 0 rfl zm ?_; refine .z 1 rfl (zfa fa_api_Ask_1) ?_; refine .y 2 rfl hs Tryz.isAgg25 ?_; refine .z 3 rfl zm ?_
          refine .ixX (enc := fun x => [I x]) (i := 4) hs rfl (by kernel_rfl) .none hw rfl rfl Tryz.runUnderlying25 Tryz.sizeOf3 (gi_get (l := a.ws) hq') rfl ?_; intro b78 o78 hc78; replace hc78 := CellsAt.one hc78
          refine .r (i := 5) hs rfl (by kernel_rfl) .none (q_loadR rfl Tryz.isAgg3 hc78) ?_
          refine .z 6 rfl (zfa fa_api_Twins_1) ?_; refine .y 7 rfl hs Tryz.isAgg25 ?_; refine .z 8 rfl zm ?_
          refine .ixX (enc := fun x => [I x]) (i := 9) hs rfl (by kernel_rfl) .none hB rfl rfl Tryz.runUnderlying25 Tryz.sizeOf3 gB rfl ?_; intro b83 o83 hc83; replace hc83 := CellsAt.one hc83
          refine .r (i := 10) hs rfl (by kernel_rfl) .none (q_loadR rfl Tryz.isAgg3 hc83) ?_
          refine .z 11 rfl (zfa fa_api_Twins_0) ?_; refine .y 12 rfl hs Tryz.isAgg25 ?_; refine .z 13 rfl zm ?_
          refine .ixX (enc := fun x => [I x]) (i := 14) hs rfl (by kernel_rfl) .none hA rfl rfl Tryz.runUnderlying25 Tryz.sizeOf3 gA rfl ?_; intro b88 o88 hc88; replace hc88 := CellsAt.one hc88
          refine .r (i := 15) hs rfl (by kernel_rfl) .none (q_loadR rfl Tryz.isAgg3 hc88) ?_
          refine .z 16 rfl zsub ?_; refine .z 17 rfl (q_mul rfl rfl) ?_; refine .z 18 rfl (q_add rfl rfl) ?_; refine .z 19 rfl zg ?_; refine .done (by kernel_rfl) hs ?_
          refine nB (nT ?_)
          refine .region (.z zm (.z zadd (.z zg (.nil ?_))))
          refine nT ?_
          exact ⟨q + 1, .consI rfl (by push_cast; omega) (.consI rfl (by rw [i64wrap_add2, i64wrap_add, apartV_succ]) (by repeat (first | exact .nil rfl rfl | refine .cons rfl ?_))), ⟨by omega, hs⟩, by omega⟩
        · refine .exit ?_
          refine xT (xT (xB (nT ?_)))
          refine .regSeq (.z zm (.z zg (.z zg (.nil ?_))))
          refine .ret (Fin.ret2 Tryz.results67 rfl rfl ?_)
          obtain rfl : q = a.ws.length := by omega
          exact ⟨_, _, rfl, .ok kA kB (near_upto (fun i hi => hn i (by omega))), hs.out⟩
end Go.Proofs.YtiiokdeehlfeeaaGreat

namespace Go.Proofs.YtiiokdeehlfeeaaGreat
open Go.MW
theorem gi_takeN {xs : List Int} {n v : Nat} (h : v < n) : gi (xs.take n) v = gi xs v := by
  simp [gi, List.getD, h]
theorem gi_dropN {xs : List Int} {n v : Nat} : gi (xs.drop n) v = gi xs (n + v) := by
  simp [gi, List.getD, List.getElem?_drop]
theorem sumTo_diff (f g : Nat → Int) : ∀ n, sumTo (fun v => f v - g v) n = sumTo f n - sumTo g n
  | 0 => rfl
  | n + 1 => by simp only [sumTo, sumTo_diff f g n]; omega
structure TwinF (a : Quest) (l : List Prb) (A B : List Int) : Prop where
  kA : KeepsP a.sys A
  kB : KeepsP a.sys B
  near : Near l (gi A) (gi B)
  most : PairS a l (apartV a A B a.ws.length)
  meet : meetErr A B l = 0
theorem twin_facts {a : Quest} {l : List Prb} {A B : List Int} (hok : AskOk a) (hin : ∀ p ∈ l, PrbIn a p) (h : TwinR a l (A, B)) : TwinF a l A B := by
  obtain ⟨xs, hB, hE⟩ := h
  obtain ⟨rfl, rfl⟩ := Prod.mk.inj hE
  obtain ⟨N, hN⟩ := Int.eq_ofNat_of_zero_le hok.ok.m0
  have en : a.sys.n = N + 1 := by simp only [Syst.n]; omega
  have ed : (dblS a l).n = N + N + 1 := by simp only [Syst.n, dblS]; omega
  have hlen : xs.length = N + N + 1 := by rw [hB.len, ed]
  have hwl : a.ws.length = N + 1 := by rw [hok.wl, en]
  have gA : ∀ v < a.sys.n, gi (xs.take a.sys.n) v = gi xs v := fun v hv => gi_takeN hv
  have gB : ∀ v < a.sys.n, gi (0 :: xs.drop a.sys.n) v = sndP N (gi xs) v := fun v hv => by
    cases v with
    | zero => show (0 : Int) = gi xs 0; rw [hB.zero]
    | succ v =>
      rw [gi_cons, gi_dropN]
      unfold sndP
      rw [if_neg (by omega)]
      congr 1; omega
  have hP := (dbl_feas hok hin N hN.symm).1 hB.feas
  have lowA : ∀ v < a.sys.n, -1280000 ≤ gi (xs.take a.sys.n) v ∧ gi (xs.take a.sys.n) v ≤ 1280000 := fun v hv => by
    have := hB.low v (by omega)
    rw [gA v hv]; omega
  have lowB : ∀ v < a.sys.n, -1280000 ≤ gi (0 :: xs.drop a.sys.n) v ∧ gi (0 :: xs.drop a.sys.n) v ≤ 1280000 := fun v hv => by
    rw [gB v hv]
    unfold sndP
    split
    · have := hB.low 0 (by omega); omega
    · have := hB.low (v + N) (by omega); omega
  have kA : KeepsP a.sys (xs.take a.sys.n) := ⟨by rw [List.length_take]; omega, by rw [gA 0 (by omega)]; exact hB.zero, fun v hv => by have := lowA v hv; omega, hP.fx.congr hok.ok (fun v hv => (gA v hv).symm)⟩
  have kB : KeepsP a.sys (0 :: xs.drop a.sys.n) := ⟨by rw [List.length_cons, List.length_drop]; omega, rfl, fun v hv => by have := lowB v hv; omega, hP.fy.congr hok.ok (fun v hv => (gB v hv).symm)⟩
  have hnear : Near l (gi (xs.take a.sys.n)) (gi (0 :: xs.drop a.sys.n)) := fun p hp => by
    obtain ⟨⟨u1, u2⟩, _⟩ := hin p hp
    have := hP.near p hp
    rw [gA _ (by omega), gB _ (by omega)]
    exact this
  refine ⟨kA, kB, hnear, ?_, ?_⟩
  · have h1 := (dbl_opt hok hin).1 hB.sum
    have h2 := dbl_val hok (z := gi xs) (l := l) N hN.symm
    have h3 : sumTo (fun v => gi (dblW a.ws) v * gi xs v) (dblS a l).n = valw (dblW a.ws) (dblS a l).n (gi xs) := sumTo_congr fun v _ => by rw [hB.zero, Int.sub_zero]
    have h4 : apartV a (xs.take a.sys.n) (0 :: xs.drop a.sys.n) a.ws.length = valw a.ws a.sys.n (sndP N (gi xs)) - valw a.ws a.sys.n (gi xs) := by
      unfold apartV valw
      rw [← sumTo_diff, hok.wl]
      refine sumTo_congr fun v hv => ?_
      have e0 : sndP N (gi xs) 0 = gi xs 0 := rfl
      rw [gA v hv, gB v hv, e0, hB.zero, Int.sub_zero, Int.sub_zero, Int.mul_sub]
    rw [h4, ← h2, ← h3]
    exact h1
  · unfold meetErr
    rw [if_neg (by rw [kA.len, kB.len]; simp)]
    refine meetE_all fun p hp => ?_
    obtain ⟨⟨u1, u2⟩, t1, t2⟩ := hin p hp
    have e1 := lowA p.u.toNat (by omega)
    have e2 := lowB p.u.toNat (by omega)
    have e3 := hnear p hp
    have e4 := kA.len
    unfold meet1
    rw [if_neg (by omega), if_neg (by omega), if_neg (by omega)]
end Go.Proofs.YtiiokdeehlfeeaaGreat

namespace Go.Proofs.YtiiokdeehlfeeaaGreat
open Go.MW
theorem ref09_same_spec {H : Heap} {w : World} {σ : List Ent} {v1 v2 : Value} {x y : List Int} (hs : St H w σ) (h1 : RI H v1 x) (h2 : RI H v2 y) : Cl Tryz.prog 62 [v1, v2] w fun v w' => v = .bool (decide (x = y)) ∧ St H w' σ := by
  refine Cl.of Tryz.func62 rfl Tryz.ntmps62 (by simp) (args_cons (k := 0) rfl (args_cons (k := 1) rfl (args0))) ?_
  refine .regSeq (.z zg (.nil (.regSeq (.z zm (.z zm ?_)))))
  refine .o (.call Tryz.call20 rfl (ref02_Same_spec hs h1 h2) ?_); rintro _ w ⟨rfl, hs⟩
  refine .z zg (.nil ?_)
  refine .ret (Fin.ret1 Tryz.results62 rfl ?_)
  exact ⟨rfl, hs.out⟩
end Go.Proofs.YtiiokdeehlfeeaaGreat

namespace Go.Proofs.YtiiokdeehlfeeaaGreat
open Go.MW
set_option maxHeartbeats 4000000 in
theorem ref09_choices_spec {H : Heap} {w : World} {σ : List Ent} {n : Nat} (hs : St H w σ) (hn : n < 9) :
    Cl Tryz.prog 56 [I n] w fun u w' => ∃ H1, HLe H H1 ∧ RT H1 u (choicesL n) ∧ St H1 w' σ := by
  have hsmall := out_small n hn
  have hfour : ∀ {m : Nat}, m ≤ 4 → (outTo n m).length ≤ 100 := fun h => Nat.le_trans (outTo_mono n h) hsmall
  refine Cl.of Tryz.func56 rfl Tryz.ntmps56 (by simp) (args_cons (k := 0) rfl (args0)) ?_
  refine .regSeq (.z zg (.nil (.regSeq ?_)))
  refine .o (.buildSlice (cells := []) hs bls_sl_int_0 rfl rfl ?_); intro b10 w hs
  obtain ⟨H0, hle0, hR0, hs⟩ := OwnS.publishI (xs := []) (v := .slice (some ⟨b10, 0, none⟩) 0 0) (en := .blk b10 []) (.full (len := 0) rfl) (by simp) hs .here
  refine .o (.buildSlice (cells := [.slice (some ⟨b10, 0, none⟩) 0 0]) hs bls_slLL_int_1 rfl rfl ?_); intro b11 w hs
  refine .z zg (.nil (.regSeq (.z zg (.nil (.seq (.regSeq (.z zg (.nil (.block ?_)))))))))
  refine .loop (fun p : Nat × Value => ⟨63, [], [(5, I ((p.1 + 1 : Nat) : Int)), (4, I ((outTo n p.1).length : Int)), (3, p.2), (0, I (n : Int))]⟩)
    (fun p w => p.1 ≤ 3 ∧ ∃ us en Hk, HLe H Hk ∧ OwnS 1 p.2 us en ∧ RLs Hk us (outTo n (p.1 + 1)) ∧ St Hk w (en :: σ))
    (fun p => 3 - p.1) (0, .slice (some ⟨b11, 0, none⟩) 1 1) (by repeat (first | exact .nil rfl rfl | refine .cons rfl ?_))
    ⟨by omega, _, _, H0, hle0, .full (len := 1) (xs := [.slice (some ⟨b10, 0, none⟩) 0 0]) rfl, (RLs.nil H0).snoc (r := []) hR0, hs⟩ ?_
  rintro ⟨m, v3⟩ w ⟨hm, us, en, Hk, hleK, hO, hR, hs⟩
  dsimp only at hm hO hR hs ⊢
  have hul := hR.1
  have hom := hfour (m := m + 1) (by omega)
  obtain ⟨b3, c3, sp3, rfl, rfl, hc3⟩ := hO.someV (m := (outTo n (m + 1)).length) hul (by simp only [outTo, List.length_append]; cases m with | zero => rw [lvl_zero]; simp | succ m => have := outTo_mono n (m := 1) (k := m + 1) (by omega); rw [outTo_one] at this; simp at this; omega)
  refine .seq (.regSeq (.z zm (.z zleq (.nil ?_))))
  refine (.condD rfl (fun hc13 => ?_) (fun hc13 => ?_))
  · refine .skip ?_
    refine nT ?_
    refine .seq (.block (.regSeq (.z zm (.z (zlen Tryz.runUnderlying29) (.z zg (.nil (.seq (.regSeq (.z zm ?_)))))))))
    refine .z zg (.nil (.block ?_))
    refine .loop (fun p : Nat × Value => ⟨63, [], [(7, I (((outTo n m).length + p.1 : Nat) : Int)), (6, I ((outTo n (m + 1)).length : Int)), (5, I ((m + 1 : Nat) : Int)), (3, p.2), (0, I (n : Int))]⟩)
      (fun p w => p.1 ≤ (lvl n m).length ∧ ∃ us en Hj, HLe H Hj ∧ OwnS 1 p.2 us en ∧ RLs Hj us (outTo n (m + 1) ++ ((lvl n m).take p.1).flatMap (extc n)) ∧ St Hj w (en :: σ))
      (fun p => (lvl n m).length - p.1) (0, .slice (some ⟨b3, 0, none⟩) (outTo n (m + 1)).length c3) (by repeat (first | exact .nil rfl rfl | refine .cons rfl ?_))
      ⟨by omega, us, _, Hk, hleK, hO, by simpa using hR, hs⟩ ?_
    have hm3 : m < 3 := by omega
    have hstep := lvl_step n hn m hm3
    have hlen1 : (outTo n (m + 1)).length = (outTo n m).length + (lvl n m).length := by simp only [outTo, List.length_append]
    have hlen2 : (outTo n (m + 2)).length = (outTo n (m + 1)).length + (lvl n (m + 1)).length := by simp only [outTo, List.length_append]
    have hom2 := hfour (m := m + 2) (by omega)
    clear hs hO hR hul
    rintro ⟨i, v3⟩ w ⟨hi, us, en, Hj, hleJ, hO, hR, hs⟩
    dsimp only at hi hO hR hs ⊢
    have hul := hR.1
    refine .seq (.regSeq (.z zm (.z zm (.z zlss (.nil ?_)))))
    refine (.condD rfl (fun hc21 => ?_) (fun hc21 => ?_))
    · refine .skip ?_
      refine nT ?_
      refine .seq (.block (.regSeq (.z zg (.nil ?_))))
      have hi' : i < (lvl n m).length := by omega
      obtain ⟨c, hc⟩ := nth (l := lvl n m) hi'
      have hcin := lvl_in (List.mem_of_getElem? hc)
      have hcl3 : c.length ≤ 3 := by have := (walkL_in (List.mem_of_getElem? hc)).1; omega
      obtain ⟨ac, cc, hget, hRc⟩ := hR.get (out_part hc _)
      have hilen : (outTo n m).length + i < us.length := (List.getElem?_eq_some_iff.1 hget).1
      have hOk := hO
      obtain ⟨b5, c5, sp5, rfl, rfl, hc5⟩ := hO.someV (m := us.length) rfl (by omega)
      have hgetS : (us ++ sp5)[(outTo n m).length + i]? = some (.slice ac c.length cc) := by rw [List.getElem?_append_left hilen]; exact hget
      refine .cut (fun fs w => FSub fs ⟨63, [], [(8, I (nxtc c : Int)), (7, I (((outTo n m).length + i : Nat) : Int)), (6, I ((outTo n (m + 1)).length : Int)), (5, I ((m + 1 : Nat) : Int)), (3, .slice (some ⟨b5, 0, none⟩) us.length c5), (0, I (n : Int))]⟩ ∧ St Hj w (.blk b5 (us ++ sp5) :: σ)) ?_ ?_
      · refine .regSeq (.z zm (.z zm (.z (zix Tryz.runUnderlying29 Tryz.sizeOf25) ?_)))
        refine .q hs (q_load rfl Tryz.isAgg25 (hv := hgetS)) ?_
        refine .z (zlen Tryz.runUnderlying25) (.z zgtr (.nil ?_))
        refine (.condD rfl (fun hc29 => ?_) (fun hc29 => ?_))
        · refine .draw mix rfl hs ?_; intro w hs
          refine .z 0 rfl zm ?_; refine .z 1 rfl zm ?_; refine .z 2 rfl (zix Tryz.runUnderlying29 Tryz.sizeOf25) ?_
          refine .load (i := 3) hs rfl (by kernel_rfl) .none rfl Tryz.isAgg25 ?_ (hv := hgetS)
          refine .z 4 rfl zm ?_; refine .z 5 rfl zm ?_; refine .z 6 rfl (zix Tryz.runUnderlying29 Tryz.sizeOf25) ?_
          refine .load (i := 7) hs rfl (by kernel_rfl) .none rfl Tryz.isAgg25 ?_ (hv := hgetS)
          refine .z 8 rfl (zlen Tryz.runUnderlying25) ?_; refine .z 9 rfl zsub ?_
          have hc0 : 0 < c.length := by omega
          refine .ixX (enc := fun x => [I x]) (i := 10) hs rfl (by kernel_rfl) .none hRc rfl rfl Tryz.runUnderlying25 Tryz.sizeOf3 (gi_get (l := c) (i := c.length - 1) (by omega)) (by omega) ?_; intro b40 o40 hc40; replace hc40 := CellsAt.one hc40
          have hlast := nxtc_last hc0 (fun x hx => (hcin x hx).1)
          have hlx := hcin _ (List.mem_of_getElem? (gi_get (l := c) (i := c.length - 1) (by omega)))
          refine .r (i := 11) hs rfl (by kernel_rfl) .none (q_loadR rfl Tryz.isAgg3 hc40) ?_
          refine .z 12 rfl zadd ?_; refine .z 13 rfl zg ?_; refine .done (by kernel_rfl) hs ?_
          refine nT ?_
          exact ⟨.consI rfl hlast.symm (by repeat (first | exact .nil rfl rfl | refine .cons rfl ?_)), hs⟩
        · refine .skip ?_
          refine nT ?_
          have hc0 : c = [] := List.length_eq_zero_iff.1 (by omega)
          exact ⟨.consI rfl (by rw [hc0]; rfl) (by repeat (first | exact .nil rfl rfl | refine .cons rfl ?_)), hs⟩
      · rintro fs w ⟨hfs, hs⟩
        refine WE.sub ?_ hfs
        refine .regSeq (.z zm (.z zg (.nil (.block ?_))))
        refine .loop (fun p : Nat × Value => ⟨63, [], [(9, I ((nxtc c + p.1 : Nat) : Int)), (7, I (((outTo n m).length + i : Nat) : Int)), (6, I ((outTo n (m + 1)).length : Int)), (5, I ((m + 1 : Nat) : Int)), (3, p.2), (0, I (n : Int))]⟩)
          (fun p w => p.1 ≤ n - nxtc c ∧ ∃ us en Hi, HLe H Hi ∧ OwnS 1 p.2 us en ∧ RLs Hi us (outTo n (m + 1) ++ (((lvl n m).take i).flatMap (extc n) ++ (extc n c).take p.1)) ∧ St Hi w (en :: σ))
          (fun p => n - nxtc c - p.1) (0, .slice (some ⟨b5, 0, none⟩) us.length c5) (by repeat (first | exact .nil rfl rfl | refine .cons rfl ?_))
          ⟨by omega, us, _, Hj, hleJ, hOk, by simpa using hR, hs⟩ ?_
        clear hs hgetS hilen hget hRc hR hul hOk
        rintro ⟨j, v3⟩ w ⟨hj, us, en, Hi, hleI, hO, hR, hs⟩
        dsimp only at hj hO hR hs ⊢
        have hul := hR.1
        have hrl : ((lvl n m).flatMap (extc n)).length ≤ 100 := by rw [← hstep]; omega
        have hpart : (outTo n (m + 1) ++ (((lvl n m).take i).flatMap (extc n) ++ (extc n c).take j)).length ≤ 200 := by
          have e := flatMap_take (extc n) hc
          have e2 : ((lvl n m).take (i + 1)).flatMap (extc n) ++ ((lvl n m).drop (i + 1)).flatMap (extc n) = (lvl n m).flatMap (extc n) := by rw [← List.flatMap_append, List.take_append_drop]
          have e3 := congrArg List.length e2
          rw [e] at e3
          simp only [List.length_append, List.length_take] at e3 ⊢
          omega
        obtain ⟨ac, cc, hget, hRc⟩ := hR.get (out_part hc _)
        have hilen : (outTo n m).length + i < us.length := (List.getElem?_eq_some_iff.1 hget).1
        have hOk := hO
        obtain ⟨b6, c6, sp6, rfl, rfl, hc6⟩ := hO.someV (m := us.length) rfl (by omega)
        have hgetS : (us ++ sp6)[(outTo n m).length + i]? = some (.slice ac c.length cc) := by rw [List.getElem?_append_left hilen]; exact hget
        refine .seq (.regSeq (.z zm (.z zm (.z zlss (.nil ?_)))))
        refine (.condD rfl (fun hc46 => ?_) (fun hc46 => ?_))
        · refine .skip ?_
          refine nT ?_
          refine .seq (.block (.region (.z zm ?_)))
          refine .o (.buildSlice (cells := []) hs bls_sl_int_0 rfl rfl ?_); intro b50 w hs
          refine .z zm (.z zm (.z (zix Tryz.runUnderlying29 Tryz.sizeOf25) ?_))
          refine .q hs (q_load rfl Tryz.isAgg25 (hm := .there .here) (hv := hgetS)) ?_
          have hcl : c.length ≤ 3 := by have := (walkL_in (List.mem_of_getElem? hc)).1; omega
          refine .o (.append (xs := []) hs app_sl_int_int rfl rfl (.full (len := 0) rfl) (.ints hRc) (Is_cell _) (fun l' h => by simp at h; obtain rfl : l' = 0 := (by omega); omega) ?_); intro v55 en55 w hO5 hs
          rw [List.nil_append] at hO5
          obtain ⟨a55, l55, c55, rfl, h55⟩ := hO5.shape
          refine .z zm ?_
          refine .o (.buildSlice (cells := [I ((nxtc c + j : Nat) : Int)]) hs bls_sl_int_1 rfl rfl ?_); intro b57 w hs
          refine .o (.append (ys := Is [((nxtc c + j : Nat) : Int)]) hs app_sl_int_int rfl rfl hO5 (.own .here rfl rfl) (Is_cell _) (fun l' h => by simp at h; omega) ?_); intro v58 en58 w hO8 hs
          rw [← List.map_append] at hO8
          obtain ⟨H8, hle8, hR8, hs⟩ := OwnS.publishI hO8 (by simp; omega) hs .here
          obtain ⟨a58, c58, rfl⟩ := RI.shape hR8
          refine .o (.buildSlice (cells := [.slice a58 (c ++ [((nxtc c + j : Nat) : Int)]).length c58]) hs bls_slLL_int_1 rfl rfl ?_); intro b59 w hs
          refine .o (.append (ys := [.slice a58 (c ++ [((nxtc c + j : Nat) : Int)]).length c58]) hs app_slLL_int_LL_int rfl rfl hOk (.own .here rfl rfl) (by simp [Value.oneCell']) (fun l' h => by simp at h; omega) ?_); intro v60 en60 w hO60 hs
          refine .z zg (.nil ?_)
          refine nB (nT ?_)
          refine .region (.z zm (.z zadd (.z zg (.nil ?_))))
          refine nT ?_
          exact ⟨(j + 1, v60), .consI rfl (by push_cast; omega) (by repeat (first | exact .nil rfl rfl | refine .cons rfl ?_)), ⟨by omega, _, _, H8, hleI.trans hle8, hO60, by
            rw [extc_take n c (by omega), ← List.append_assoc, ← List.append_assoc]
            have := (hR.mono hle8).snoc hR8
            rw [← List.append_assoc] at this
            exact this, hs.sub (by repeat (first | exact Sub.refl _ | constructor | apply Sub.weaken))⟩, by dsimp only; omega⟩
        · refine .exit ?_
          refine xT (xT (xB (nB (nT ?_))))
          refine .region (.z zm (.z zadd (.z zg (.nil ?_))))
          refine nT ?_
          have hj' : (extc n c).take j = extc n c := List.take_of_length_le (by rw [extc_length]; omega)
          rw [hj', ← flatMap_take (extc n) hc] at hR
          exact ⟨(i + 1, .slice (some ⟨b6, 0, none⟩) us.length c6), .consI rfl (by push_cast; omega) (by repeat (first | exact .nil rfl rfl | refine .cons rfl ?_)), ⟨by omega, us, _, Hi, hleI, hOk, hR, hs⟩, by dsimp only; omega⟩
    · refine .exit ?_
      refine xT (xT (xB (nT ?_)))
      refine .region (.z zm (.z zg (.nil ?_)))
      refine nB (nT ?_)
      refine .region (.z zm (.z zadd (.z zg (.nil ?_))))
      refine nT ?_
      obtain rfl : i = (lvl n m).length := by omega
      rw [List.take_length, ← hstep] at hR
      exact ⟨(m + 1, v3), .consI rfl (by push_cast; omega) (.consI rfl rfl (by repeat (first | exact .nil rfl rfl | refine .cons rfl ?_))), ⟨by omega, us, en, Hj, hleJ, hO, hR, hs⟩, by dsimp only; omega⟩
  · refine .exit ?_
    refine xT (xT (xB (nT ?_)))
    refine .regSeq (.z zm (.z zg (.nil ?_)))
    refine .ret (Fin.ret1 Tryz.results56 rfl ?_)
    obtain rfl : m = 3 := by omega
    obtain ⟨H9, hle9, hRT, hs⟩ := hR.publish hO (by rw [hul]; omega) hs .here
    rw [out_all n hn] at hRT
    exact ⟨H9, hleK.trans hle9, by show RT H9 (.slice _ (outTo n 4).length _) _; rw [out_all n hn]; exact hRT, hs.out⟩
end Go.Proofs.YtiiokdeehlfeeaaGreat

namespace Go.Proofs.YtiiokdeehlfeeaaGreat
open Go.MW
theorem BestP.uniq {a : Quest} {l : List Prb} {x y e f : Int} (h : BestP a l x e) (g : BestP a l y f) : x = y ∧ e = f := by
  rcases h with ⟨h1, h2, h3⟩ | ⟨i, n, h1, h2, h3⟩
  · rcases g with ⟨g1, g2, g3⟩ | ⟨j, m, g1, g2, g3⟩
    · exact ⟨by omega, by omega⟩
    · subst h1; have := g3.lt; simp at this
  · rcases g with ⟨g1, g2, g3⟩ | ⟨j, m, g1, g2, g3⟩
    · subst g1; have := h3.lt; simp at this
    · refine ⟨?_, by omega⟩
      have e1 := h3.le j g3.lt m g3.here
      have e2 := g3.le i h3.lt n h3.here
      rcases Nat.lt_trichotomy i j with e | e | e
      · have := g3.first i e n h3.here; omega
      · omega
      · have := h3.first j e m g3.here; omega
end Go.Proofs.YtiiokdeehlfeeaaGreat

namespace Go.Proofs.YtiiokdeehlfeeaaGreat
open Go.MW
theorem shown_proofU {a : Quest} {l : List Prb} {n : Int} {us : List Use} (hok : AskOk a) (h : ShownR a l n us) : ProofR (dblS a l) (dblW a.ws) n us 0 := by
  obtain ⟨_, h1, _, ts, h3, rfl, rfl⟩ := h
  refine .ok (askErr_zero h1 ?_ (dbl_sizes hok)) (flow_proof h1 h3)
  have h4 := hok.wl
  have h5 := hok.ok.m0
  rw [dblW_length]
  simp only [Syst.n, dblS] at h4 ⊢
  omega
theorem TwinF.wrap {a : Quest} {l : List Prb} {A B : List Int} (hok : AskOk a) (h : TwinF a l A B) (hin : ∀ p ∈ l, PrbIn a p) : IntKind.i64.wrap (apartV a A B a.ws.length) = apartV a A B a.ws.length := by
  obtain ⟨lo, hi, hR⟩ := hok.range
  have hb := hR.bd
  obtain ⟨⟨x, y, g1, g2⟩, g3⟩ := h.most
  have h1 := Pair.le hR g1
  obtain ⟨z, hz⟩ := Pair.some hok hin
  have h2 := g3 z z hz
  exact i64wrap (by omega)
end Go.Proofs.YtiiokdeehlfeeaaGreat

namespace Go.Proofs.YtiiokdeehlfeeaaGreat
open Go.MW
theorem ref09_Chosen_spec {H : Heap} {w : World} {σ : List Ent} {v vc : Value} {l : List Prb} {c : List Int} (hs : St H w σ) (hr : RPs H v l) (hc : RI H vc c) (hin : ∀ x ∈ c, 0 ≤ x ∧ x < l.length) (hc3 : c.length ≤ 1000) :
    Cl Tryz.prog 41 [v, vc] w fun u w' => ∃ H1, HLe H H1 ∧ RPs H1 u (chosenL l c) ∧ St H1 w' σ := by
  obtain ⟨al, cpl, rfl⟩ := RPs.shape hr
  obtain ⟨ac, cc, rfl⟩ := RI.shape hc
  refine Cl.of Tryz.func41 rfl Tryz.ntmps41 (by simp) (args_cons (k := 0) rfl (args_cons (k := 1) rfl (args0))) ?_
  refine .regSeq (.z zg (.nil (.regSeq (.z zg (.nil (.seq (.regSeq (.z zg (.nil ?_)))))))))
  refine .block ?_
  refine .loop (fun p : Nat × Value => ⟨24, [], [(6, I (p.1 : Int)), (5, p.2), (0, .slice al l.length cpl), (1, .slice ac c.length cc)]⟩)
    (fun p w => p.1 ≤ c.length ∧ ∃ en, OwnS 2 p.2 (Prbs (chosenL l (c.take p.1))) en ∧ St H w (en :: σ))
    (fun p => c.length - p.1) (0, .slice none 0 0) (by repeat (first | exact .nil rfl rfl | refine .cons rfl ?_))
    ⟨by omega, _, .nil 2 none, hs.nul⟩ ?_
  rintro ⟨k, v5⟩ w ⟨hk, en, hO, hs⟩
  dsimp only at hk hO ⊢
  refine .seq (.regSeq (.z zm (.z zm (.z (zlen Tryz.runUnderlying25) (.z zlss (.nil ?_))))))
  refine (.condD rfl (fun hc10 => ?_) (fun hc10 => ?_))
  · refine .skip ?_
    refine nT ?_
    refine .seq (.block (.region ?_))
    have hk' : k < c.length := by omega
    have hx := gi_get (l := c) hk'
    have hxi := hin _ (List.mem_of_getElem? hx)
    obtain ⟨p, hp⟩ := nth (l := l) (k := (gi c k).toNat) (by omega)
    refine .z zm (.z zm (.z zm (.z zm ?_)))
    refine .ixY hs hc rfl rfl Tryz.runUnderlying25 Tryz.sizeOf3 hx rfl ?_; intro b17 o17 hc17
    refine .q hs (q_loadR rfl Tryz.isAgg3 hc17) ?_
    refine .ixX (enc := Prb.c) hs hr rfl rfl Tryz.runUnderlying28 Tryz.sizeOf54 hp (by omega) ?_; intro b19 o19 hc19
    refine .q hs (q_loadsR (vs := p.c) rfl Tryz.isAgg54 Tryz.sizeOf54 hc19) ?_
    refine .o (.buildSlice (cells := p.c) hs bls_sl_api_Probe_1 rfl rfl ?_); intro b21 w hs
    refine .o (.append (ys := p.c) hs app_sl_api_Probe_api_Probe rfl rfl hO (.own .here rfl rfl) (by simp [Prb.c, Value.oneCell']) (fun l' h => by have := chosenL_length (l := l) (c := c.take k); rw [List.length_take] at this; rw [Prbs_length] at h; omega) ?_); intro v22 en22 w hO2 hs
    refine .z zg (.nil ?_)
    refine nB (nT ?_)
    refine .region (.z zm (.z zadd (.z zg (.nil ?_))))
    refine nT ?_
    exact ⟨(k + 1, v22), .consI rfl (by push_cast; omega) (by repeat (first | exact .nil rfl rfl | refine .cons rfl ?_)), ⟨by dsimp only; omega, _, by
      rw [take_snoc hx, chosenL_snoc hp, Prbs_append]; simpa [Prbs] using hO2, hs.sub (by repeat (first | exact Sub.refl _ | constructor | apply Sub.weaken))⟩, by dsimp only; omega⟩
  · refine .exit ?_
    refine xT (xT (xB (nT ?_)))
    refine .regSeq (.z zm (.z zg (.nil ?_)))
    refine .ret (Fin.ret1 Tryz.results41 rfl ?_)
    obtain rfl : k = c.length := by omega
    rw [List.take_length] at hO
    obtain ⟨H2, g1, g2, hs⟩ := OwnS.publish (m := 2) (cs := (chosenL l c).map Prb.c) hO (fun c hc => by simp only [List.mem_map] at hc; obtain ⟨x, _, rfl⟩ := hc; rfl) (by omega) (by rw [List.length_map]; have := chosenL_length (l := l) (c := c); omega) hs .here
    exact ⟨H2, g1, g2, hs⟩
def FewR (a : Quest) (l : List Prb) (i n e : Int) : Prop :=
  (CPrbR a l e ∧ e ≠ 0 ∧ i = 0 ∧ n = 0) ∨
  (CPrbR a l 0 ∧ e = 94 ∧ i = 0 ∧ n = 0 ∧ ∀ c ∈ choicesL l.length, ∀ m, PairS a (chosenL l c) m → a.width < m) ∨
  (CPrbR a l 0 ∧ e = 0 ∧ ∃ (k : Nat) (c : List Int), i = (k : Int) ∧ (choicesL l.length)[k]? = some c ∧ PairS a (chosenL l c) n ∧ n ≤ a.width ∧ ∀ (j : Nat) (cj : List Int), j < k → (choicesL l.length)[j]? = some cj → ∀ m, PairS a (chosenL l cj) m → a.width < m)
theorem choice_ok {a : Quest} {l : List Prb} (hin : ∀ p ∈ l, PrbIn a p) {c : List Int} (hc : c ∈ choicesL l.length) : (chosenL l c).length ≤ 8 ∧ (∀ p ∈ chosenL l c, PrbIn a p) ∧ c.length ≤ 3 ∧ ∀ x ∈ c, 0 ≤ x ∧ x < (l.length : Int) := by
  obtain ⟨h1, h2⟩ := choicesL_in hc
  exact ⟨by have := chosenL_length (l := l) (c := c); omega, fun p hp => hin p (chosenL_mem hp), h1, h2⟩
set_option maxHeartbeats 4000000 in
theorem ref09_Fewest_spec {H : Heap} {w : World} {σ : List Ent} {v vl : Value} {a : Quest} {l : List Prb} (hs : St H w σ) (hr : RAsk H v a) (hp : RPs H vl l) :
    Cl Tryz.prog 31 [v, vl] w fun u w' => ∃ H1 i n e, HLe H H1 ∧ u = .tuple #[I i, I n, I e] ∧ FewR a l i n e ∧ St H1 w' σ := by
  obtain ⟨ul, uw, rfl, hl, hw⟩ := hr
  obtain ⟨al, cpl, rfl⟩ := RPs.shape hp
  refine Cl.of Tryz.func31 rfl Tryz.ntmps31 (by simp) (args_cons (k := 0) rfl (args_cons (k := 1) rfl (args0))) ?_
  refine .regSeq ?_
  refine .o (.box hs rfl rfl ?_); intro b2 w hs
  refine .z zg (.z zg (.z zg (.nil (.regSeq (.y hs (zls [_, _, _, _] Tryz.isAgg27 Tryz.sizeOf27) (.z zm ?_))))))
  refine .o (.call Tryz.call60 rfl (ref09_CheckProbes_spec (a := a) hs ⟨_, _, rfl, hl, hw⟩ hp) ?_); rintro _ w ⟨H1, e, hle1, rfl, hC, hs⟩
  refine .z zg (.nil (.seq (.regSeq (.z zm (.z zneq (.nil ?_))))))
  refine (.condN rfl (fun hc15 => ?_) (fun hc15 => ?_))
  · refine .regSeq (.z zm (.z zg (.z zg (.z zg (.nil ?_)))))
    refine .ret (rT (Fin.ret3 Tryz.results31 rfl rfl rfl ?_))
    exact ⟨H1, 0, 0, e, hle1, rfl, .inl ⟨hC, hc15, rfl, rfl⟩, hs.out⟩
  · refine .skip ?_
    refine nT ?_
    refine .regSeq ?_
    rw [hc15] at hC
    obtain ⟨hok, hlen, hin0⟩ := hC.zero
    have hin : ∀ p ∈ l, PrbIn a p := fun p h => (hin0 p h).inn
    have hLn := choicesL_length (n := l.length) (by omega)
    refine .z zm (.z (zlen Tryz.runUnderlying28) ?_)
    refine .o (.call Tryz.call56 rfl (ref09_choices_spec (n := l.length) hs (by omega)) ?_); rintro v19 w ⟨H2, hle2, hRT, hs⟩
    have hle12 := hle1.trans hle2
    obtain ⟨aT, cT, rfl⟩ := hRT.shape
    refine .z zg (.nil (.seq (.regSeq (.z zg (.nil (.block ?_))))))
    refine .loop (fun p : Nat => ⟨40, [], [(9, I (p : Int)), (8, .slice aT (choicesL l.length).length cT), (2, .pointer (some ⟨b2, 0, none⟩)), (1, .slice al l.length cpl)]⟩)
      (fun p w => p ≤ (choicesL l.length).length ∧ (∀ (j : Nat) (cj : List Int), j < p → (choicesL l.length)[j]? = some cj → ∀ m, PairS a (chosenL l cj) m → a.width < m) ∧ ∃ Hk, HLe H2 Hk ∧ St Hk w (.blk b2 [I a.sys.many, ul, uw, I a.width] :: σ))
      (fun p => (choicesL l.length).length - p) 0 (by repeat (first | exact .nil rfl rfl | refine .cons rfl ?_))
      ⟨by omega, fun j cj h => by omega, H2, HLe.refl _, hs⟩ ?_
    rintro k w ⟨hk, hall, Hk, hleK, hs⟩
    have hleH := hle12.trans hleK
    refine .seq (.regSeq (.z zm (.z zm (.z (zlen Tryz.runUnderlying29) (.z zlss (.nil ?_))))))
    refine (.condD rfl (fun hc23 => ?_) (fun hc23 => ?_))
    · refine .skip ?_
      refine nT ?_
      refine .seq (.block ?_)
      refine .cut (fun fs w => ∃ n Hm, k < (choicesL l.length).length ∧ HLe H2 Hm ∧ PairS a (chosenL l (gr (choicesL l.length) k)) n ∧ FSub fs ⟨40, [], [(10, I n), (9, I (k : Int)), (8, .slice aT (choicesL l.length).length cT), (2, .pointer (some ⟨b2, 0, none⟩)), (1, .slice al l.length cpl)]⟩ ∧ St Hm w (.blk b2 [I a.sys.many, ul, uw, I a.width] :: σ)) ?_ ?_
      · refine .draw mix rfl hs ?_; intro w hs
        refine .ys 0 rfl hs [_, _, _, _] Tryz.isAgg27 Tryz.sizeOf27 ?_; refine .z 1 rfl zm ?_; refine .z 2 rfl zm ?_; refine .z 3 rfl zm ?_
        have hk' : k < (choicesL l.length).length := by omega
        obtain ⟨q1, q2, q3, q4⟩ := choice_ok hin (List.mem_of_getElem? (gr_get hk'))
        refine .ixT (i := 4) hs rfl (by kernel_rfl) .none (hRT.mono hleK) rfl rfl Tryz.runUnderlying29 Tryz.sizeOf25 hk' rfl ?_; intro b30 o30 a30 c30 hc30 hR30
        refine .r (i := 5) hs rfl (by kernel_rfl) .none (q_loadR rfl Tryz.isAgg25 hc30) ?_
        refine .e1 (i := 6) (by kernel_rfl) rfl rfl .none hs ?_
        refine .call Tryz.call41 rfl (ref09_Chosen_spec hs (hp.mono hleH) hR30 q4 (by omega)) ?_; rintro v32 w ⟨H3, hle3, hR32, hs⟩
        obtain ⟨a32, c32, rfl⟩ := RPs.shape hR32
        refine .go ?_
        refine .e1 (i := 7) (by kernel_rfl) rfl rfl .none hs ?_
        refine .call Tryz.call61 rfl (ref09_worst_spec (a := a) (l := chosenL l (gr (choicesL l.length) k)) hs ⟨_, _, rfl, hl.mono (hleH.trans hle3), hw.mono (hleH.trans hle3)⟩ hR32 hok q1 q2) ?_; rintro _ w ⟨H4, n, hle4, rfl, hPS, hs⟩
        refine .go ?_
        refine .z 8 rfl zg ?_; refine .done (by kernel_rfl) hs ?_
        exact nT ⟨n, H4, hk', hleK.trans (hle3.trans hle4), hPS, by repeat (first | exact .nil rfl rfl | refine .cons rfl ?_), hs⟩
      · rintro fs w ⟨n, Hm, hk', hleM, hPS, hfs, hs⟩
        refine WE.sub ?_ hfs
        refine .regSeq (.z zm (.z (zfa fa_api_Ask_2) (.y hs (zld Tryz.isAgg3) (.z zleq (.nil ?_)))))
        refine (.condD rfl (fun hc37 => ?_) (fun hc37 => ?_))
        · refine .regSeq (.z zm (.z zm (.z zg (.z zg (.z zg (.nil ?_))))))
          refine .ret (rB (rT (rT (rB (rT (Fin.ret3 Tryz.results31 rfl rfl rfl ?_))))))
          exact ⟨Hm, _, n, 0, hle12.trans hleM, rfl, .inr (.inr ⟨hC, rfl, k, _, rfl, gr_get hk', hPS, hc37, hall⟩), hs.out⟩
        · refine .skip ?_
          refine nB (nT ?_)
          refine .region (.z zm (.z zadd (.z zg (.nil ?_))))
          refine nT ?_
          exact ⟨k + 1, .consI rfl (by push_cast; omega) (by repeat (first | exact .nil rfl rfl | refine .cons rfl ?_)), ⟨by omega, fun j cj hj hcj m hm => by
            by_cases e : j = k
            · subst e
              rw [gr_get hk'] at hcj
              cases hcj
              rw [hm.uniq hPS]; omega
            · exact hall j cj (by omega) hcj m hm, Hm, hleM, hs⟩, by omega⟩
    · refine .exit ?_
      refine xT (xT (xB (nT ?_)))
      refine .regSeq (.z zg (.z zg (.z zg (.nil ?_))))
      refine .ret (Fin.ret3 Tryz.results31 rfl rfl rfl ?_)
      exact ⟨Hk, 0, 0, 94, hleH, rfl, .inr (.inl ⟨hC, rfl, rfl, rfl, fun c hc m hm => by
        obtain ⟨j, hj⟩ := List.getElem?_of_mem hc
        exact hall j c (by have := (List.getElem?_eq_some_iff.1 hj).1; omega) hj m hm⟩), hs.out⟩
end Go.Proofs.YtiiokdeehlfeeaaGreat

namespace Go.Proofs.YtiiokdeehlfeeaaGreat
open Go.MW
set_option maxRecDepth 100000 in
theorem choices_nodup : ∀ n, n < 9 → (choicesL n).Nodup := by decide +kernel
theorem choices_inj {n i j : Nat} {c : List Int} (hn : n < 9) (h1 : (choicesL n)[i]? = some c) (h2 : (choicesL n)[j]? = some c) : i = j :=
  (List.getElem?_inj (List.getElem?_eq_some_iff.1 h1).1 (choices_nodup n hn)).1 (h1.trans h2.symm)
def gtw (p : Pck) (j : Nat) : List Int × List Int := p.fails.getD j ([], [])
theorem gtw_get {p : Pck} {j : Nat} (h : j < p.fails.length) : p.fails[j]? = some (gtw p j) := by
  simp [gtw, List.getD, List.getElem?_eq_getElem h]
structure GoodK (a : Quest) (l : List Prb) (p : Pck) (k : Nat) : Prop where
  here : (choicesL l.length)[k]? = some p.probes
  len : p.fails.length = k
  width : p.width ≤ a.width
  worst : CWR a (chosenL l p.probes) p.width p.bound p.uses 0
  fails : ∀ (j : Nat) (cj : List Int), j < k → (choicesL l.length)[j]? = some cj → ∃ n, ApR a (chosenL l cj) (gtw p j).1 (gtw p j).2 n 0 ∧ a.width < n
def PickR (a : Quest) (l : List Prb) (p : Pck) (e : Int) : Prop := (CPrbR a l e ∧ e ≠ 0) ∨ (CPrbR a l 0 ∧ ((e = 0 ∧ ∃ k, GoodK a l p k) ∨ (e = 93 ∧ ¬ ∃ k, GoodK a l p k)))
theorem PickR.uniq {a : Quest} {l : List Prb} {p : Pck} {e f : Int} (h : PickR a l p e) (g : PickR a l p f) : e = f := by
  rcases h with ⟨h1, h2⟩ | ⟨h1, h2⟩
  · rcases g with ⟨g1, g2⟩ | ⟨g1, g2⟩
    · exact h1.uniq g1
    · exact (h2 (h1.uniq g1)).elim
  · rcases g with ⟨g1, g2⟩ | ⟨g1, g2⟩
    · exact (g2 (g1.uniq h1)).elim
    · rcases h2 with ⟨h2, h3⟩ | ⟨h2, h3⟩ <;> rcases g2 with ⟨g2, g3⟩ | ⟨g2, g3⟩
      · omega
      · exact (g3 h3).elim
      · exact (h3 g3).elim
      · omega
theorem RPick.twin {H : Heap} {p : Pck} {css : List (List Value)} (h1 : css.length = p.fails.length) (h2 : ∀ (j : Nat) (c : List Value) (t : List Int × List Int), css[j]? = some c → p.fails[j]? = some t → TwC H c t) {j : Nat} (hj : j < p.fails.length) :
    ∃ va vb, css[j]? = some [va, vb] ∧ RI H va (gtw p j).1 ∧ RI H vb (gtw p j).2 := by
  have hc : css[j]? = some (css[j]'(by omega)) := List.getElem?_eq_getElem _
  obtain ⟨va, vb, e, g1, g2⟩ := h2 j _ _ hc (gtw_get hj)
  exact ⟨va, vb, by rw [hc, e], g1, g2⟩
set_option maxHeartbeats 8000000 in
theorem ref09_CheckPick_spec {H : Heap} {w : World} {σ : List Ent} {v vl vk : Value} {a : Quest} {l : List Prb} {p : Pck} (hs : St H w σ) (hr : RAsk H v a) (hp : RPs H vl l) (hk : RPick H vk p) :
    Cl Tryz.prog 33 [v, vl, vk] w fun u w' => ∃ H1 e, HLe H H1 ∧ u = I e ∧ PickR a l p e ∧ St H1 w' σ := by
  obtain ⟨ul, uw, rfl, hl, hw⟩ := hr
  obtain ⟨al, cpl, rfl⟩ := RPs.shape hp
  obtain ⟨vp, vu, vf, css, rfl, hkp, hku, hkf, hkl, hkt⟩ := hk
  obtain ⟨akp, ckp, rfl⟩ := RI.shape hkp
  obtain ⟨aku, cku, rfl⟩ := RU.shape hku
  obtain ⟨akf, ckf, rfl⟩ := RS.shape hkf
  have hkf' : RS H 2 (.slice akf css.length ckf) (css.map fun c => c) := by simpa using hkf
  refine Cl.of Tryz.func33 rfl Tryz.ntmps33 (by simp) (args_cons (k := 0) rfl (args_cons (k := 1) rfl (args_cons (k := 2) rfl (args0)))) ?_
  refine .regSeq ?_
  refine .o (.box hs rfl rfl ?_); intro b3 w hs
  refine .o (.box hs rfl rfl ?_); intro b5 w hs
  refine .z zg (.nil (.regSeq (.y hs (zls [_, _, _, _] Tryz.isAgg27 Tryz.sizeOf27) (.z zm ?_))))
  refine .o (.call Tryz.call60 rfl (ref09_CheckProbes_spec (a := a) hs ⟨_, _, rfl, hl, hw⟩ hp) ?_); rintro _ w ⟨H1, e, hle1, rfl, hC, hs⟩
  refine .z zg (.nil (.seq (.regSeq (.z zm (.z zneq (.nil ?_))))))
  refine (.condN rfl (fun hc18 => ?_) (fun hc18 => ?_))
  · refine .regSeq (.z zm (.z zg (.nil ?_)))
    refine .ret (rT (Fin.ret1 Tryz.results33 rfl ?_))
    exact ⟨H1, e, hle1, rfl, .inl ⟨hC, hc18⟩, hs.out⟩
  · refine .skip ?_
    refine nT ?_
    refine .regSeq ?_
    rw [hc18] at hC
    obtain ⟨hok, hlen, hin0⟩ := hC.zero
    have hin : ∀ p ∈ l, PrbIn a p := fun p h => (hin0 p h).inn
    have hLn := choicesL_length (n := l.length) (by omega)
    refine .z zm (.z (zlen Tryz.runUnderlying28) ?_)
    refine .o (.call Tryz.call56 rfl (ref09_choices_spec (n := l.length) hs (by omega)) ?_); rintro v22 w ⟨H2, hle2, hRT, hs⟩
    have hle12 := hle1.trans hle2
    obtain ⟨aT, cT, rfl⟩ := hRT.shape
    refine .z zg (.nil (.regSeq (.z zg (.nil (.seq (.regSeq (.z zg (.nil (.block ?_)))))))))
    refine .loop (fun q : Nat × Int => ⟨95, [], [(10, I (q.1 : Int)), (9, I q.2), (8, .slice aT (choicesL l.length).length cT), (5, .pointer (some ⟨b5, 0, none⟩)), (3, .pointer (some ⟨b3, 0, none⟩)), (1, .slice al l.length cpl)]⟩)
      (fun q w => q.1 ≤ (choicesL l.length).length ∧ ((∃ j : Nat, j < q.1 ∧ q.2 = (j : Int) ∧ (choicesL l.length)[j]? = some p.probes) ∨ (q.2 = -1 ∧ ∀ j, j < q.1 → (choicesL l.length)[j]? ≠ some p.probes)) ∧
        St H2 w (.blk b5 [.slice akp p.probes.length ckp, I p.width, I p.bound, .slice aku p.uses.length cku, .slice akf css.length ckf] :: .blk b3 [I a.sys.many, ul, uw, I a.width] :: σ))
      (fun q => (choicesL l.length).length - q.1) (0, -1) (by repeat (first | exact .nil rfl rfl | refine .cons rfl ?_))
      ⟨by omega, .inr ⟨rfl, fun j h => by omega⟩, hs⟩ ?_
    rintro ⟨k, at9⟩ w ⟨hk, hat, hs⟩
    dsimp only at hk hat ⊢
    refine .seq (.regSeq (.z zm (.z zm (.z (zlen Tryz.runUnderlying29) (.z zlss (.nil ?_))))))
    refine (.condD rfl (fun hc26 => ?_) (fun hc26 => ?_))
    · refine .skip ?_
      refine nT ?_
      refine .seq (.block ?_)
      refine .seq (.draw mix rfl hs ?_); intro w hs
      refine .z 0 rfl zm ?_; refine .z 1 rfl zm ?_
      have hk' : k < (choicesL l.length).length := by omega
      refine .ixT (i := 2) hs rfl (by kernel_rfl) .none hRT rfl rfl Tryz.runUnderlying29 Tryz.sizeOf25 hk' rfl ?_; intro b31 o31 a31 c31 hc31 hR31
      refine .r (i := 3) hs rfl (by kernel_rfl) .none (q_loadR rfl Tryz.isAgg25 hc31) ?_
      refine .z 4 rfl (zfa fa_api_Pick_0) ?_; refine .y 5 rfl hs Tryz.isAgg25 ?_
      refine .e1 (i := 6) (by kernel_rfl) rfl rfl .none hs ?_
      refine .call Tryz.call62 rfl (ref09_same_spec hs hR31 (hkp.mono hle12)) ?_; rintro _ w ⟨rfl, hs⟩
      refine .go ?_
      refine .done (by kernel_rfl) hs ?_
      refine (.cond rfl (fun hc35 => ?_) (fun hc35 => ?_))
      · refine .region (.z zm (.z zg (.nil ?_)))
        refine nB (nT ?_)
        refine .region (.z zm (.z zadd (.z zg (.nil ?_))))
        refine nT ?_
        have he : gr (choicesL l.length) k = p.probes := of_decide_eq_true (by simpa using hc35)
        exact ⟨(k + 1, (k : Int)), .consI rfl (by push_cast; omega) (by repeat (first | exact .nil rfl rfl | refine .cons rfl ?_)), ⟨by dsimp only; omega, .inl ⟨k, by dsimp only; omega, rfl, by rw [gr_get hk', he]⟩, hs⟩, by dsimp only; omega⟩
      · refine .skip ?_
        refine nB (nT ?_)
        refine .region (.z zm (.z zadd (.z zg (.nil ?_))))
        refine nT ?_
        have he : gr (choicesL l.length) k ≠ p.probes := fun h => by simp [h] at hc35
        exact ⟨(k + 1, at9), .consI rfl (by push_cast; omega) (by repeat (first | exact .nil rfl rfl | refine .cons rfl ?_)), ⟨by dsimp only; omega, by
          rcases hat with ⟨j, j1, j2, j3⟩ | ⟨j1, j2⟩
          · exact .inl ⟨j, by dsimp only; omega, j2, j3⟩
          · refine .inr ⟨j1, fun j hj h => ?_⟩
            dsimp only at hj
            by_cases e : j = k
            · subst e; rw [gr_get hk'] at h; exact he (Option.some.inj h)
            · exact j2 j (by omega) h, hs⟩, by dsimp only; omega⟩
    · refine .exit ?_
      refine xT (xT (xB (nT ?_)))
      refine .seq ?_
      refine .cut (fun fs w => ∃ (bb : Bool) (z : Int) (Hm : Heap), FSub fs ⟨95, [], [(65, .bool bb), (9, I z), (8, .slice aT (choicesL l.length).length cT), (5, .pointer (some ⟨b5, 0, none⟩)), (3, .pointer (some ⟨b3, 0, none⟩)), (1, .slice al l.length cpl)]⟩ ∧ HLe H2 Hm ∧ (bb = true → ¬ ∃ k, GoodK a l p k) ∧ (bb = false → ∃ j9 : Nat, z = (j9 : Int) ∧ (choicesL l.length)[j9]? = some p.probes ∧ p.fails.length = j9 ∧ p.width ≤ a.width ∧ CWR a (chosenL l p.probes) p.width p.bound p.uses 0) ∧ St Hm w (.blk b5 [.slice akp p.probes.length ckp, I p.width, I p.bound, .slice aku p.uses.length cku, .slice akf css.length ckf] :: .blk b3 [I a.sys.many, ul, uw, I a.width] :: σ)) ?_ ?_
      · refine .draw mix rfl hs ?_; intro w hs
        obtain rfl : k = (choicesL l.length).length := by omega
        refine .z 0 rfl zm ?_; refine .z 1 rfl zlss ?_; refine .z 2 rfl zm ?_
        refine .bifD (t' := 39) rfl (fun hb39 => ?_) (fun hb39 => ?_)
        · refine .qF (i := 3) rfl (by kernel_rfl) rfl rfl ?_
          refine .qF (i := 4) rfl (by kernel_rfl) rfl rfl ?_
          refine .qF (i := 5) rfl (by kernel_rfl) rfl rfl ?_
          refine .qF (i := 6) rfl (by kernel_rfl) rfl rfl ?_
          refine .qF (i := 7) rfl (by kernel_rfl) rfl rfl ?_
          refine .z 8 rfl zpT ?_; refine .z 9 rfl zm ?_
          refine .qF (i := 10) rfl (by kernel_rfl) rfl rfl ?_
          refine .qF (i := 11) rfl (by kernel_rfl) rfl rfl ?_
          refine .qF (i := 12) rfl (by kernel_rfl) rfl rfl ?_
          refine .qF (i := 13) rfl (by kernel_rfl) rfl rfl ?_
          refine .qF (i := 14) rfl (by kernel_rfl) rfl rfl ?_
          refine .z 15 rfl zpT ?_; refine .z 16 rfl zm ?_
          refine .qF (i := 17) rfl (by kernel_rfl) rfl rfl ?_
          refine .qF (i := 18) rfl (by kernel_rfl) rfl rfl ?_
          refine .qF (i := 19) rfl (by kernel_rfl) rfl rfl ?_
          refine .qF (i := 20) rfl (by kernel_rfl) rfl rfl ?_
          refine .qF (i := 21) rfl (by kernel_rfl) rfl rfl ?_
          refine .qF (i := 22) rfl (by kernel_rfl) rfl rfl ?_
          refine .qF (i := 23) rfl (by kernel_rfl) rfl rfl ?_
          refine .qF (i := 24) rfl (by kernel_rfl) rfl rfl ?_
          refine .qF (i := 25) rfl (by kernel_rfl) rfl rfl ?_
          refine .qF (i := 26) rfl (by kernel_rfl) rfl rfl ?_
          refine .qF (i := 27) rfl (by kernel_rfl) rfl rfl ?_
          refine .z 28 rfl zpT ?_; refine .done (by kernel_rfl) hs ?_
          first
            | (have hx := hCW
               exact nT ⟨_, _, H4, by repeat (first | exact .nil rfl rfl | refine .cons rfl ?_), hle3.trans hle4, fun hb ⟨k', g⟩ => by
                have e1 := choices_inj (by omega) g.here j3
                have e2 := hCW.uniq g.worst
                simp [e2] at hb, fun hb => by
                have e2 : e63 = 0 := by simpa using hb
                subst e2
                have h46 := hb46
                have h53 := hb53
                simp at h46 h53
                exact ⟨_, rfl, j3, by omega, by omega, hCW⟩, hs⟩)
            | (have hx := hb53
               exact nT ⟨true, at9, H2, by repeat (first | exact .nil rfl rfl | refine .cons rfl ?_), HLe.refl _, fun _ ⟨k', g⟩ => by
                have e2 := g.width
                first | omega | (simp at hb53; omega), fun h => (by cases h), hs⟩)
            | (have hx := hb46
               exact nT ⟨true, at9, H2, by repeat (first | exact .nil rfl rfl | refine .cons rfl ?_), HLe.refl _, fun _ ⟨k', g⟩ => by
                rcases hat with ⟨j, _, j2, j3⟩ | ⟨j1, _⟩
                · have e1 := choices_inj (by omega) g.here j3
                  have e2 := g.len
                  first | omega | (simp at hb46; omega)
                · omega, fun h => (by cases h), hs⟩)
            | exact nT ⟨true, at9, H2, by repeat (first | exact .nil rfl rfl | refine .cons rfl ?_), HLe.refl _, fun _ ⟨k', g⟩ => by
                rcases hat with ⟨j, _, j2, _⟩ | ⟨_, j2⟩
                · omega
                · exact j2 k' (List.getElem?_eq_some_iff.1 g.here).1 g.here, fun h => (by cases h), hs⟩
        · refine .z 3 rfl (zfa fa_api_Pick_3) ?_; refine .y 4 rfl hs Tryz.isAgg64 ?_; refine .z 5 rfl (zlen Tryz.runUnderlying64) ?_; refine .z 6 rfl zm ?_; refine .z 7 rfl zneq ?_; refine .z 8 rfl zpF ?_; refine .z 9 rfl zm ?_
          refine .bifN (t' := 46) rfl (fun hb46 => ?_) (fun hb46 => ?_)
          · refine .qF (i := 10) rfl (by kernel_rfl) rfl rfl ?_
            refine .qF (i := 11) rfl (by kernel_rfl) rfl rfl ?_
            refine .qF (i := 12) rfl (by kernel_rfl) rfl rfl ?_
            refine .qF (i := 13) rfl (by kernel_rfl) rfl rfl ?_
            refine .qF (i := 14) rfl (by kernel_rfl) rfl rfl ?_
            refine .z 15 rfl zpT ?_; refine .z 16 rfl zm ?_
            refine .qF (i := 17) rfl (by kernel_rfl) rfl rfl ?_
            refine .qF (i := 18) rfl (by kernel_rfl) rfl rfl ?_
            refine .qF (i := 19) rfl (by kernel_rfl) rfl rfl ?_
            refine .qF (i := 20) rfl (by kernel_rfl) rfl rfl ?_
            refine .qF (i := 21) rfl (by kernel_rfl) rfl rfl ?_
            refine .qF (i := 22) rfl (by kernel_rfl) rfl rfl ?_
            refine .qF (i := 23) rfl (by kernel_rfl) rfl rfl ?_
            refine .qF (i := 24) rfl (by kernel_rfl) rfl rfl ?_
            refine .qF (i := 25) rfl (by kernel_rfl) rfl rfl ?_
            refine .qF (i := 26) rfl (by kernel_rfl) rfl rfl ?_
            refine .qF (i := 27) rfl (by kernel_rfl) rfl rfl ?_
            refine .z 28 rfl zpT ?_; refine .done (by kernel_rfl) hs ?_
            first
              | (have hx := hCW
                 exact nT ⟨_, _, H4, by repeat (first | exact .nil rfl rfl | refine .cons rfl ?_), hle3.trans hle4, fun hb ⟨k', g⟩ => by
                  have e1 := choices_inj (by omega) g.here j3
                  have e2 := hCW.uniq g.worst
                  simp [e2] at hb, fun hb => by
                  have e2 : e63 = 0 := by simpa using hb
                  subst e2
                  have h46 := hb46
                  have h53 := hb53
                  simp at h46 h53
                  exact ⟨_, rfl, j3, by omega, by omega, hCW⟩, hs⟩)
              | (have hx := hb53
                 exact nT ⟨true, at9, H2, by repeat (first | exact .nil rfl rfl | refine .cons rfl ?_), HLe.refl _, fun _ ⟨k', g⟩ => by
                  have e2 := g.width
                  first | omega | (simp at hb53; omega), fun h => (by cases h), hs⟩)
              | (have hx := hb46
                 exact nT ⟨true, at9, H2, by repeat (first | exact .nil rfl rfl | refine .cons rfl ?_), HLe.refl _, fun _ ⟨k', g⟩ => by
                  rcases hat with ⟨j, _, j2, j3⟩ | ⟨j1, _⟩
                  · have e1 := choices_inj (by omega) g.here j3
                    have e2 := g.len
                    first | omega | (simp at hb46; omega)
                  · omega, fun h => (by cases h), hs⟩)
              | exact nT ⟨true, at9, H2, by repeat (first | exact .nil rfl rfl | refine .cons rfl ?_), HLe.refl _, fun _ ⟨k', g⟩ => by
                  rcases hat with ⟨j, _, j2, _⟩ | ⟨_, j2⟩
                  · omega
                  · exact j2 k' (List.getElem?_eq_some_iff.1 g.here).1 g.here, fun h => (by cases h), hs⟩
          · refine .z 10 rfl (zfa fa_api_Pick_1) ?_; refine .y 11 rfl hs Tryz.isAgg3 ?_; refine .z 12 rfl (zfa fa_api_Ask_2) ?_; refine .y 13 rfl hs Tryz.isAgg3 ?_; refine .z 14 rfl zgtr ?_; refine .z 15 rfl zpF ?_; refine .z 16 rfl zm ?_
            refine .bifD (t' := 53) rfl (fun hb53 => ?_) (fun hb53 => ?_)
            · refine .qF (i := 17) rfl (by kernel_rfl) rfl rfl ?_
              refine .qF (i := 18) rfl (by kernel_rfl) rfl rfl ?_
              refine .qF (i := 19) rfl (by kernel_rfl) rfl rfl ?_
              refine .qF (i := 20) rfl (by kernel_rfl) rfl rfl ?_
              refine .qF (i := 21) rfl (by kernel_rfl) rfl rfl ?_
              refine .qF (i := 22) rfl (by kernel_rfl) rfl rfl ?_
              refine .qF (i := 23) rfl (by kernel_rfl) rfl rfl ?_
              refine .qF (i := 24) rfl (by kernel_rfl) rfl rfl ?_
              refine .qF (i := 25) rfl (by kernel_rfl) rfl rfl ?_
              refine .qF (i := 26) rfl (by kernel_rfl) rfl rfl ?_
              refine .qF (i := 27) rfl (by kernel_rfl) rfl rfl ?_
              refine .z 28 rfl zpT ?_; refine .done (by kernel_rfl) hs ?_
              first
                | (have hx := hCW
                   exact nT ⟨_, _, H4, by repeat (first | exact .nil rfl rfl | refine .cons rfl ?_), hle3.trans hle4, fun hb ⟨k', g⟩ => by
                    have e1 := choices_inj (by omega) g.here j3
                    have e2 := hCW.uniq g.worst
                    simp [e2] at hb, fun hb => by
                    have e2 : e63 = 0 := by simpa using hb
                    subst e2
                    have h46 := hb46
                    have h53 := hb53
                    simp at h46 h53
                    exact ⟨_, rfl, j3, by omega, by omega, hCW⟩, hs⟩)
                | (have hx := hb53
                   exact nT ⟨true, at9, H2, by repeat (first | exact .nil rfl rfl | refine .cons rfl ?_), HLe.refl _, fun _ ⟨k', g⟩ => by
                    have e2 := g.width
                    first | omega | (simp at hb53; omega), fun h => (by cases h), hs⟩)
                | (have hx := hb46
                   exact nT ⟨true, at9, H2, by repeat (first | exact .nil rfl rfl | refine .cons rfl ?_), HLe.refl _, fun _ ⟨k', g⟩ => by
                    rcases hat with ⟨j, _, j2, j3⟩ | ⟨j1, _⟩
                    · have e1 := choices_inj (by omega) g.here j3
                      have e2 := g.len
                      first | omega | (simp at hb46; omega)
                    · omega, fun h => (by cases h), hs⟩)
                | exact nT ⟨true, at9, H2, by repeat (first | exact .nil rfl rfl | refine .cons rfl ?_), HLe.refl _, fun _ ⟨k', g⟩ => by
                    rcases hat with ⟨j, _, j2, _⟩ | ⟨_, j2⟩
                    · omega
                    · exact j2 k' (List.getElem?_eq_some_iff.1 g.here).1 g.here, fun h => (by cases h), hs⟩
            · refine .ys 17 rfl hs [_, _, _, _] Tryz.isAgg27 Tryz.sizeOf27 ?_; refine .z 18 rfl zm ?_; refine .z 19 rfl (zfa fa_api_Pick_0) ?_; refine .y 20 rfl hs Tryz.isAgg25 ?_; refine .z 22 rfl (zfa fa_api_Pick_1) ?_; refine .y 23 rfl hs Tryz.isAgg3 ?_; refine .z 24 rfl (zfa fa_api_Pick_2) ?_; refine .ys 25 rfl hs [_, _] Tryz.isAgg63 Tryz.sizeOf63 ?_
              refine .e1 (i := 21) (by kernel_rfl) rfl rfl (.some rfl rfl) hs ?_
              obtain ⟨j9, j1, rfl, j3⟩ : ∃ j : Nat, j < (choicesL l.length).length ∧ at9 = (j : Int) ∧ (choicesL l.length)[j]? = some p.probes := by
                rcases hat with h | ⟨h1, _⟩
                · exact h
                · exfalso; omega
              obtain ⟨q1, q2, q3, q4⟩ := choice_ok hin (List.mem_of_getElem? j3)
              refine .call Tryz.call41 rfl (ref09_Chosen_spec hs (hp.mono hle12) (hkp.mono hle12) q4 (by omega)) ?_; rintro v58 w ⟨H3, hle3, hR58, hs⟩
              obtain ⟨a58, c58, rfl⟩ := RPs.shape hR58
              have hle13 := hle12.trans hle3
              refine .go ?_
              refine .e1 (i := 26) (by kernel_rfl) rfl rfl (.some rfl rfl) hs ?_
              refine .call Tryz.call92 rfl (ref09_CheckWorst_spec (a := a) (l := chosenL l p.probes) hs ⟨_, _, rfl, hl.mono hle13, hw.mono hle13⟩ hR58 ⟨_, rfl, RU.mono hku hle13⟩) ?_; rintro _ w ⟨H4, e63, hle4, rfl, hCW, hs⟩
              have hle14 := hle13.trans hle4
              refine .go ?_
              refine .z 27 rfl zneq ?_; refine .z 28 rfl zpF ?_; refine .done (by kernel_rfl) hs ?_
              first
                | (have hx := hCW
                   exact nT ⟨_, _, H4, by repeat (first | exact .nil rfl rfl | refine .cons rfl ?_), hle3.trans hle4, fun hb ⟨k', g⟩ => by
                    have e1 := choices_inj (by omega) g.here j3
                    have e2 := hCW.uniq g.worst
                    simp [e2] at hb, fun hb => by
                    have e2 : e63 = 0 := by simpa using hb
                    subst e2
                    have h46 := hb46
                    have h53 := hb53
                    simp at h46 h53
                    exact ⟨_, rfl, j3, by omega, by omega, hCW⟩, hs⟩)
                | (have hx := hb53
                   exact nT ⟨true, at9, H2, by repeat (first | exact .nil rfl rfl | refine .cons rfl ?_), HLe.refl _, fun _ ⟨k', g⟩ => by
                    have e2 := g.width
                    first | omega | (simp at hb53; omega), fun h => (by cases h), hs⟩)
                | (have hx := hb46
                   exact nT ⟨true, at9, H2, by repeat (first | exact .nil rfl rfl | refine .cons rfl ?_), HLe.refl _, fun _ ⟨k', g⟩ => by
                    rcases hat with ⟨j, _, j2, j3⟩ | ⟨j1, _⟩
                    · have e1 := choices_inj (by omega) g.here j3
                      have e2 := g.len
                      first | omega | (simp at hb46; omega)
                    · omega, fun h => (by cases h), hs⟩)
                | exact nT ⟨true, at9, H2, by repeat (first | exact .nil rfl rfl | refine .cons rfl ?_), HLe.refl _, fun _ ⟨k', g⟩ => by
                    rcases hat with ⟨j, _, j2, _⟩ | ⟨_, j2⟩
                    · omega
                    · exact j2 k' (List.getElem?_eq_some_iff.1 g.here).1 g.here, fun h => (by cases h), hs⟩
      · rintro fs w ⟨bb, z, Hm, hfs, hleM, hbt, hbf, hs⟩
        refine WE.sub ?_ hfs
        have hleHM := hle12.trans hleM
        refine (.cond rfl (fun hc65 => ?_) (fun hc65 => ?_))
        · refine .regSeq (.z zg (.nil ?_))
          refine .ret (rT (Fin.ret1 Tryz.results33 rfl ?_))
          exact ⟨Hm, 93, hleHM, rfl, .inr ⟨hC, .inr ⟨rfl, hbt hc65⟩⟩, hs.out⟩
        · refine .skip ?_
          refine nT ?_
          refine .seq (.regSeq (.z zg (.nil (.block ?_))))
          obtain ⟨j9, rfl, j3, jf, jw, jc⟩ := hbf hc65
          refine .loop (fun q : Nat => ⟨95, [], [(11, I (q : Int)), (9, I (j9 : Int)), (8, .slice aT (choicesL l.length).length cT), (5, .pointer (some ⟨b5, 0, none⟩)), (3, .pointer (some ⟨b3, 0, none⟩)), (1, .slice al l.length cpl)]⟩)
            (fun q w => q ≤ j9 ∧ (∀ (j : Nat) (cj : List Int), j < q → (choicesL l.length)[j]? = some cj → ∃ n, ApR a (chosenL l cj) (gtw p j).1 (gtw p j).2 n 0 ∧ a.width < n) ∧ ∃ Hk, HLe Hm Hk ∧ St Hk w (.blk b5 [.slice akp p.probes.length ckp, I p.width, I p.bound, .slice aku p.uses.length cku, .slice akf css.length ckf] :: .blk b3 [I a.sys.many, ul, uw, I a.width] :: σ))
            (fun q => j9 - q) 0 (by repeat (first | exact .nil rfl rfl | refine .cons rfl ?_))
            ⟨by omega, fun j cj h => by omega, Hm, HLe.refl _, hs⟩ ?_
          rintro i w ⟨hi, hall, Hk, hleK, hs⟩
          have hleHK := hleHM.trans hleK
          have j9L := (List.getElem?_eq_some_iff.1 j3).1
          refine .seq (.regSeq (.z zm (.z zm (.z zlss (.nil ?_)))))
          refine (.condD rfl (fun hc68 => ?_) (fun hc68 => ?_))
          · refine .skip ?_
            refine nT ?_
            refine .seq (.block ?_)
            refine .cut (fun fs w => ∃ (n e : Int) (Hn : Heap), FSub fs ⟨95, [], [(12, I n), (13, I e), (11, I (i : Int)), (9, I (j9 : Int)), (8, .slice aT (choicesL l.length).length cT), (5, .pointer (some ⟨b5, 0, none⟩)), (3, .pointer (some ⟨b3, 0, none⟩)), (1, .slice al l.length cpl)]⟩ ∧ HLe Hm Hn ∧ i < j9 ∧ ApR a (chosenL l (gr (choicesL l.length) i)) (gtw p i).1 (gtw p i).2 n e ∧ St Hn w (.blk b5 [.slice akp p.probes.length ckp, I p.width, I p.bound, .slice aku p.uses.length cku, .slice akf css.length ckf] :: .blk b3 [I a.sys.many, ul, uw, I a.width] :: σ)) ?_ ?_
            · refine .draw mix rfl hs ?_; intro w hs
              refine .ys 0 rfl hs [_, _, _, _] Tryz.isAgg27 Tryz.sizeOf27 ?_; refine .z 1 rfl zm ?_; refine .z 2 rfl zm ?_; refine .z 3 rfl zm ?_
              have hi' : i < j9 := by omega
              have hiL : i < (choicesL l.length).length := by omega
              obtain ⟨q1, q2, q3, q4⟩ := choice_ok hin (List.mem_of_getElem? (gr_get hiL))
              obtain ⟨va, vb, hcs, hA, hB⟩ := RPick.twin (p := p) hkl hkt (j := i) (by omega)
              refine .ixT (i := 4) hs rfl (by kernel_rfl) .none (hRT.mono (hleM.trans hleK)) rfl rfl Tryz.runUnderlying29 Tryz.sizeOf25 hiL rfl ?_; intro b76 o76 a76 c76 hc76 hR76
              refine .r (i := 5) hs rfl (by kernel_rfl) .none (q_loadR rfl Tryz.isAgg25 hc76) ?_
              refine .z 7 rfl (zfa fa_api_Pick_3) ?_; refine .y 8 rfl hs Tryz.isAgg64 ?_; refine .z 9 rfl zm ?_
              refine .ixX (enc := fun c => c) (i := 10) hs rfl (by kernel_rfl) .none (RS.mono hkf' hleHK) rfl rfl Tryz.runUnderlying64 Tryz.sizeOf39 hcs rfl ?_; intro b82 o82 hc82
              refine .r (i := 11) hs rfl (by kernel_rfl) .none (q_loadsR (vs := [va, vb]) rfl Tryz.isAgg39 Tryz.sizeOf39 hc82) ?_
              refine .e1 (i := 6) (by kernel_rfl) rfl rfl .none hs ?_
              refine .call Tryz.call41 rfl (ref09_Chosen_spec hs (hp.mono hleHK) hR76 q4 (by omega)) ?_; rintro v78 w ⟨H5, hle5, hR78, hs⟩
              obtain ⟨a78, c78, rfl⟩ := RPs.shape hR78
              have hleH5 := hleHK.trans hle5
              refine .go ?_
              refine .e1 (i := 12) (by kernel_rfl) rfl rfl .none hs ?_
              refine .call Tryz.call67 rfl (ref09_twins_spec (a := a) (l := chosenL l (gr (choicesL l.length) i)) (A := (gtw p i).1) (B := (gtw p i).2) hs ⟨_, _, rfl, hl.mono hleH5, hw.mono hleH5⟩ hR78 (hA.mono hleH5) (hB.mono hleH5) hok q1 q2) ?_; rintro _ w ⟨n, e84, rfl, hAp, hs⟩
              refine .go ?_
              refine .z 13 rfl zm ?_; refine .z 14 rfl zex ?_; refine .z 15 rfl zex ?_; refine .z 16 rfl zg ?_; refine .z 17 rfl zg ?_; refine .done (by kernel_rfl) hs ?_
              exact nT ⟨n, e84, H5, by repeat (first | exact .nil rfl rfl | refine .cons rfl ?_), hleK.trans hle5, hi', hAp, hs⟩
            · rintro fs w ⟨n, e84, Hn, hfs, hleN, hi', hAp, hs⟩
              refine WE.sub ?_ hfs
              have hiL : i < (choicesL l.length).length := by omega
              have hbad : (e84 ≠ 0 ∨ n ≤ a.width) → ¬ ∃ k, GoodK a l p k := fun hb ⟨k', g⟩ => by
                have e1 := choices_inj (by omega) g.here j3
                subst e1
                obtain ⟨m, g1, g2⟩ := g.fails i _ hi' (gr_get hiL)
                obtain ⟨e3, e4⟩ := hAp.uniq g1
                rcases hb with h | h
                · exact h e4
                · omega
              refine .regSeq (.z zm (.z zneq (.z zm ?_)))
              refine .bifN (t' := 89) rfl (fun hb89 => ?_) (fun hb89 => ?_)
              · refine .gFs 4 2 false rfl rfl rfl ?_
                refine .z zpT (.nil ?_)
                refine (.condT rfl rfl ?_)
                refine .regSeq (.z zg (.nil ?_))
                refine .ret (rB (rT (rT (rB (rT (Fin.ret1 Tryz.results33 rfl ?_))))))
                exact ⟨Hn, 93, hleHM.trans hleN, rfl, .inr ⟨hC, .inr ⟨rfl, hbad (.inl (by first | assumption | (simpa using hb89)))⟩⟩, hs.out⟩
              · refine .gT rfl rfl ?_
                refine .z zm ?_
                refine .gT rfl rfl ?_
                refine .z (zfa fa_api_Ask_2) ?_
                refine .gT rfl rfl ?_
                refine .y hs (zld Tryz.isAgg3) ?_
                refine .gT rfl rfl ?_
                refine .z zleq (.z zpF (.nil ?_))
                refine (.condD rfl (fun hc94 => ?_) (fun hc94 => ?_))
                · refine .regSeq (.z zg (.nil ?_))
                  refine .ret (rB (rT (rT (rB (rT (Fin.ret1 Tryz.results33 rfl ?_))))))
                  exact ⟨Hn, 93, hleHM.trans hleN, rfl, .inr ⟨hC, .inr ⟨rfl, hbad (.inr (by first | assumption | (simpa using hc94)))⟩⟩, hs.out⟩
                · refine .skip ?_
                  refine nB (nT ?_)
                  refine .region (.z zm (.z zadd (.z zg (.nil ?_))))
                  refine nT ?_
                  exact ⟨i + 1, .consI rfl (by push_cast; omega) (by repeat (first | exact .nil rfl rfl | refine .cons rfl ?_)), ⟨by omega, fun j cj hj hcj => by
                    by_cases e : j = i
                    · subst e
                      rw [gr_get hiL] at hcj
                      obtain rfl := Option.some.inj hcj
                      obtain rfl : e84 = 0 := by first | assumption | (simpa using hb89)
                      exact ⟨n, hAp, by first | omega | (simp at hc94; omega)⟩
                    · exact hall j cj (by omega) hcj, Hn, hleN, hs⟩, by omega⟩
          · refine .exit ?_
            refine xT (xT (xB (nT ?_)))
            refine .regSeq (.z zg (.nil ?_))
            refine .ret (Fin.ret1 Tryz.results33 rfl ?_)
            obtain rfl : i = j9 := by omega
            exact ⟨Hk, 0, hleHK, rfl, .inr ⟨hC, .inl ⟨rfl, i, ⟨j3, jf, jw, jc, hall⟩⟩⟩, hs.out⟩
end Go.Proofs.YtiiokdeehlfeeaaGreat

namespace Go.Proofs.YtiiokdeehlfeeaaGreat
open Go.MW
def UptoK (a : Quest) (l : List Prb) (p : Pck) (k : Nat) : Prop :=
  ∀ (j : Nat) (cj : List Int), j < k → (choicesL l.length)[j]? = some cj → cj ≠ p.probes ∧ j < p.fails.length ∧ ∃ n, ApR a (chosenL l cj) (gtw p j).1 (gtw p j).2 n 0 ∧ a.width < n
theorem UptoK.good {a : Quest} {l : List Prb} {p : Pck} {k k' : Nat} (h : UptoK a l p k) (g : GoodK a l p k') : k ≤ k' := by
  apply Classical.byContradiction
  intro hn
  exact (h k' _ (by omega) g.here).1 rfl
set_option maxHeartbeats 8000000 in
theorem probe_CheckPick_1 {H : Heap} {w : World} {σ : List Ent} {v vl vp vu vf : Value} {a : Quest} {l : List Prb} {p : Pck} {css : List (List Value)} {bl bk : Nat} (hs : St H w σ) (hr : RAsk H v a) (hb : Row H bl [vl]) (hbk : Row H bk [vp, I p.width, I p.bound, vu, vf]) (hp : RPs H vl l)
    (hkp : RI H vp p.probes) (hku : RU H vu p.uses) (hkf : RS H 2 vf css) (hkl : css.length = p.fails.length) (hkt : ∀ (j : Nat) (c : List Value) (t : List Int × List Int), css[j]? = some c → p.fails[j]? = some t → TwC H c t) (hC : CPrbR a l 0) :
    Cl Tryz.prog 90 [v, .pointer (some ⟨bl, 0, none⟩), .pointer (some ⟨bk, 0, none⟩)] w fun u w' => ∃ H1 e, HLe H H1 ∧ u = .tuple #[.agg #[], I e] ∧ ((e = 0 ∧ ∃ k, GoodK a l p k) ∨ (e = 93 ∧ ¬ ∃ k, GoodK a l p k)) ∧ St H1 w' σ := by
  obtain ⟨ul, uw, rfl, hl, hw⟩ := hr
  obtain ⟨al, cpl, rfl⟩ := RPs.shape hp
  obtain ⟨akp, ckp, rfl⟩ := RI.shape hkp
  obtain ⟨aku, cku, rfl⟩ := RU.shape hku
  obtain ⟨akf, ckf, rfl⟩ := RS.shape hkf
  have hkf' : RS H 2 (.slice akf css.length ckf) (css.map fun c => c) := by simpa using hkf
  obtain ⟨hok, hlen, hin0⟩ := hC.zero
  have hin : ∀ p ∈ l, PrbIn a p := fun p h => (hin0 p h).inn
  have hLn := choicesL_length (n := l.length) (by omega)
  refine Cl.of Tryz.func90 rfl Tryz.ntmps90 (by simp) (args_cons (k := 0) rfl (args_cons (k := 1) rfl (args_cons (k := 2) rfl (args0)))) ?_
  refine .regSeq ?_
  refine .o (.box hs rfl rfl ?_); intro b3 w hs
  refine .o (.alloc hs Tryz.zeroValue130 rfl ?_); intro b4 w hs
  refine .o (.alloc hs Tryz.zeroValue30 rfl ?_); intro b5 w hs
  refine .nil (.regSeq ?_)
  refine .o (.alloc hs Tryz.zeroValue3 rfl ?_); intro b6 w hs
  refine .o (.store hs rfl rfl Tryz.sizeOf3 ?_); intro w hs
  refine .nil ?_
  obtain ⟨Hq, hleq, hrq, hs⟩ := hs.publish (b := b3) (by repeat constructor)
  have hbq := (hb.mono hleq).at 0
  refine .cut (fun fs w => ∃ D Hx z, FSub fs ⟨73, marks [D], [(4, .pointer (some ⟨b4, 0, none⟩)), (5, .pointer (some ⟨b5, 0, none⟩))]⟩ ∧ HLe Hq Hx ∧ (¬ ∃ k, GoodK a l p k) ∧ St Hx w (.obj D (.deferred (some [])) :: .blk b6 [I z] :: .blk b5 [I 0] :: .blk b4 [] :: σ)) ?_ ?_
  · refine .regSeq (.y hs (zld Tryz.isAgg28) (.z (zlen Tryz.runUnderlying28) ?_))
    refine .o (.call Tryz.call54 rfl (probe_choices_spec hs (n := l.length) (by omega)) ?_); rintro _ w ⟨Hc, bc, hlec, rfl, hit, hs⟩
    refine .nil (.block ?_)
    refine .rangeE (gf := 139) (cap := [.pointer (some ⟨bc, 0, none⟩)]) (N := (choicesL l.length).length) (E := ChE l.length) (σb := [.blk b6 [I 0], .blk b5 [I 0], .blk b4 []]) (σf := σ)
      hs trivial rfl hit Tryz.call139 (fun _ _ z ⟨v, _, hz, _⟩ => by rw [hz]; rfl) rfl
      (I := fun k H' σb => σb = [.blk b6 [I (k : Int)], .blk b5 [I 0], .blk b4 []] ∧ HLe Hc H' ∧ UptoK a l p k)
      (Ix := fun c H' σb => HLe Hc H' ∧ ((c = .ret ∧ ∃ e z, σb = [.blk b6 [I z], .blk b5 [I e], .blk b4 []] ∧ ((e = 0 ∧ ∃ k, GoodK a l p k) ∨ (e = 93 ∧ ¬ ∃ k, GoodK a l p k))) ∨ (c = .exit 0 ∧ ∃ z, σb = [.blk b6 [I z], .blk b5 [I 0], .blk b4 []] ∧ ¬ ∃ k, GoodK a l p k)))
      (fun k _ _ σ g1 ⟨g2, g3, g4⟩ => ⟨g2, g3.trans g1, g4⟩) (fun c _ _ σ g1 ⟨g2, g3⟩ => ⟨g2.trans g1, g3⟩)
      ⟨rfl, HLe.refl _, fun j cj h => by omega⟩ ?_ ?_ ?_
    · rintro ll k hk z H2 σb2 σf2 w hle2 ⟨vc, cc, rfl, hcc, hnn, hRc⟩ ⟨rfl, hc2, hU⟩ hs ⟨rr, hrr⟩
      obtain ⟨q1, q2, q3, q4⟩ := choice_ok hin (List.mem_of_getElem? hcc)
      obtain ⟨ac, cpc, rfl⟩ := RI.shape hRc
      refine .region (.z zg (.nil ?_))
      refine nT ?_
      refine ⟨H2, _, HLe.refl _, hs, ?_⟩; rintro w σf4 - hs
      replace hs : St H2 w (.blk b6 [I (k : Int)] :: .blk b5 [I 0] :: .blk b4 [] :: σf4) := hs
      have hH2 := hleq.trans (hlec.trans hc2)
      have hq2 := hlec.trans hc2
      have hb2 := (hb.mono hH2).at 0
      have hk0 : cellAt H2 bk 0 = some (.slice akp p.probes.length ckp) := (hbk.mono hH2).at 0
      have hk1 : cellAt H2 bk 1 = some (I p.width) := (hbk.mono hH2).at 1
      have hk4 : cellAt H2 bk 4 = some (.slice akf css.length ckf) := (hbk.mono hH2).at 4
      have hk2 := (hbk.mono hH2).cells 2 [I p.bound, .slice aku p.uses.length cku]
      have hq3 : cellAt H2 b3 3 = some (I a.width) := (hrq.mono hq2).at 3
      have hq4 := (hrq.mono hq2).cells 0 [I a.sys.many, ul, uw, I a.width]
      refine .block (.seq (.regSeq (.z zm (.z (zfa fa_api_Pick_0) (.y hs (zld Tryz.isAgg25) ?_)))))
      refine .o (.call Tryz.call91 rfl (slices_Equal_int hs hRc (hkp.mono hH2)) ?_); rintro _ w ⟨rfl, hs⟩
      refine .nil ?_
      refine (.cond rfl (fun hc17 => ?_) (fun hc17 => ?_))
      · refine .seq ?_
        refine .cut (fun fs w => ∃ (bb : Bool) (Hm : Heap), FSub fs ⟨73, [], [(41, .bool bb), (4, .pointer (some ⟨b4, 0, none⟩)), (5, .pointer (some ⟨b5, 0, none⟩)), (6, .pointer (some ⟨b6, 0, none⟩))]⟩ ∧ HLe H2 Hm ∧ (bb = true → ¬ ∃ k, GoodK a l p k) ∧ (bb = false → GoodK a l p k) ∧ St Hm w (.blk b6 [I (k : Int)] :: .blk b5 [I 0] :: .blk b4 [] :: σf4)) ?_ ?_
        · refine .draw mix rfl hs ?_; intro w hs
          have heq : cc = p.probes := of_decide_eq_true (by simpa using hc17)
          have hccp : (choicesL l.length)[k]? = some p.probes := by rw [hcc, heq]
          refine .y 0 rfl hs Tryz.isAgg3 ?_; refine .z 1 rfl (zfa fa_api_Pick_3) ?_; refine .y 2 rfl hs Tryz.isAgg64 ?_; refine .z 3 rfl (zlen Tryz.runUnderlying64) ?_; refine .z 4 rfl zneq ?_; refine .z 5 rfl zm ?_
          refine .bifN (t' := 23) rfl (fun hb23 => ?_) (fun hb23 => ?_)
          · refine .qF (i := 6) rfl (by kernel_rfl) rfl rfl ?_
            refine .qF (i := 7) rfl (by kernel_rfl) rfl rfl ?_
            refine .qF (i := 8) rfl (by kernel_rfl) rfl rfl ?_
            refine .qF (i := 9) rfl (by kernel_rfl) rfl rfl ?_
            refine .qF (i := 10) rfl (by kernel_rfl) rfl rfl ?_
            refine .z 11 rfl zpT ?_; refine .z 12 rfl zm ?_
            refine .qF (i := 13) rfl (by kernel_rfl) rfl rfl ?_
            refine .qF (i := 14) rfl (by kernel_rfl) rfl rfl ?_
            refine .qF (i := 15) rfl (by kernel_rfl) rfl rfl ?_
            refine .qF (i := 16) rfl (by kernel_rfl) rfl rfl ?_
            refine .qF (i := 17) rfl (by kernel_rfl) rfl rfl ?_
            refine .qF (i := 18) rfl (by kernel_rfl) rfl rfl ?_
            refine .qF (i := 19) rfl (by kernel_rfl) rfl rfl ?_
            refine .qF (i := 20) rfl (by kernel_rfl) rfl rfl ?_
            refine .qF (i := 21) rfl (by kernel_rfl) rfl rfl ?_
            refine .qF (i := 22) rfl (by kernel_rfl) rfl rfl ?_
            refine .z 23 rfl zpT ?_; refine .done (by kernel_rfl) hs ?_
            first
              | (have hx := hCW
                 exact nT ⟨_, H4, by repeat (first | exact .nil rfl rfl | refine .cons rfl ?_), hle3.trans hle4, fun hb ⟨k', g⟩ => by
                  have e1 := choices_inj (by omega) g.here hccp
                  have e2 := hCW.uniq (by rw [heq]; exact g.worst)
                  simp [e2] at hb, fun hb => by
                  have e2 : e39 = 0 := by simpa using hb
                  subst e2
                  have h46 := hb23
                  have h53 := hb30
                  simp at h46 h53
                  exact ⟨hccp, by omega, by omega, by rw [← heq]; exact hCW, fun j cj hj hcj => (hU j cj hj hcj).2.2⟩, hs⟩)
              | (have hx := hb30
                 exact nT ⟨true, H2, by repeat (first | exact .nil rfl rfl | refine .cons rfl ?_), HLe.refl _, fun _ ⟨k', g⟩ => by
                  have e2 := g.width
                  first | omega | (simp at hb30; omega), fun h => (by cases h), hs⟩)
              | exact nT ⟨true, H2, by repeat (first | exact .nil rfl rfl | refine .cons rfl ?_), HLe.refl _, fun _ ⟨k', g⟩ => by
                  have e1 := choices_inj (by omega) g.here hccp
                  have e2 := g.len
                  first | omega | (simp at hb23; omega), fun h => (by cases h), hs⟩
          · refine .z 6 rfl (zfa fa_api_Pick_1) ?_; refine .y 7 rfl hs Tryz.isAgg3 ?_; refine .z 8 rfl (zfa fa_api_Ask_2) ?_; refine .y 9 rfl hs Tryz.isAgg3 ?_; refine .z 10 rfl zgtr ?_; refine .z 11 rfl zpF ?_; refine .z 12 rfl zm ?_
            refine .bifD (t' := 30) rfl (fun hb30 => ?_) (fun hb30 => ?_)
            · refine .qF (i := 13) rfl (by kernel_rfl) rfl rfl ?_
              refine .qF (i := 14) rfl (by kernel_rfl) rfl rfl ?_
              refine .qF (i := 15) rfl (by kernel_rfl) rfl rfl ?_
              refine .qF (i := 16) rfl (by kernel_rfl) rfl rfl ?_
              refine .qF (i := 17) rfl (by kernel_rfl) rfl rfl ?_
              refine .qF (i := 18) rfl (by kernel_rfl) rfl rfl ?_
              refine .qF (i := 19) rfl (by kernel_rfl) rfl rfl ?_
              refine .qF (i := 20) rfl (by kernel_rfl) rfl rfl ?_
              refine .qF (i := 21) rfl (by kernel_rfl) rfl rfl ?_
              refine .qF (i := 22) rfl (by kernel_rfl) rfl rfl ?_
              refine .z 23 rfl zpT ?_; refine .done (by kernel_rfl) hs ?_
              first
                | (have hx := hCW
                   exact nT ⟨_, H4, by repeat (first | exact .nil rfl rfl | refine .cons rfl ?_), hle3.trans hle4, fun hb ⟨k', g⟩ => by
                    have e1 := choices_inj (by omega) g.here hccp
                    have e2 := hCW.uniq (by rw [heq]; exact g.worst)
                    simp [e2] at hb, fun hb => by
                    have e2 : e39 = 0 := by simpa using hb
                    subst e2
                    have h46 := hb23
                    have h53 := hb30
                    simp at h46 h53
                    exact ⟨hccp, by omega, by omega, by rw [← heq]; exact hCW, fun j cj hj hcj => (hU j cj hj hcj).2.2⟩, hs⟩)
                | (have hx := hb30
                   exact nT ⟨true, H2, by repeat (first | exact .nil rfl rfl | refine .cons rfl ?_), HLe.refl _, fun _ ⟨k', g⟩ => by
                    have e2 := g.width
                    first | omega | (simp at hb30; omega), fun h => (by cases h), hs⟩)
                | exact nT ⟨true, H2, by repeat (first | exact .nil rfl rfl | refine .cons rfl ?_), HLe.refl _, fun _ ⟨k', g⟩ => by
                    have e1 := choices_inj (by omega) g.here hccp
                    have e2 := g.len
                    first | omega | (simp at hb23; omega), fun h => (by cases h), hs⟩
            · refine .ys 13 rfl hs [_, _, _, _] Tryz.isAgg27 Tryz.sizeOf27 ?_; refine .y 14 rfl hs Tryz.isAgg28 ?_; refine .z 15 rfl zm ?_; refine .z 17 rfl (zfa fa_api_Pick_1) ?_; refine .y 18 rfl hs Tryz.isAgg3 ?_; refine .z 19 rfl (zfa fa_api_Pick_2) ?_; refine .ys 20 rfl hs [_, _] Tryz.isAgg63 Tryz.sizeOf63 ?_
              refine .e1 (i := 16) (by kernel_rfl) rfl rfl (.some rfl rfl) hs ?_
              refine .call Tryz.call86 rfl (probe_chosen_spec hs (hp.mono hH2) hRc q4 (by omega)) ?_; rintro v34 w ⟨H3, hle3, hch3, hs⟩
              obtain ⟨a34, c34, rfl⟩ := RPs.shape hch3
              refine .go ?_
              refine .e1 (i := 21) (by kernel_rfl) rfl rfl (.some rfl rfl) hs ?_
              refine .call Tryz.call37 rfl (probe_CheckWorst_spec (a := a) (l := chosenL l cc) hs ⟨_, _, rfl, hl.mono (hH2.trans hle3), hw.mono (hH2.trans hle3)⟩ hch3 ⟨_, rfl, RU.mono hku (hH2.trans hle3)⟩) ?_; rintro _ w ⟨H4, e39, hle4, rfl, hCW, hs⟩
              have hle24 := hle3.trans hle4
              refine .go ?_
              refine .z 22 rfl zneq ?_; refine .z 23 rfl zpF ?_; refine .done (by kernel_rfl) hs ?_
              first
                | (have hx := hCW
                   exact nT ⟨_, H4, by repeat (first | exact .nil rfl rfl | refine .cons rfl ?_), hle3.trans hle4, fun hb ⟨k', g⟩ => by
                    have e1 := choices_inj (by omega) g.here hccp
                    have e2 := hCW.uniq (by rw [heq]; exact g.worst)
                    simp [e2] at hb, fun hb => by
                    have e2 : e39 = 0 := by simpa using hb
                    subst e2
                    have h46 := hb23
                    have h53 := hb30
                    simp at h46 h53
                    exact ⟨hccp, by omega, by omega, by rw [← heq]; exact hCW, fun j cj hj hcj => (hU j cj hj hcj).2.2⟩, hs⟩)
                | (have hx := hb30
                   exact nT ⟨true, H2, by repeat (first | exact .nil rfl rfl | refine .cons rfl ?_), HLe.refl _, fun _ ⟨k', g⟩ => by
                    have e2 := g.width
                    first | omega | (simp at hb30; omega), fun h => (by cases h), hs⟩)
                | exact nT ⟨true, H2, by repeat (first | exact .nil rfl rfl | refine .cons rfl ?_), HLe.refl _, fun _ ⟨k', g⟩ => by
                    have e1 := choices_inj (by omega) g.here hccp
                    have e2 := g.len
                    first | omega | (simp at hb23; omega), fun h => (by cases h), hs⟩
        · rintro fs w ⟨bb, Hm, hfs, hleM, hbt, hbf, hs⟩
          refine WE.sub ?_ hfs
          refine (.cond rfl (fun hc41 => ?_) (fun hc41 => ?_))
          · refine .regSeq (.z (zbd [] bld_struct) ?_)
            refine .o (.stores (vs := []) hs rfl rfl Tryz.sizeOf130 ?_); intro w hs
            refine .o (.store hs rfl rfl Tryz.sizeOf30 ?_); intro w hs
            refine .nil ?_
            refine .ret (rT (rT (rB (?_))))
            exact ⟨Hm, _, hleM, hs, hc2.trans hleM, .inl ⟨rfl, 93, _, rfl, .inr ⟨rfl, hbt hc41⟩⟩⟩
          · refine .skip ?_
            refine nT ?_
            refine .regSeq (.z (zbd [] bld_struct) ?_)
            refine .o (.stores (vs := []) hs rfl rfl Tryz.sizeOf130 ?_); intro w hs
            refine .o (.store hs rfl rfl Tryz.sizeOf30 ?_); intro w hs
            refine .nil ?_
            refine .ret (rT (rB (?_)))
            exact ⟨Hm, _, hleM, hs, hc2.trans hleM, .inl ⟨rfl, 0, _, rfl, .inl ⟨rfl, k, hbf hc41⟩⟩⟩
      · refine .skip ?_
        refine nT ?_
        refine .seq (.regSeq ?_)
        have hne : cc ≠ p.probes := fun h => by simp [h] at hc17
        have hUk : ∀ k', GoodK a l p k' → k < k' := fun k' g => by
          have h1 := hU.good g
          rcases Nat.lt_or_ge k k' with h | h
          · exact h
          · obtain rfl : k = k' := by omega
            have := g.here
            rw [hcc] at this
            exact (hne (Option.some.inj this)).elim
        refine .y hs (zld Tryz.isAgg3) (.z (zfa fa_api_Pick_3) (.y hs (zld Tryz.isAgg64) (.z (zlen Tryz.runUnderlying64) (.z zgeq (.nil ?_)))))
        refine (.condD rfl (fun hc48 => ?_) (fun hc48 => ?_))
        · refine .exit ?_
          refine xT (xN ?_)
          first
            | (have hx := hbad
               exact ⟨Hn, _, hleN, hs, hc2.trans hleN, .inr ⟨rfl, _, rfl, hbad (by first | exact .inl (by first | assumption | (simpa using hb64)) | exact .inr (by first | assumption | (simpa using hc69)))⟩⟩)
            | exact ⟨H2, _, HLe.refl _, hs, hc2, .inr ⟨rfl, _, rfl, fun ⟨k', g⟩ => by
                have h1 := hUk k' g
                have h2 := g.len
                first | omega | (simp at hc48; omega)⟩⟩
        · refine .skip ?_
          refine nT ?_
          refine .seq ?_
          refine .cut (fun fs w => ∃ (n e : Int) (Hn : Heap), FSub fs ⟨73, [], [(8, I n), (9, I e), (2, .pointer (some ⟨bk, 0, none⟩)), (3, .pointer (some ⟨b3, 0, none⟩)), (6, .pointer (some ⟨b6, 0, none⟩))]⟩ ∧ HLe H2 Hn ∧ k < p.fails.length ∧ ApR a (chosenL l cc) (gtw p k).1 (gtw p k).2 n e ∧ St Hn w (.blk b6 [I (k : Int)] :: .blk b5 [I 0] :: .blk b4 [] :: σf4)) ?_ ?_
          · refine .draw mix rfl hs ?_; intro w hs
            refine .ys 0 rfl hs [_, _, _, _] Tryz.isAgg27 Tryz.sizeOf27 ?_; refine .y 1 rfl hs Tryz.isAgg28 ?_; refine .z 2 rfl zm ?_; refine .z 4 rfl (zfa fa_api_Pick_3) ?_; refine .y 5 rfl hs Tryz.isAgg64 ?_; refine .y 6 rfl hs Tryz.isAgg3 ?_
            have hkf2 : k < p.fails.length := by omega
            obtain ⟨va, vb, hcs, hA, hB⟩ := RPick.twin (p := p) hkl hkt (j := k) hkf2
            refine .ixX (enc := fun c => c) (i := 7) hs rfl (by kernel_rfl) .none (RS.mono hkf' hH2) rfl rfl Tryz.runUnderlying64 Tryz.sizeOf39 hcs rfl ?_; intro b57 o57 hc57
            refine .r (i := 8) hs rfl (by kernel_rfl) .none (q_loadsR (vs := [va, vb]) rfl Tryz.isAgg39 Tryz.sizeOf39 hc57) ?_
            refine .e1 (i := 3) (by kernel_rfl) rfl rfl .none hs ?_
            refine .call Tryz.call86 rfl (probe_chosen_spec hs (hp.mono hH2) hRc q4 (by omega)) ?_; rintro v53 w ⟨H3, hle3, hch3, hs⟩
            obtain ⟨a53, c53, rfl⟩ := RPs.shape hch3
            have hH3 := hH2.trans hle3
            refine .go ?_
            refine .e1 (i := 9) (by kernel_rfl) rfl rfl .none hs ?_
            refine .call Tryz.call66 rfl (probe_apart_spec (a := a) (l := chosenL l cc) (A := (gtw p k).1) (B := (gtw p k).2) hs ⟨_, _, rfl, hl.mono hH3, hw.mono hH3⟩ hch3 (hA.mono hH3) (hB.mono hH3) hok q1 q2) ?_; rintro _ w ⟨n, e59, rfl, hAp, hs⟩
            refine .go ?_
            refine .z 10 rfl zm ?_; refine .z 11 rfl zex ?_; refine .z 12 rfl zex ?_; refine .z 13 rfl zg ?_; refine .z 14 rfl zg ?_; refine .done (by kernel_rfl) hs ?_
            exact nT ⟨n, e59, H3, by repeat (first | exact .nil rfl rfl | refine .cons rfl ?_), hle3, hkf2, hAp, hs⟩
          · rintro fs w ⟨n, e59, Hn, hfs, hleN, hkf2, hAp, hs⟩
            refine WE.sub ?_ hfs
            have hq9 : cellAt Hn b3 3 = some (I a.width) := (hrq.mono (hq2.trans hleN)).at 3
            have hbad : (e59 ≠ 0 ∨ n ≤ a.width) → ¬ ∃ k, GoodK a l p k := fun hb ⟨k', g⟩ => by
              obtain ⟨m, g1, g2⟩ := g.fails k cc (hUk k' g) hcc
              obtain ⟨e3, e4⟩ := hAp.uniq g1
              rcases hb with h | h
              · exact h e4
              · omega
            refine .regSeq (.z zm (.z zneq (.z zm ?_)))
            refine .bifN (t' := 64) rfl (fun hb64 => ?_) (fun hb64 => ?_)
            · refine .gFs 4 2 false rfl rfl rfl ?_
              refine .z zpT (.nil ?_)
              refine (.condT rfl rfl ?_)
              refine .exit ?_
              refine xT (xN ?_)
              first
                | (have hx := hbad
                   exact ⟨Hn, _, hleN, hs, hc2.trans hleN, .inr ⟨rfl, _, rfl, hbad (by first | exact .inl (by first | assumption | (simpa using hb64)) | exact .inr (by first | assumption | (simpa using hc69)))⟩⟩)
                | exact ⟨H2, _, HLe.refl _, hs, hc2, .inr ⟨rfl, _, rfl, fun ⟨k', g⟩ => by
                    have h1 := hUk k' g
                    have h2 := g.len
                    first | omega | (simp at hc48; omega)⟩⟩
            · refine .gT rfl rfl ?_
              refine .z zm ?_
              refine .gT rfl rfl ?_
              refine .z (zfa fa_api_Ask_2) ?_
              refine .gT rfl rfl ?_
              refine .y hs (zld Tryz.isAgg3) ?_
              refine .gT rfl rfl ?_
              refine .z zleq (.z zpF (.nil ?_))
              refine (.condD rfl (fun hc69 => ?_) (fun hc69 => ?_))
              · refine .exit ?_
                refine xT (xN ?_)
                first
                  | (have hx := hbad
                     exact ⟨Hn, _, hleN, hs, hc2.trans hleN, .inr ⟨rfl, _, rfl, hbad (by first | exact .inl (by first | assumption | (simpa using hb64)) | exact .inr (by first | assumption | (simpa using hc69)))⟩⟩)
                  | exact ⟨H2, _, HLe.refl _, hs, hc2, .inr ⟨rfl, _, rfl, fun ⟨k', g⟩ => by
                      have h1 := hUk k' g
                      have h2 := g.len
                      first | omega | (simp at hc48; omega)⟩⟩
              · refine .skip ?_
                refine nT ?_
                refine .region (.y hs (zld Tryz.isAgg3) (.z zadd ?_))
                refine .o (.store hs rfl rfl Tryz.sizeOf3 ?_); intro w hs
                refine .nil ?_
                refine nB ?_
                exact ⟨Hn, _, hleN, hs, by
                  obtain rfl : e59 = 0 := by first | assumption | (simpa using hb64)
                  exact ⟨rfl, hc2.trans hleN, fun j cj hj hcj => by
                    by_cases e : j = k
                    · subst e
                      rw [hcc] at hcj
                      obtain rfl := Option.some.inj hcj
                      exact ⟨hne, hkf2, n, hAp, by first | omega | (simp at hc69; omega)⟩
                    · exact hU j cj (by omega) hcj⟩⟩
    · rintro D H2 σb2 w hle2 ⟨rfl, hc2, hU⟩ hs
      refine nB (nT ?_)
      exact ⟨D, H2, _, by repeat (first | exact .nil rfl rfl | refine .cons rfl ?_), hlec.trans hc2, fun ⟨k', g⟩ => by
        have h1 := hU.good g
        have h2 := (List.getElem?_eq_some_iff.1 g.here).1
        omega, hs⟩
    · rintro D c H2 σb2 w hle2 ⟨hc2, ⟨rfl, e, z, rfl, hfact⟩ | ⟨rfl, z, rfl, hno⟩⟩ hs
      · exact .ret (rB (rT (Fin.retD [D] [] (show St _ _ ([] ++ (mes [D] ++ _)) from hs) fun w hs => ⟨_, results2 Tryz.results90 (rcells (vs := []) hs rfl Tryz.isAgg130 Tryz.sizeOf130) (rcell hs rfl Tryz.isAgg30), H2, e, hleq.trans (hlec.trans hc2), rfl, hfact, hs.out⟩)))
      · exact .exit (xB (nT ⟨D, H2, z, by repeat (first | exact .nil rfl rfl | refine .cons rfl ?_), hlec.trans hc2, hno, hs⟩))
  · rintro fs w ⟨D, Hx, z, hfs, hqx, hno, hs⟩
    refine WE.sub ?_ hfs
    refine .regSeq (.z (zbd [] bld_struct) ?_)
    refine .o (.stores (vs := []) hs rfl rfl Tryz.sizeOf130 ?_); intro w hs
    refine .o (.store hs rfl rfl Tryz.sizeOf30 ?_); intro w hs
    refine .nil ?_
    refine .ret ?_
    exact Fin.endD [D] [] (show St _ _ ([] ++ (mes [D] ++ _)) from hs) fun w hs => ⟨_, results2 Tryz.results90 (rcells (vs := []) hs rfl Tryz.isAgg130 Tryz.sizeOf130) (rcell hs rfl Tryz.isAgg30), Hx, 93, hleq.trans hqx, rfl, .inr ⟨rfl, hno⟩, hs.out⟩
end Go.Proofs.YtiiokdeehlfeeaaGreat

namespace Go.Proofs.YtiiokdeehlfeeaaGreat
open Go.MW
theorem probe_CheckPick_spec {H : Heap} {w : World} {σ : List Ent} {v vl vk : Value} {a : Quest} {l : List Prb} {p : Pck} (hs : St H w σ) (hr : RAsk H v a) (hp : RPs H vl l) (hk : RPick H vk p) :
    Cl Tryz.prog 32 [v, vl, vk] w fun u w' => ∃ H1 e, HLe H H1 ∧ u = I e ∧ PickR a l p e ∧ St H1 w' σ := by
  obtain ⟨ul, uw, rfl, hl, hw⟩ := hr
  obtain ⟨al, cpl, rfl⟩ := RPs.shape hp
  obtain ⟨vp, vu, vf, css, rfl, hkp, hku, hkf, hkl, hkt⟩ := hk
  obtain ⟨akp, ckp, rfl⟩ := RI.shape hkp
  obtain ⟨aku, cku, rfl⟩ := RU.shape hku
  obtain ⟨akf, ckf, rfl⟩ := RS.shape hkf
  refine Cl.of Tryz.func32 rfl Tryz.ntmps32 (by simp) (args_cons (k := 0) rfl (args_cons (k := 1) rfl (args_cons (k := 2) rfl (args0)))) ?_
  refine .regSeq ?_
  refine .o (.box hs rfl rfl ?_); intro b3 w hs
  refine .o (.box hs rfl rfl ?_); intro b4 w hs
  refine .o (.box hs rfl rfl ?_); intro b5 w hs
  refine .z zg (.nil (.regSeq (.y hs (zls [_, _, _, _] Tryz.isAgg27 Tryz.sizeOf27) (.y hs (zld Tryz.isAgg28) ?_))))
  refine .q hs (q_makeFunc (f := []) (c := [_, _]) rfl rfl) ?_
  obtain ⟨H0, hle0, hb4, hs⟩ := hs.publish (b := b4) (by repeat constructor)
  obtain ⟨H1, hle1, hb5, hs⟩ := hs.publish (b := b5) (by repeat constructor)
  have hle01 := hle0.trans hle1
  refine .o (.call Tryz.call89 rfl (probe_told_none (R := fun e => (e = 0 ∧ ∃ k, GoodK a l p k) ∨ (e = 93 ∧ ¬ ∃ k, GoodK a l p k)) (a := a) (l := l) (cap := [.pointer (some ⟨b4, 0, none⟩), .pointer (some ⟨b5, 0, none⟩)]) hs ⟨_, _, rfl, hl.mono hle01, hw.mono hle01⟩ (hp.mono hle01) Tryz.call90 ?_) ?_)
  · rintro H' w σ' hle hC hs
    have hle2 := hle01.trans hle
    exact probe_CheckPick_1 (a := a) (l := l) (p := p) hs ⟨_, _, rfl, hl.mono hle2, hw.mono hle2⟩ ((hb4.mono hle1).mono hle) (hb5.mono hle) (hp.mono hle2) (hkp.mono hle2) (RU.mono hku hle2) (RS.mono hkf hle2) hkl (fun j c t h1 h2 => (hkt j c t h1 h2).mono hle2) hC
  rintro _ w ⟨H2, e, hle2, rfl, hR, hs⟩
  refine .z zm (.z zex (.z zex ?_))
  refine .o (.alloc hs Tryz.zeroValue130 rfl ?_); intro b7 w hs
  refine .o (.stores (vs := []) hs rfl rfl Tryz.sizeOf130 ?_); intro w hs
  refine .z zg (.nil (.regSeq (.z zm (.z zg (.nil ?_)))))
  refine .ret (Fin.ret1 Tryz.results32 rfl ?_)
  exact ⟨H2, e, hle01.trans hle2, rfl, hR, hs.out⟩
theorem FewP.good {a : Quest} {l : List Prb} {p : Pck} (hok : AskOk a) (hin0 : ∀ p ∈ l, PrbOk a p) {k : Nat} (h1 : (choicesL l.length)[k]? = some p.probes) (h2 : ShownR a (chosenL l p.probes) p.width p.uses) (h3 : p.bound = p.width) (h4 : p.width ≤ a.width) (h5 : p.fails.length = k)
    (h6 : ∀ (j : Nat) (cj : List Int), j < k → (choicesL l.length)[j]? = some cj → (∀ m, PairS a (chosenL l cj) m → a.width < m) ∧ ∃ t, p.fails[j]? = some t ∧ TwinR a (chosenL l cj) t) : GoodK a l p k := by
  have hin : ∀ p ∈ l, PrbIn a p := fun p h => (hin0 p h).inn
  have hsub : ∀ {c : List Int}, c ∈ choicesL l.length → CPrbR a (chosenL l c) 0 := fun {c} hc => .ok hok (by have := (choice_ok hin hc).1; omega) fun p hp => hin0 p (chosenL_mem hp)
  refine ⟨h1, h5, h4, ?_, fun j cj hj hcj => ?_⟩
  · rw [h3]
    exact .ok (hsub (List.mem_of_getElem? h1)) (shown_proofU hok h2) (by omega)
  · obtain ⟨g1, t, g2, g3⟩ := h6 j cj hj hcj
    obtain ⟨q1, q2, q3, q4⟩ := choice_ok hin (List.mem_of_getElem? hcj)
    have e : gtw p j = t := by
      have := gtw_get (p := p) (j := j) (by omega)
      rw [g2] at this
      exact (Option.some.inj this).symm
    have hF : TwinF a (chosenL l cj) (gtw p j).1 (gtw p j).2 := by
      rw [e]
      exact twin_facts hok q2 (by exact g3)
    refine ⟨_, .ok hF.kA hF.kB hF.near, ?_⟩
    rw [hF.wrap hok q2]
    exact g1 _ hF.most
theorem ref09_Good_spec {H : Heap} {w : World} {σ : List Ent} {v vl vk : Value} {a : Quest} {l : List Prb} {p : Pck} (hs : St H w σ) (hr : RAsk H v a) (hp : RPs H vl l) (hk : RPick H vk p) (hC : CPrbR a l 0) (hF : FewP a l p 0) :
    Cl Tryz.prog 34 [v, vl, vk] w fun u w' => ∃ H1, HLe H H1 ∧ u = .bool true ∧ St H1 w' σ := by
  obtain ⟨ul, uw, rfl, hl, hw⟩ := hr
  obtain ⟨al, cpl, rfl⟩ := RPs.shape hp
  have hk0 := hk
  obtain ⟨vp, vu, vf, css, rfl, hkp, hku, hkf, hkl, hkt⟩ := hk
  obtain ⟨akp, ckp, rfl⟩ := RI.shape hkp
  obtain ⟨aku, cku, rfl⟩ := RU.shape hku
  obtain ⟨akf, ckf, rfl⟩ := RS.shape hkf
  obtain ⟨hok, hlen, hin0⟩ := hC.zero
  obtain ⟨k, h1, h2, h3, h4, h5, h6⟩ : ∃ k, (choicesL l.length)[k]? = some p.probes ∧ ShownR a (chosenL l p.probes) p.width p.uses ∧ p.bound = p.width ∧ p.width ≤ a.width ∧ p.fails.length = k ∧
      ∀ (j : Nat) (cj : List Int), j < k → (choicesL l.length)[j]? = some cj → (∀ m, PairS a (chosenL l cj) m → a.width < m) ∧ ∃ t, p.fails[j]? = some t ∧ TwinR a (chosenL l cj) t := by
    rcases hF with ⟨h, _⟩ | ⟨_, h⟩
    · omega
    · exact h
  have hG := FewP.good hok hin0 h1 h2 h3 h4 h5 h6
  refine Cl.of Tryz.func34 rfl Tryz.ntmps34 (by simp) (args_cons (k := 0) rfl (args_cons (k := 1) rfl (args_cons (k := 2) rfl (args0)))) ?_
  refine .regSeq ?_
  refine .o (.box hs rfl rfl ?_); intro b3 w hs
  refine .o (.box hs rfl rfl ?_); intro b5 w hs
  refine .z zg (.nil (.regSeq (.y hs (zls [_, _, _, _] Tryz.isAgg27 Tryz.sizeOf27) (.z zm ?_))))
  refine .o (.call Tryz.call31 rfl (ref09_Fewest_spec (a := a) hs ⟨_, _, rfl, hl, hw⟩ hp) ?_); rintro _ w ⟨H1, i, n, e, hle1, rfl, hFR, hs⟩
  obtain ⟨rfl, rfl, rfl⟩ : e = 0 ∧ i = (k : Int) ∧ n = p.width := by
    rcases hFR with ⟨q1, q2, _⟩ | ⟨_, _, _, _, q1⟩ | ⟨_, q1, k', c, q2, q3, q4, q5, q6⟩
    · exact (q2 (q1.uniq hC)).elim
    · have := q1 _ (List.mem_of_getElem? h1) _ h2.1; omega
    · rcases Nat.lt_trichotomy k k' with e | e | e
      · have := q6 k _ e h1 _ h2.1; omega
      · subst e
        rw [h1] at q3
        obtain rfl := Option.some.inj q3
        exact ⟨q1, q2, q4.uniq h2.1⟩
      · have := (h6 k' c e q3).1 _ q4; omega
  refine .z zm (.z zex (.z zex (.z zex (.z zg (.z zg (.z zg (.nil (.seq (.regSeq ?_)))))))))
  refine .z zm (.z zneq (.z zm ?_))
  refine .bifN (t' := 20) rfl (fun hb20 => ?_) (fun hb20 => ?_)
  · refine .gFs 5 2 false rfl rfl rfl ?_
    refine .z zpT (.z zm ?_)
    refine .gFs 4 9 false rfl rfl rfl ?_
    refine .z zpT (.z zm ?_)
    refine .gFs 5 15 false rfl rfl rfl ?_
    refine .z zpT (.nil ?_)
    refine (.condT rfl rfl ?_)
    refine .regSeq (.z zg (.nil ?_))
    refine .ret (rT (Fin.ret1 Tryz.results34 rfl ?_))
    first
      | (have hx := hR47
         have he : gr (choicesL l.length) k = p.probes := by
          have := gr_get hkL
          rw [h1] at this
          exact (Option.some.inj this).symm
         exact ⟨H3, hle13, by rw [he]; simp, hs.out⟩)
      | (exfalso; first | omega | (simp_all; done))
  · refine .gT rfl rfl ?_
    refine .y hs (zls [_, _, _, _] Tryz.isAgg27 Tryz.sizeOf27) ?_
    refine .gT rfl rfl ?_
    refine .z zm ?_
    refine .gT rfl rfl ?_
    refine .y hs (zls [_, _, _, _, _] Tryz.isAgg66 Tryz.sizeOf66) ?_
    refine .gT rfl rfl ?_
    refine .o (.call Tryz.call33 rfl (ref09_CheckPick_spec (a := a) (l := l) (p := p) hs ⟨_, _, rfl, hl.mono hle1, hw.mono hle1⟩ (hp.mono hle1) ⟨_, _, _, css, rfl, hkp.mono hle1, RU.mono hku hle1, RS.mono hkf hle1, hkl, fun j c t g1 g2 => (hkt j c t g1 g2).mono hle1⟩) ?_); rintro _ w ⟨H2, e2, hle2, rfl, hPR, hs⟩
    obtain rfl : e2 = 0 := hPR.uniq (.inr ⟨hC, .inl ⟨rfl, k, hG⟩⟩)
    have hle12 := hle1.trans hle2
    refine .gT rfl rfl ?_
    refine .z zneq (.z zpF (.z zm ?_))
    refine .bifN (t' := 27) rfl (fun hb27 => ?_) (fun hb27 => ?_)
    · refine .gFs 4 9 false rfl rfl rfl ?_
      refine .z zpT (.z zm ?_)
      refine .gFs 5 15 false rfl rfl rfl ?_
      refine .z zpT (.nil ?_)
      refine (.condT rfl rfl ?_)
      refine .regSeq (.z zg (.nil ?_))
      refine .ret (rT (Fin.ret1 Tryz.results34 rfl ?_))
      first
        | (have hx := hR47
           have he : gr (choicesL l.length) k = p.probes := by
            have := gr_get hkL
            rw [h1] at this
            exact (Option.some.inj this).symm
           exact ⟨H3, hle13, by rw [he]; simp, hs.out⟩)
        | (exfalso; first | omega | (simp_all; done))
    · refine .gT rfl rfl ?_
      refine .z (zfa fa_api_Pick_1) ?_
      refine .gT rfl rfl ?_
      refine .y hs (zld Tryz.isAgg3) ?_
      refine .gT rfl rfl ?_
      refine .z zm ?_
      refine .gT rfl rfl ?_
      refine .z zneq (.z zpF (.z zm ?_))
      refine .bifN (t' := 33) rfl (fun hb33 => ?_) (fun hb33 => ?_)
      · refine .gFs 5 15 false rfl rfl rfl ?_
        refine .z zpT (.nil ?_)
        refine (.condT rfl rfl ?_)
        refine .regSeq (.z zg (.nil ?_))
        refine .ret (rT (Fin.ret1 Tryz.results34 rfl ?_))
        first
          | (have hx := hR47
             have he : gr (choicesL l.length) k = p.probes := by
              have := gr_get hkL
              rw [h1] at this
              exact (Option.some.inj this).symm
             exact ⟨H3, hle13, by rw [he]; simp, hs.out⟩)
          | (exfalso; first | omega | (simp_all; done))
      · refine .gT rfl rfl ?_
        refine .z (zfa fa_api_Pick_2) ?_
        refine .gT rfl rfl ?_
        refine .z (zfa fa_api_Proof_0) ?_
        refine .gT rfl rfl ?_
        refine .y hs (zld Tryz.isAgg3) ?_
        refine .gT rfl rfl ?_
        refine .z zm ?_
        refine .gT rfl rfl ?_
        refine .z zneq (.z zpF (.nil ?_))
        refine (.condN rfl (fun hc39 => ?_) (fun hc39 => ?_))
        · refine .regSeq (.z zg (.nil ?_))
          refine .ret (rT (Fin.ret1 Tryz.results34 rfl ?_))
          first
            | (have hx := hR47
               have he : gr (choicesL l.length) k = p.probes := by
                have := gr_get hkL
                rw [h1] at this
                exact (Option.some.inj this).symm
               exact ⟨H3, hle13, by rw [he]; simp, hs.out⟩)
            | (exfalso; first | omega | (simp_all; done))
        · refine .skip ?_
          refine nT ?_
          refine .regSeq (.z zm (.z (zlen Tryz.runUnderlying28) ?_))
          refine .o (.call Tryz.call56 rfl (ref09_choices_spec (n := l.length) hs (by omega)) ?_); rintro v42 w ⟨H3, hle3, hRT, hs⟩
          obtain ⟨aT, cT, rfl⟩ := hRT.shape
          have hle13 := hle12.trans hle3
          have hkL := (List.getElem?_eq_some_iff.1 h1).1
          refine .z zg (.nil ?_)
          refine .seq (.draw mix rfl hs ?_); intro w hs
          refine .z 0 rfl (zfa fa_api_Pick_0) ?_; refine .y 1 rfl hs Tryz.isAgg25 ?_; refine .z 2 rfl zm ?_; refine .z 3 rfl zm ?_
          refine .ixT (i := 4) hs rfl (by kernel_rfl) .none hRT rfl rfl Tryz.runUnderlying29 Tryz.sizeOf25 hkL rfl ?_; intro b47 o47 a47 c47 hc47 hR47
          refine .r (i := 5) hs rfl (by kernel_rfl) .none (q_loadR rfl Tryz.isAgg25 hc47) ?_
          refine .e1 (i := 6) (by kernel_rfl) rfl rfl .none hs ?_
          refine .call Tryz.call62 rfl (ref09_same_spec hs (hkp.mono hle13) hR47) ?_; rintro _ w ⟨rfl, hs⟩
          refine .go ?_
          refine .z 7 rfl zg ?_; refine .done (by kernel_rfl) hs ?_
          refine .ret (Fin.ret1 Tryz.results34 rfl ?_)
          first
            | (have hx := hR47
               have he : gr (choicesL l.length) k = p.probes := by
                have := gr_get hkL
                rw [h1] at this
                exact (Option.some.inj this).symm
               exact ⟨H3, hle13, by rw [he]; simp, hs.out⟩)
            | (exfalso; first | omega | (simp_all; done))
end Go.Proofs.YtiiokdeehlfeeaaGreat

namespace Go.Proofs.YtiiokdeehlfeeaaGreat
open Go.MW Go.ChangeShapes Go.WideShapes
set_option maxRecDepth 100000
theorem c_twins : Tryz.prog.cellsOf 64 = 1 := by kernel_rfl
theorem c_Pick : Tryz.prog.cellsOf 66 = 5 := by kernel_rfl
section
variable {H : Type} {enc : TypeId × Value → H} {w : World} {sp : Nat → Bool} {held : Bool} {n : Nat} {cs : List Value} {y : DataW H × List MemPlace} {v : Value} {d : DataW H} {p : List MemPlace} {r : Reach} {base : Nat}
theorem o_Twins (hw : Wt Tryz.prog 39 y.1) (h : DataW.trod enc Tryz.prog w 0 sp held n 39 cs = some y) : ∃ t, TwC (hp w) cs t := by
  obtain ⟨ys, m, _, rfl, hlen, hyl, hg⟩ := DataW.trod_struct Tryz.underlying39 h
  rw [c_Twins] at hlen
  obtain ⟨c0, c1, rfl⟩ := len2 hlen
  obtain ⟨_, h0, k0⟩ := fld hg hyl 0 rfl rfl rfl c_ints Tryz.underlying39 hw
  obtain ⟨_, h1, k1⟩ := fld hg hyl 1 rfl rfl rfl c_ints Tryz.underlying39 hw
  obtain ⟨u0, x0, e0, r0, i0⟩ := o_ints k0 h0
  obtain ⟨u1, x1, e1, r1, i1⟩ := o_ints k1 h1
  cases e0; cases e1
  exact ⟨(x0, x1), _, _, rfl, r0, r1⟩
theorem all_twins {Hp : Heap} : ∀ {css : List (List Value)}, (∀ c ∈ css, ∃ t, TwC Hp c t) → ∃ ts : List (List Int × List Int), css.length = ts.length ∧ ∀ (j : Nat) (c : List Value) (t : List Int × List Int), css[j]? = some c → ts[j]? = some t → TwC Hp c t := by
  intro css
  induction css with
  | nil => intro _; exact ⟨[], rfl, fun _ _ _ h => by simp at h⟩
  | cons c css ih =>
    intro h
    obtain ⟨t, ht⟩ := h c (by simp)
    obtain ⟨ts, h1, h2⟩ := ih (fun c hc => h c (List.mem_cons_of_mem _ hc))
    refine ⟨t :: ts, by simp [h1], fun j c' t' g1 g2 => ?_⟩
    cases j with
    | zero => simp only [List.getElem?_cons_zero, Option.some.injEq] at g1 g2; subst g1; subst g2; exact ht
    | succ j => rw [List.getElem?_cons_succ] at g1 g2; exact h2 j c' t' g1 g2
theorem o_fails (hw : Wt Tryz.prog 64 y.1) (h : DataW.trod enc Tryz.prog w 0 sp held n 64 cs = some y) :
    ∃ (v : Value) (css : List (List Value)) (ts : List (List Int × List Int)), cs = [v] ∧ RS (hp w) 2 v css ∧ css.length = ts.length ∧ ∀ (j : Nat) (c : List Value) (t : List Int × List Int), css[j]? = some c → ts[j]? = some t → TwC (hp w) c t := by
  obtain ⟨v, css, h1, h2, _, h3⟩ := trod_sl Tryz.underlying64 c_Twins (by decide) hw h
  obtain ⟨ts, h4, h5⟩ := all_twins (Hp := hp w) (css := css) (fun c hc => by
    obtain ⟨n, y, hy, hy2⟩ := h3 c hc
    exact o_Twins hy2 hy)
  exact ⟨v, css, ts, h1, h2, h4, h5⟩
theorem open_Pick (hv : Value.okWide Tryz.prog w r base 66 v) (h : DataW.Trod enc Tryz.prog w 0 sp held 66 v d p) (hw : Wt Tryz.prog 66 d) : ∃ s, RPick (hp w) v s ∧ I64 s.width := by
  obtain ⟨cs, n, rfl, hn, _⟩ := arg_struct Tryz.underlying66 hv h
  obtain ⟨ys, m, _, e, hlen, hyl, hg⟩ := DataW.trod_struct Tryz.underlying66 hn
  cases e
  rw [c_Pick] at hlen
  obtain ⟨c0, c1, c2, c3, c4, rfl⟩ := len5 hlen
  obtain ⟨_, h0, k0⟩ := fld hg hyl 0 rfl rfl rfl c_ints Tryz.underlying66 hw
  obtain ⟨_, h1, k1⟩ := fld hg hyl 1 rfl rfl rfl c_int Tryz.underlying66 hw
  obtain ⟨_, h2, k2⟩ := fld hg hyl 2 rfl rfl rfl c_Proof Tryz.underlying66 hw
  obtain ⟨_, h3, k3⟩ := fld hg hyl 3 rfl rfl rfl c_twins Tryz.underlying66 hw
  obtain ⟨u0, x0, e0, r0, i0⟩ := o_ints k0 h0
  obtain ⟨m, e1, i1⟩ := trod_i Tryz.underlying3 h1
  obtain ⟨b, us, u, e2, r2, i2, i3⟩ := o_Proof k2 h2
  obtain ⟨vf, css, ts, e3, r3, l3, t3⟩ := o_fails k3 h3
  cases e0; cases e1; cases e2; cases e3
  exact ⟨⟨x0, m, b, us, ts⟩, ⟨_, _, _, css, rfl, r0, r2, r3, l3, t3⟩, i1⟩
end
end Go.Proofs.YtiiokdeehlfeeaaGreat
