/-
  Texts of these claims, joined: Zq Zr Zs Zt Zu.
-/
import Derived.Test.YtddaejgfjlneoaaGreatBe
namespace Go.Proofs.YtddaejgfjlneoaaGreat
open Go.MW
set_option maxHeartbeats 4000000 in
theorem offsets_Told_spec {H : Heap} {w : World} {σ : List Ent} {s : Srv} {r : Rdg} {vst vwa vr vc : Value} {z : Int} (hs : St H w σ) (h1 : RI H vst s.sp.st) (h2 : RI H vwa s.sp.wa) (h3 : RRd H vr s.rs) (h4 : RCm H vc s.cs) (hr0 : r.val = 0) :
    Cl Tryz.prog 46 [.agg #[I s.sp.id, I s.sp.src, vst, vwa, I s.sp.al, I s.sp.up, vr, vc], .agg #[I r.src, I r.st, I r.wa, I z, I r.tol, I r.tape, I r.day]] w fun u w' => ∃ H1 lo hi e, HLe H H1 ∧ u = .tuple #[.agg #[I lo, I hi], I e] ∧ ToldR s r lo hi e ∧ St H1 w' σ := by
  obtain ⟨ast, cst, rfl⟩ := RI.shape h1
  obtain ⟨awa, cwa, rfl⟩ := RI.shape h2
  obtain ⟨ar, cr, rfl⟩ := RRd.shape h3
  obtain ⟨ac, cc, rfl⟩ := RCm.shape h4
  refine Cl.of Tryz.func46 rfl Tryz.ntmps46 (by simp) (args_cons (k := 0) rfl (args_cons (k := 1) rfl (args0))) ?_
  refine .regSeq ?_
  refine .o (.box hs rfl rfl ?_); intro b2 w hs
  refine .o (.box hs rfl rfl ?_); intro b3 w hs
  refine .o (.alloc hs Tryz.zeroValue44 rfl ?_); intro b4 w hs
  refine .z zg (.nil (.seq (.regSeq (.y hs (zls [_, _, _, _, _, _, _, _] Tryz.isAgg38 Tryz.sizeOf38) ?_))))
  refine .o (.call Tryz.call42 rfl (offsets_Check_spec (s := s) hs h1 h2 h3 h4) ?_); rintro _ w ⟨H1, e, hle1, rfl, hC, hs⟩
  refine .z zg (.nil (.regSeq (.z zm (.z zneq (.nil ?_)))))
  refine (.condN rfl (fun hc19 => ?_) (fun hc19 => ?_))
  · refine .regSeq (.z (zbd [_, _] bld_api_Range) (.z zm ?_))
    refine .o (.stores (vs := [_, _]) hs rfl rfl Tryz.sizeOf44 ?_); intro w hs
    refine .z zg (.nil ?_)
    refine .ret (rT (?_))
    exact Fin.retD [] [] hs fun w hs => ⟨_, results2 Tryz.results46 (rcells (vs := [_, _]) hs rfl Tryz.isAgg44 Tryz.sizeOf44) rfl, H1, _, _, _, hle1, rfl, .bad hC hc19, hs.out⟩
  · refine .skip ?_
    refine nT ?_
    refine .regSeq (.z (zfa fa_api_Reading_3) ?_)
    refine .o (.store hs rfl rfl Tryz.sizeOf3 ?_); intro w hs
    refine .nil (.seq (.regSeq (.z (zfa fa_api_Survey_0) (.y hs (zls [_, _, _, _, _, _] Tryz.isAgg34 Tryz.sizeOf34) (.y hs (zls [_, _, _, _, _, _, _] Tryz.isAgg80 Tryz.sizeOf80) ?_)))))
    have hok : SrvOk s := hC.ok_iff.1 (by simpa using hc19)
    have hsm := spc_small hok.early.1
    have hrl := hok.early.2.1
    have hcl := hok.early.2.2.1
    have hmm := hok.many
    have hll := hok.lims
    have hn := srv_n s
    have htl : s.tapes.length ≤ 60 := by have := tapesOf_length s.rs; unfold Srv.tapes; omega
    change St _ _ (.blk b4 _ :: .blk b3 [I r.src, I r.st, I r.wa, I 0, I r.tol, I r.tape, I r.day] :: _) at hs
    refine .o (.call Tryz.call107 rfl (offsets_isReading_spec (s := s.sp) (r := ⟨r.src, r.st, r.wa, 0, r.tol, r.tape, r.day⟩) hs (h1.mono hle1) (h2.mono hle1)) ?_); rintro _ w ⟨b26, rfl, hb26, hs⟩
    rw [show (⟨r.src, r.st, r.wa, 0, r.tol, r.tape, r.day⟩ : Rdg) = r by rw [← hr0]] at hb26
    refine .z znot (.nil ?_)
    refine (.cond rfl (fun hc27 => ?_) (fun hc27 => ?_))
    · refine .regSeq (.z (zbd [_, _] bld_api_Range) ?_)
      refine .o (.stores (vs := [_, _]) hs rfl rfl Tryz.sizeOf44 ?_); intro w hs
      refine .z zg (.nil ?_)
      refine .ret (rT (?_))
      exact Fin.retD [] [] hs fun w hs => ⟨_, results2 Tryz.results46 (rcells (vs := [_, _]) hs rfl Tryz.isAgg44 Tryz.sizeOf44) rfl, H1, _, _, _, hle1, rfl, .rdg hok (fun h => by rw [hb26.2 h] at hc27; cases hc27), hs.out⟩
    · refine .skip ?_
      refine nT ?_
      refine .regSeq (.y hs (zls [_, _, _, _, _, _, _, _] Tryz.isAgg38 Tryz.sizeOf38) ?_)
      have hr : RdgOk s.sp r := hb26.1 (by simpa using hc27)
      obtain ⟨g1, g2, g3, g4, g5, g6, g7⟩ := id hr
      refine .o (.call Tryz.call92 rfl (offsets_system_own (s := s) hs (h1.mono hle1) (h2.mono hle1) (h3.mono hle1) (h4.mono hle1) hok.early) ?_); rintro _ w ⟨H2, vl, enL, hle2, rfl, hOL, hs⟩
      have hle02 := hle1.trans hle2
      obtain ⟨al, ll, cl, rfl, hlL⟩ := hOL.shape
      rw [Lims_length] at hlL
      refine .o (.alloc hs Tryz.zeroValue70 rfl ?_); intro b7 w hs
      refine .o (.stores (vs := [_, _]) hs rfl rfl Tryz.sizeOf70 ?_); intro w hs
      refine .nil (.regSeq (.y hs (zls [_, _, _, _, _, _, _, _] Tryz.isAgg38 Tryz.sizeOf38) ?_))
      refine .o (.call Tryz.call90 rfl (offsets_tapes_own (s := s) hs (h3.mono hle02) (by omega)) ?_); rintro v32 w ⟨H3, enT, hle3, hOT, hs⟩
      have hle03 := hle02.trans hle3
      obtain ⟨at_, ct, rfl⟩ := hOT.shapeX (tdc_2 _) (by omega)
      rw [tdc_length] at hOT ⊢
      refine .z zg (.nil (.regSeq (.z zm (.y hs (zls [_, _, _, _, _, _, _] Tryz.isAgg80 Tryz.sizeOf80) ?_))))
      refine .o (.call Tryz.call114 rfl (offsets_tapeOf_spec (r := ⟨r.src, r.st, r.wa, 0, r.tol, r.tape, r.day⟩) hs) ?_); rintro _ w ⟨rfl, hs⟩
      refine .o (.call Tryz.call89 rfl (slices_Index_tdown (t := r.td) hs hOT (by omega)) ?_); rintro _ w ⟨rfl, hs⟩
      have hnn := tdIdx_nonneg (l := s.tapes) (t := r.td)
      have hcap2 : s.sys.many = ((s.sp.many + s.tapes.length : Nat) : Int) := rfl
      refine .z zg (.nil ?_)
      refine .cut (fun fs w => ∃ H4 al ll cl enL, FSub fs ⟨134, [], [(9, I (s.tJ r.td : Int)), (7, .pointer (some ⟨b7, 0, none⟩)), (4, .pointer (some ⟨b4, 0, none⟩)), (3, .pointer (some ⟨b3, 0, none⟩)), (2, .pointer (some ⟨b2, 0, none⟩))]⟩ ∧ HLe H3 H4 ∧ OwnS 4 (.slice al ll cl) (Lims (s.tSys r.td).lims) enL ∧ St H4 w (.blk b7 [I (s.tSys r.td).many, .slice al ll cl] :: enL :: .blk b4 [I 0, I 0] :: .blk b3 [I r.src, I r.st, I r.wa, I 0, I r.tol, I r.tape, I r.day] :: .blk b2 [I s.sp.id, I s.sp.src, .slice ast s.sp.st.length cst, .slice awa s.sp.wa.length cwa, I s.sp.al, I s.sp.up, .slice ar s.rs.length cr, .slice ac s.cs.length cc] :: σ)) ?_ ?_
      · refine .regSeq (.z zm (.z zlss (.nil ?_)))
        refine (.condD rfl (fun hc38 => ?_) (fun hc38 => ?_))
        · refine .regSeq (.z zm (.z (zlen Tryz.runUnderlying51) (.z zg (.nil ?_))))
          refine .seq (.draw mix rfl hs ?_); intro w hs
          refine .ys 0 rfl hs [_, _, _, _, _, _, _, _] Tryz.isAgg38 Tryz.sizeOf38 ?_; refine .z 1 rfl zm ?_; refine .ys 2 rfl hs [_, _, _, _, _, _, _] Tryz.isAgg80 Tryz.sizeOf80 ?_
          refine .e1 (i := 3) (by kernel_rfl) rfl rfl .none hs ?_
          refine .call Tryz.call114 rfl (offsets_tapeOf_spec (r := ⟨r.src, r.st, r.wa, 0, r.tol, r.tape, r.day⟩) hs) ?_; rintro _ w ⟨rfl, hs⟩
          refine .go ?_
          refine .e1 (i := 4) (by kernel_rfl) rfl rfl .none hs ?_
          refine .buildSlice (cells := [_, _]) hs bls_sl_api_TapeDay_1 rfl rfl ?_; intro b45 w hs
          refine .go ?_
          refine .e1 (i := 5) (by kernel_rfl) rfl rfl .none hs ?_
          refine .append (ys := r.td.c) hs app_sl_api_TapeDay_api_TapeDay rfl rfl hOT (.own .here rfl rfl) (by simp [TD.c, Value.oneCell']) (fun l h => by rw [flat_length _ (tdc_2 _), tdc_length] at h; omega) ?_; intro v46 en46 w hO46 hs
          rw [← tdc_snoc] at hO46
          obtain ⟨H4, hle4, hT4, hs⟩ := OwnS.publish (m := 2) (cs := tdc (s.tapes ++ [r.td])) hO46 (tdc_2 _) (by omega) (by rw [tdc_length]; simp; omega) hs (by repeat constructor)
          replace hT4 : RTd H4 v46 (s.tapes ++ [r.td]) := hT4
          obtain ⟨a46, c46, rfl⟩ := RTd.shape hT4
          have hle04 := hle03.trans hle4
          have hk4 : MkK H4 s (s.tapes ++ [r.td]) (.slice ast s.sp.st.length cst) (.slice awa s.sp.wa.length cwa) (.slice ar s.rs.length cr) (.slice ac s.cs.length cc) (.slice a46 (s.tapes ++ [r.td]).length c46) := ⟨h1.mono hle04, h2.mono hle04, h3.mono hle04, h4.mono hle04, hT4⟩
          refine .go ?_
          refine .z 6 rfl (zbd (vs := [(0, .agg #[I s.sp.id, I s.sp.src, .slice ast s.sp.st.length cst, .slice awa s.sp.wa.length cwa, I s.sp.al, I s.sp.up, .slice ar s.rs.length cr, .slice ac s.cs.length cc]), (1, .slice a46 (s.tapes ++ [r.td]).length c46)]) [I s.sp.id, I s.sp.src, .slice ast s.sp.st.length cst, .slice awa s.sp.wa.length cwa, I s.sp.al, I s.sp.up, .slice ar s.rs.length cr, .slice ac s.cs.length cc, .slice a46 (s.tapes ++ [r.td]).length c46, .slice none 0 0] bld_offsets_maker rfl (by kernel_rfl)) ?_
          refine .e1 (i := 7) (by kernel_rfl) rfl rfl .none hs ?_
          refine .box hs rfl rfl ?_; intro b48 w hs
          refine .go ?_
          refine .z 8 rfl zg ?_; refine .done (by kernel_rfl) hs ?_
          refine .seq (.draw mix rfl hs ?_); intro w hs
          refine .z 0 rfl zm ?_; refine .z 1 rfl zm ?_; refine .z 2 rfl zm ?_; refine .z 4 rfl (zfa fa_api_Survey_0) ?_; refine .z 5 rfl (zfa fa_api_Space_1) ?_; refine .y 6 rfl hs Tryz.isAgg3 ?_
          refine .e1 (i := 3) (by kernel_rfl) rfl rfl .none hs ?_
          refine .call Tryz.call116 rfl (maker_tape_spec (s := s.sp) hs .here hk4.st hk4.wa ⟨by omega, by omega⟩ ⟨by omega, by omega⟩) ?_; rintro _ w ⟨rfl, hs⟩
          refine .go ?_
          refine .e1 (i := 7) (by kernel_rfl) rfl rfl .none hs ?_
          refine .call Tryz.call115 rfl (maker_put_spec (ls := []) (hs.nul.sub (by repeat (first | exact Sub.refl _ | constructor | apply Sub.weaken)) : St H4 w (.blk b48 _ :: .nul :: .blk b7 [I s.sys.many, .slice al ll cl] :: enL :: .blk b4 [I 0, I 0] :: .blk b3 [I r.src, I r.st, I r.wa, I 0, I r.tol, I r.tape, I r.day] :: .blk b2 [I s.sp.id, I s.sp.src, .slice ast s.sp.st.length cst, .slice awa s.sp.wa.length cwa, I s.sp.al, I s.sp.up, .slice ar s.rs.length cr, .slice ac s.cs.length cc] :: σ)) (.nil 4 none) (by simp)) ?_; rintro _ w ⟨vl5, en5, hO5, hs⟩
          rw [List.nil_append] at hO5
          refine .go ?_
          refine .done (by kernel_rfl) hs ?_
          refine .regSeq (.z zm (.z zm ?_))
          refine .o (.call Tryz.call117 rfl (maker_compares_spec (s := s) (ts := s.tapes ++ [r.td]) (j0 := s.tapes.length) hs hk4 hO5 (by simp [two]) hok.early.1 (by simp; omega) hcl hok.early.2.2.2.2 (by simp)) ?_); rintro _ w ⟨H5, vl6, en6, hle5, hO6, hs⟩
          obtain ⟨a6, l6, c6, rfl, hl6⟩ := hO6.shape
          have hnot : r.td ∉ s.tapes := fun h => by have := hnn.2 h; omega
          have hsys : s.tSys r.td = ⟨s.sys.many + 1, s.lims ++ (two 0 ((s.sp.many : Int) + 1 + (s.tapes.length : Int)) 1000 1000 s.sp.src ++ cmpL s.sp (s.tapes ++ [r.td]) s.cs s.tapes.length s.cs.length)⟩ := if_neg hnot
          have hlen6 := tSys_len hok r.td
          rw [hsys, List.length_append] at hlen6
          rw [Lims_length] at hl6
          refine .nil ?_
          refine .draw mix rfl hs ?_; intro w hs
          refine .z 0 rfl (zfa fa_api_System_0) ?_; refine .y 1 rfl hs Tryz.isAgg3 ?_; refine .z 2 rfl zadd ?_; refine .z 3 rfl (zfa fa_api_System_1) ?_; refine .y 4 rfl hs Tryz.isAgg68 ?_; refine .z 5 rfl zm ?_; refine .z 6 rfl znc ?_; refine .z 7 rfl (zfa fa_offsets_maker_2) ?_; refine .y 8 rfl hs Tryz.isAgg68 ?_; refine .z 10 rfl (zfa fa_api_System_0) ?_
          refine .e1 (i := 9) (by kernel_rfl) rfl rfl .none hs ?_
          refine .append (ys := Lims (two 0 ((s.sp.many : Int) + 1 + (s.tapes.length : Int)) 1000 1000 s.sp.src ++ cmpL s.sp (s.tapes ++ [r.td]) s.cs s.tapes.length s.cs.length)) hs app_sl_api_Limit_api_Limit rfl rfl hOL (Src.ofOwn hO6 (.there .here)) (Lims_cell _) (fun l h => by rw [Lims_length] at h; omega) ?_; intro v69 en69 w hO69 hs
          rw [← Lims_append] at hO69
          obtain ⟨a69, l69, c69, rfl, h69⟩ := hO69.shape
          refine .go ?_
          refine .e1 (i := 11) (by kernel_rfl) rfl rfl .none hs ?_
          refine .store hs rfl rfl Tryz.sizeOf3 ?_; intro w hs
          refine .go ?_
          refine .z 12 rfl (zfa fa_api_System_1) ?_
          refine .e1 (i := 13) (by kernel_rfl) rfl rfl .none hs ?_
          refine .store hs rfl rfl Tryz.sizeOf68 ?_; intro w hs
          refine .go ?_
          refine .done (by kernel_rfl) hs ?_
          refine nT ?_
          refine ⟨H5, a69, l69, c69, en69, ?_, hle4.trans hle5, by rw [hsys]; exact hO69, by rw [hsys]; exact hs.sub (by repeat (first | exact Sub.refl _ | constructor | apply Sub.weaken))⟩
          refine .consI rfl ?_ (by repeat (first | exact .nil rfl rfl | refine .cons rfl ?_))
          unfold Srv.tJ; rw [if_neg hnot]
        · refine .skip ?_
          refine nT ?_
          have hmem : r.td ∈ s.tapes := hnn.1 (by omega)
          have hsys : s.tSys r.td = s.sys := if_pos hmem
          obtain ⟨k, k1, _, _⟩ := tdIdx_mem hmem
          refine ⟨H3, al, ll, cl, enL, ?_, HLe.refl _, by rw [hsys]; exact hOL, by rw [hsys]; exact hs.sub (by repeat (first | exact Sub.refl _ | constructor | apply Sub.weaken))⟩
          refine .consI rfl ?_ (by repeat (first | exact .nil rfl rfl | refine .cons rfl ?_))
          unfold Srv.tJ; rw [if_pos hmem, k1]; rfl
      · clear hOL hOT hlL hnn
        rintro fs w ⟨H4, al, ll, cl, enL, hfs, hle4, hOL, hs⟩
        refine WE.sub ?_ hfs
        have hle04 := hle03.trans hle4
        obtain ⟨_, _, _, e0, hlL⟩ := hOL.shape
        cases e0
        rw [Lims_length] at hlL
        have htn := tSys_n s r.td
        have hjlt := tJ_lt s r.td
        have hmany : (s.tSys r.td).many + 1 = ((s.tSys r.td).n : Int) := by
          unfold Srv.tSys
          split
          · simp only [Syst.n, Srv.sys]; omega
          · simp only [Syst.n, Srv.sys]; omega
        have hn70 : (s.tSys r.td).n ≤ 200 := by rw [htn]; split <;> omega
        have hll6 : ll = (s.tSys r.td).lims.length := by omega
        refine .seq (.regSeq (.z (zfa fa_api_System_0) (.y hs (zld Tryz.isAgg3) (.z zgtr (.z zm ?_)))))
        refine .bifD (t' := 75) rfl (fun hb75 => ?_) (fun hb75 => ?_)
        · refine .gFs 4 3 false rfl rfl rfl ?_
          refine .z zpT (.nil ?_)
          refine (.condT rfl rfl ?_)
          refine .regSeq (.z (zbd [_, _] bld_api_Range) ?_)
          refine .o (.stores (vs := [_, _]) hs rfl rfl Tryz.sizeOf44 ?_); intro w hs
          refine .z zg (.nil ?_)
          refine .ret (rT (?_))
          exact Fin.retD [] [] hs fun w hs => ⟨_, results2 Tryz.results46 (rcells (vs := [_, _]) hs rfl Tryz.isAgg44 Tryz.sizeOf44) rfl, H4, _, _, _, hle04, rfl, .long hok hr (by omega), hs.out⟩
        · refine .gT rfl rfl ?_
          refine .z (zfa fa_api_System_1) ?_
          refine .gT rfl rfl ?_
          refine .y hs (zld Tryz.isAgg68) ?_
          refine .gT rfl rfl ?_
          refine .z (zlen Tryz.runUnderlying68) ?_
          refine .gT rfl rfl ?_
          refine .z zgtr (.z zpF (.nil ?_))
          refine (.condD rfl (fun hc80 => ?_) (fun hc80 => ?_))
          · refine .regSeq (.z (zbd [_, _] bld_api_Range) ?_)
            refine .o (.stores (vs := [_, _]) hs rfl rfl Tryz.sizeOf44 ?_); intro w hs
            refine .z zg (.nil ?_)
            refine .ret (rT (?_))
            exact Fin.retD [] [] hs fun w hs => ⟨_, results2 Tryz.results46 (rcells (vs := [_, _]) hs rfl Tryz.isAgg44 Tryz.sizeOf44) rfl, H4, _, _, _, hle04, rfl, .long hok hr (by omega), hs.out⟩
          · refine .skip ?_
            refine nT ?_
            refine .regSeq (.z (zfa fa_api_System_0) (.y hs (zld Tryz.isAgg3) (.z zadd ?_)))
            have hfit : (s.tSys r.td).many ≤ 64 ∧ (s.tSys r.td).lims.length ≤ 400 := by omega
            refine .o (.makeI (s.tSys r.td).n hs (by show some (I _) = some (I _); rw [← hmany]) (by show some (I _) = some (I _); rw [← hmany]) Tryz.runUnderlying22 Tryz.typeInfo3 rfl Tryz.sizeOf3 Tryz.zeroValue3 (by omega) ?_); intro b85 w hs
            obtain ⟨u1, u2, u3⟩ := rdg_u hr
            have hub := u_bd u1 u2
            refine .z zg (.nil (.regSeq (.z zm (.z (zfa fa_api_Survey_0) (.y hs (zls [_, _, _, _, _, _] Tryz.isAgg34 Tryz.sizeOf34) (.z (zfa fa_api_Reading_1) (.y hs (zld Tryz.isAgg3) (.z (zfa fa_api_Reading_2) (.y hs (zld Tryz.isAgg3) ?_)))))))))
            refine .o (.call Tryz.call118 rfl (offsets_unknown_spec (s := s.sp) hs (h2.mono hle04) (by omega) ⟨by omega, by omega⟩ ⟨by omega, by omega⟩) ?_); rintro _ w ⟨rfl, hs⟩
            rw [u3]
            refine .q hs (q_ixO (k := s.sp.u r.st.toNat r.wa.toNat) rfl rfl Tryz.runUnderlying22 Tryz.sizeOf3 rfl (by omega)) ?_
            refine .o (.store (c' := Is (unitL (s.tSys r.td).n (s.sp.u r.st.toNat r.wa.toNat) 1)) hs rfl rfl Tryz.sizeOf3 ?_ (by repeat constructor) (by simp [Is]; omega) (Is_set _ _ _)); intro w hs
            refine .nil (.regSeq (.z zm (.z (zfa fa_api_Survey_0) (.y hs (zls [_, _, _, _, _, _] Tryz.isAgg34 Tryz.sizeOf34) ?_))))
            refine .o (.call Tryz.call91 rfl (offsets_many_spec (s := s.sp) hs (h1.mono hle04) (h2.mono hle04) ⟨by omega, by omega⟩) ?_); rintro _ w ⟨rfl, hs⟩
            refine .z zadd (.z zm (.z zadd ?_))
            refine .q hs (q_ixO (k := s.sp.many + 1 + s.tJ r.td) rfl rfl Tryz.runUnderlying22 Tryz.sizeOf3 (by omega) (by omega)) ?_
            refine .o (.store (c' := Is (s.tW r)) hs rfl rfl Tryz.sizeOf3 ?_ (by repeat constructor) (by simp [Is, unitL_length]; omega) (Is_set _ _ _)); intro w hs
            refine .nil (.regSeq (.y hs (zls [_, _] Tryz.isAgg70 Tryz.sizeOf70) (.z zm ?_)))
            have hwl : (s.tW r).length = (s.tSys r.td).n := by simp [Srv.tW, unitL_length]
            obtain ⟨H5, hle5, hW, hs⟩ := OwnS.publishI (xs := s.tW r) (v := .slice (some ⟨b85, 0, none⟩) (s.tSys r.td).n (s.tSys r.td).n) (.full (by simp [Is, hwl])) (by omega) hs (by repeat constructor)
            obtain ⟨H6, hle6, hL6, hs⟩ := OwnS.publish (m := 4) (cs := (s.tSys r.td).lims.map Lim.c) hOL (fun c hc => by simp only [List.mem_map] at hc; obtain ⟨x, _, rfl⟩ := hc; rfl) (by omega) (by rw [List.length_map]; omega) hs (by repeat constructor)
            refine .o (.call Tryz.call74 rfl (bound_Range_spec (s := s.tSys r.td) hs ⟨_, rfl, hL6⟩ (hW.mono hle6)) ?_); rintro _ w ⟨H7, a, b, f, hle7, rfl, hRg, hs⟩
            have hbd := hRg.bd
            have hleF := hle04.trans (hle5.trans (hle6.trans hle7))
            refine .z zm (.z zex (.z zex (.z zex (.z zg (.z zg (.z zg (.nil (.seq (.regSeq ?_)))))))))
            refine .z zm (.z zneq (.nil ?_))
            refine (.condN rfl (fun hc111 => ?_) (fun hc111 => ?_))
            · refine .regSeq (.z (zbd [_, _] bld_api_Range) ?_)
              refine .o (.stores (vs := [_, _]) hs rfl rfl Tryz.sizeOf44 ?_); intro w hs
              refine .z zg (.nil ?_)
              refine .ret (rT (?_))
              exact Fin.retD [] [] hs fun w hs => ⟨_, results2 Tryz.results46 (rcells (vs := [_, _]) hs rfl Tryz.isAgg44 Tryz.sizeOf44) rfl, H7, _, _, _, hleF, rfl, .fls hok hr hfit hRg hc111, hs.out⟩
            · refine .skip ?_
              refine nT ?_
              refine .regSeq ?_
              obtain rfl : f = 0 := by simpa using hc111
              refine .z zm (.z (zfa fa_api_Reading_4) (.y hs (zld Tryz.isAgg3) (.z zsub (.z zmax (.z zm (.z (zfa fa_api_Reading_4) (.y hs (zld Tryz.isAgg3) (.z zadd (.z (zfa fa_api_Reading_4) ?_)))))))))
              refine .y hs (zld Tryz.isAgg3) (.z zsub (.z zmin (.z (zbd [_, _] bld_api_Range) ?_)))
              refine .o (.alloc hs Tryz.zeroValue44 rfl ?_); intro b15 w hs
              refine .o (.stores (vs := [_, _]) hs rfl rfl Tryz.sizeOf44 ?_); intro w hs
              refine .nil (.seq (.regSeq (.z (zfa fa_api_Range_0) (.y hs (zld Tryz.isAgg3) (.z (zfa fa_api_Range_1) (.y hs (zld Tryz.isAgg3) (.z zgtr (.nil ?_))))))))
              refine (.condD rfl (fun hc131 => ?_) (fun hc131 => ?_))
              · refine .regSeq (.z (zbd [_, _] bld_api_Range) ?_)
                refine .o (.stores (vs := [_, _]) hs rfl rfl Tryz.sizeOf44 ?_); intro w hs
                refine .z zg (.nil ?_)
                refine .ret (rT (?_))
                exact Fin.retD [] [] hs fun w hs => ⟨_, results2 Tryz.results46 (rcells (vs := [_, _]) hs rfl Tryz.isAgg44 Tryz.sizeOf44) rfl, H7, _, _, _, hleF, rfl, .none hok hr hfit hRg (by omega), hs.out⟩
              · refine .skip ?_
                refine nT ?_
                refine .regSeq (.y hs (zls [_, _] Tryz.isAgg44 Tryz.sizeOf44) ?_)
                refine .o (.stores (vs := [_, _]) hs rfl rfl Tryz.sizeOf44 ?_); intro w hs
                refine .z zg (.nil ?_)
                refine .ret ?_
                exact Fin.retD [] [] hs fun w hs => ⟨_, results2 Tryz.results46 (rcells (vs := [_, _]) hs rfl Tryz.isAgg44 Tryz.sizeOf44) rfl, H7, _, _, _, hleF, rfl, .ok hok hr hfit hRg (by omega), hs.out⟩
end Go.Proofs.YtddaejgfjlneoaaGreat

namespace Go.Proofs.YtddaejgfjlneoaaGreat
open Go.MW
set_option maxRecDepth 100000 in
theorem rng3_stood : Tryz.prog.stoodInHeld 44 = false := by kernel_rfl
set_option maxRecDepth 100000 in
theorem rng3_guard : Tryz.prog.eqGuardType Tryz.prog.depth 44 = false := by kernel_rfl
theorem ref03_SameInts_spec {H : Heap} {w : World} {σ : List Ent} {v1 v2 : Value} {as_ bs : List Int} (hs : St H w σ) (h1 : RI H v1 as_) (h2 : RI H v2 bs) :
    Cl Tryz.prog 34 [v1, v2] w fun u w' => u = .bool (decide (as_ = bs)) ∧ St H w' σ := by
  obtain ⟨a1, c1, rfl⟩ := RI.shape h1
  obtain ⟨a2, c2, rfl⟩ := RI.shape h2
  have l1 := (RI.len h1).2.2
  refine Cl.of Tryz.func34 rfl Tryz.ntmps34 (by simp) (args_cons (k := 0) rfl (args_cons (k := 1) rfl (args0))) ?_
  refine .regSeq (.z zg (.nil (.regSeq (.z zm (.z (zlen Tryz.runUnderlying22) (.z zm (.z (zlen Tryz.runUnderlying22) (.z zeql (.z zg ?_)))))))))
  refine .nil (.seq (.regSeq (.z zg (.nil (.block ?_)))))
  refine .loop (fun p : Nat × Bool => ⟨31, [], [(6, I (p.1 : Int)), (5, .bool p.2), (0, .slice a1 as_.length c1), (1, .slice a2 bs.length c2)]⟩)
    (fun p w => p.1 ≤ as_.length ∧ (p.2 = true ↔ as_.length = bs.length ∧ ∀ j < p.1, gi as_ j = gi bs j) ∧ St H w σ) (fun p => as_.length - p.1) (0, decide ((as_.length : Int) = bs.length)) (by repeat (first | exact .nil rfl rfl | refine .cons rfl ?_))
    ⟨Nat.zero_le _, by dsimp only; rw [decide_eq_true_eq]; exact ⟨fun h => ⟨by omega, fun j hj => by omega⟩, fun h => by omega⟩, hs⟩ ?_
  rintro ⟨k, b⟩ w ⟨hk, hb, hs⟩
  dsimp only at hk hb ⊢
  refine .seq (.regSeq (.z zm (.z zm (.z (zlen Tryz.runUnderlying22) (.z zlss (.z zm ?_))))))
  refine .bifD (t' := 16) rfl (fun hb16 => ?_) (fun hb16 => ?_)
  · refine .gT rfl rfl ?_
    refine .z zm (.z zpT (.nil ?_))
    refine (.cond rfl (fun hc18 => ?_) (fun hc18 => ?_))
    · refine .skip ?_
      refine nT ?_
      refine .seq (.block ?_)
      refine .draw mix rfl hs ?_; intro w hs
      refine .z 0 rfl zm ?_; refine .z 1 rfl zm ?_
      obtain rfl : b = true := by assumption
      obtain ⟨hlen, hall⟩ := hb.1 rfl
      refine .ixX (enc := fun x => [I x]) (i := 2) hs rfl (by kernel_rfl) .none h1 rfl rfl Tryz.runUnderlying22 Tryz.sizeOf3 (gi_get (l := as_) (i := k) (by omega)) (by first | rfl | assumption | omega) ?_; intro b23 o23 hc23; replace hc23 := CellsAt.one hc23
      refine .r (i := 3) hs rfl (by kernel_rfl) .none (q_loadR rfl Tryz.isAgg3 hc23) ?_
      refine .z 4 rfl zm ?_; refine .z 5 rfl zm ?_
      refine .ixX (enc := fun x => [I x]) (i := 6) hs rfl (by kernel_rfl) .none h2 rfl rfl Tryz.runUnderlying22 Tryz.sizeOf3 (gi_get (l := bs) (i := k) (by omega)) (by first | rfl | assumption | omega) ?_; intro b27 o27 hc27; replace hc27 := CellsAt.one hc27
      refine .r (i := 7) hs rfl (by kernel_rfl) .none (q_loadR rfl Tryz.isAgg3 hc27) ?_
      refine .z 8 rfl zeql ?_; refine .z 9 rfl zg ?_; refine .done (by kernel_rfl) hs ?_
      refine nB (nT ?_)
      refine .region (.z zm (.z zadd (.z zg (.nil ?_))))
      refine nT ?_
      exact ⟨(k + 1, decide (gi as_ k = gi bs k)), .consI rfl (by simp) (by repeat (first | exact .nil rfl rfl | refine .cons rfl ?_)), ⟨by dsimp only; omega, by
        dsimp only
        rw [decide_eq_true_eq]
        exact ⟨fun h => ⟨hlen, fun j hj => by
          by_cases e : j = k
          · subst e; exact h
          · exact hall j (by omega)⟩, fun h => h.2 k (by omega)⟩, hs⟩, by dsimp only; omega⟩
    · refine .exit ?_
      refine xT (xT (xB (nT ?_)))
      refine .regSeq (.z zm (.z zg (.nil ?_)))
      refine .ret (Fin.ret1 Tryz.results34 rfl ?_)
      have hf : b = false := by simpa using hc18
      exact ⟨by rw [hf, decide_eq_false (fun h => by subst h; rw [hb.2 ⟨rfl, fun j _ => rfl⟩] at hf; cases hf)], hs⟩
  · refine .gFs 1 4 true rfl rfl rfl ?_
    refine .z zpF (.nil ?_)
    refine (.condF rfl rfl ?_)
    refine .exit ?_
    refine xT (xT (xB (nT ?_)))
    refine .regSeq (.z zm (.z zg (.nil ?_)))
    refine .ret (Fin.ret1 Tryz.results34 rfl ?_)
    refine ⟨?_, hs⟩
    congr 1
    cases hbb : b with
    | true =>
      obtain ⟨hl, ha⟩ := hb.1 hbb
      rw [decide_eq_true (ext_gi hl fun j hj => ha j (by omega))]
    | false => rw [decide_eq_false (fun h => by subst h; rw [hb.2 ⟨rfl, fun j _ => rfl⟩] at hbb; cases hbb)]
theorem law03_example_spec {H : Heap} {w : World} {σ : List Ent} (hs : St H w σ) :
    Cl Tryz.prog 82 [] w fun u w' => ∃ H1 vst vwa vr vc, HLe H H1 ∧ u = .agg #[I 1, I 1, vst, vwa, I 100, I 200, vr, vc] ∧ RI H1 vst exV.sp.st ∧ RI H1 vwa exV.sp.wa ∧ RRd H1 vr exV.rs ∧ RCm H1 vc exV.cs ∧ St H1 w' σ := by
  refine Cl.of Tryz.func82 rfl Tryz.ntmps82 (by simp) (args0) ?_
  refine .regSeq ?_
  refine .o (.alloc hs Tryz.zeroValue38 rfl ?_); intro b0 w hs
  refine .nil (.regSeq ?_)
  refine .o (.buildSlice (cells := Is [0, 1000]) hs bls_sl_int_2 rfl (by kernel_rfl) ?_); intro b2 w hs
  refine .o (.buildSlice (cells := Is [0, 1000]) hs bls_sl_int_2 rfl (by kernel_rfl) ?_); intro b3 w hs
  refine .z (zbd [_, _] bld_api_Fair) (.z (zbd [_, _, _, _, _, _] bld_api_Space) ?_)
  refine .o (.alloc hs Tryz.zeroValue34 rfl ?_); intro b1 w hs
  refine .o (.stores (vs := [_, _, _, _, _, _]) hs rfl rfl Tryz.sizeOf34 ?_); intro w hs
  refine .nil (.regSeq (.y hs (zls [_, _, _, _, _, _] Tryz.isAgg34 Tryz.sizeOf34) (.z (zbd [_, _, _, _, _, _, _] bld_api_Reading) (.z (zbd [_, _, _, _, _, _, _] bld_api_Reading) (.z (zbd [_, _, _, _, _, _, _] bld_api_Reading) (.z (zbd [_, _, _, _, _, _, _] bld_api_Reading) ?_))))))
  refine .o (.buildSlice (cells := (rdc exRs).flatten) hs bls_sl_api_Reading_4 rfl (by kernel_rfl) ?_); intro b11 w hs
  refine .z (zbd [_, _, _, _, _, _] bld_api_Compare) ?_
  refine .o (.buildSlice (cells := (cmc exV.cs).flatten) hs bls_sl_api_Compare_1 rfl (by kernel_rfl) ?_); intro b13 w hs
  refine .z (zbd (vs := [(0, .agg #[I 1, I 1, .slice (some ⟨b2, 0, none⟩) 2 2, .slice (some ⟨b3, 0, none⟩) 2 2, I 100, I 200]), (1, .slice (some ⟨b11, 0, none⟩) 4 4), (2, .slice (some ⟨b13, 0, none⟩) 1 1)]) [I 1, I 1, .slice (some ⟨b2, 0, none⟩) 2 2, .slice (some ⟨b3, 0, none⟩) 2 2, I 100, I 200, .slice (some ⟨b11, 0, none⟩) 4 4, .slice (some ⟨b13, 0, none⟩) 1 1] bld_api_Survey rfl (by kernel_rfl)) ?_
  refine .o (.stores (vs := [_, _, _, _, _, _, _, _]) hs rfl rfl Tryz.sizeOf38 ?_); intro w hs
  refine .nil ?_
  refine .ret ?_
  obtain ⟨H1, g1, r1, hs⟩ := OwnS.publishI (xs := [0, 1000]) (v := .slice (some ⟨b2, 0, none⟩) 2 2) (.full rfl) (by simp) hs (by repeat constructor)
  obtain ⟨H2, g2, r2, hs⟩ := OwnS.publishI (xs := [0, 1000]) (v := .slice (some ⟨b3, 0, none⟩) 2 2) (.full rfl) (by simp) hs (by repeat constructor)
  obtain ⟨H3, g3, r3, hs⟩ := OwnS.publish (m := 7) (cs := rdc exRs) (v := .slice (some ⟨b11, 0, none⟩) 4 4) (.full (by kernel_rfl)) (rdc_7 _) (by omega) (by decide) hs (by repeat constructor)
  obtain ⟨H4, g4, r4, hs⟩ := OwnS.publish (m := 6) (cs := cmc exV.cs) (v := .slice (some ⟨b13, 0, none⟩) 1 1) (.full (by kernel_rfl)) (cmc_6 _) (by omega) (by decide) hs (by repeat constructor)
  exact Fin.retD [] [] hs fun w hs => ⟨_, results1 Tryz.results82 (rcells (vs := [_, _, _, _, _, _, _, _]) hs rfl Tryz.isAgg38 Tryz.sizeOf38), H4, _, _, _, _, g1.trans (g2.trans (g3.trans g4)), rfl, r1.mono (g2.trans (g3.trans g4)), r2.mono (g3.trans g4), r3.mono g4, r4, hs.out⟩
theorem clash_ex {out : List Int} {e : Int} (h : ClashR exW out e) : out = [11, 15] ∧ e = 0 := by
  cases h with
  | bad h he => exact (he (h.ok_iff.2 exW_ok)).elim
  | ok _ h => rw [exW_sys] at h; exact exW_clash h
set_option maxHeartbeats 4000000 in
theorem law03_sane_spec {H : Heap} {w : World} {σ : List Ent} (hs : St H w σ) :
    Cl Tryz.prog 22 [] w fun u w' => u = .bool true ∧ ∃ H1, HLe H H1 ∧ St H1 w' σ := by
  refine Cl.of Tryz.func22 rfl Tryz.ntmps22 (by simp) (args0) ?_
  refine .regSeq (.z zg (.nil (.regSeq ?_)))
  refine .o (.call Tryz.call82 rfl (law03_example_spec hs) ?_); rintro _ w ⟨H1, vst, vwa, vr, vc, hle1, rfl, h1, h2, h3, h4, hs⟩
  obtain ⟨ast, cst, rfl⟩ := RI.shape h1
  obtain ⟨awa, cwa, rfl⟩ := RI.shape h2
  obtain ⟨ar, cr, rfl⟩ := RRd.shape h3
  obtain ⟨ac, cc, rfl⟩ := RCm.shape h4
  refine .o (.alloc hs Tryz.zeroValue38 rfl ?_); intro b1 w hs
  refine .o (.stores (vs := [_, _, _, _, _, _, _, _]) hs rfl rfl Tryz.sizeOf38 ?_); intro w hs
  refine .nil (.regSeq (.y hs (zls [_, _, _, _, _, _, _, _] Tryz.isAgg38 Tryz.sizeOf38) (.z (zbd [_, _, _] bld_api_What) ?_)))
  refine .o (.call Tryz.call26 rfl (offsets_Bound_spec (s := exV) (q := ⟨1, 0, 1⟩) hs h1 h2 h3 h4) ?_); rintro _ w ⟨H2, lo, hi, e, hle2, rfl, hQ, hs⟩
  obtain ⟨rfl, rfl, rfl⟩ := ex_litres hQ
  have hle02 := hle1.trans hle2
  replace h1 := h1.mono hle2
  replace h2 := h2.mono hle2
  replace h3 := h3.mono hle2
  replace h4 := h4.mono hle2
  refine .z zm (.z zex (.z zex ?_))
  refine .o (.alloc hs Tryz.zeroValue44 rfl ?_); intro b2 w hs
  refine .o (.stores (vs := [_, _]) hs rfl rfl Tryz.sizeOf44 ?_); intro w hs
  refine .z zg (.nil (.regSeq (.y hs (zls [_, _, _, _, _, _, _, _] Tryz.isAgg38 Tryz.sizeOf38) (.z (zbd [_, _] bld_api_TapeDay) ?_))))
  refine .o (.call Tryz.call28 rfl (offsets_Tape_spec (s := exV) (t := ⟨2, 5⟩) hs h1 h2 h3 h4) ?_); rintro _ w ⟨H3, lo, hi, e, hle3, rfl, hQ, hs⟩
  obtain ⟨rfl, rfl, rfl⟩ := ex_tape hQ
  have hle03 := hle02.trans hle3
  replace h1 := h1.mono hle3
  replace h2 := h2.mono hle3
  replace h3 := h3.mono hle3
  replace h4 := h4.mono hle3
  refine .z zm (.z zex (.z zex ?_))
  refine .o (.alloc hs Tryz.zeroValue44 rfl ?_); intro b4 w hs
  refine .o (.stores (vs := [_, _]) hs rfl rfl Tryz.sizeOf44 ?_); intro w hs
  refine .z zg (.nil (.regSeq (.z (zfa fa_api_Survey_0) (.y hs (zls [_, _, _, _, _, _] Tryz.isAgg34 Tryz.sizeOf34) ?_))))
  refine .o (.buildSlice (cells := Is [100, 200]) hs bls_sl_int_2 rfl (by kernel_rfl) ?_); intro b30 w hs
  refine .o (.buildSlice (cells := Is [150, 300]) hs bls_sl_int_2 rfl (by kernel_rfl) ?_); intro b31 w hs
  refine .o (.buildSlice (cells := [.slice (some ⟨b30, 0, none⟩) 2 2, .slice (some ⟨b31, 0, none⟩) 2 2]) hs bls_slLL_int_2 rfl (by kernel_rfl) ?_); intro b32 w hs
  refine .z (zbd [_] bld_api_Hull) (.z (zbd [_, _, _] bld_api_What) ?_)
  obtain ⟨H4, g1, r1, hs⟩ := OwnS.publishI (xs := [100, 200]) (v := .slice (some ⟨b30, 0, none⟩) 2 2) (.full rfl) (by simp) hs (by repeat constructor)
  obtain ⟨H5, g2, r2, hs⟩ := OwnS.publishI (xs := [150, 300]) (v := .slice (some ⟨b31, 0, none⟩) 2 2) (.full rfl) (by simp) hs (by repeat constructor)
  have hRL : RLs H5 [.slice (some ⟨b30, 0, none⟩) 2 2, .slice (some ⟨b31, 0, none⟩) 2 2] exRows := ((RLs.nil H5).snoc (r1.mono g2)).snoc r2
  obtain ⟨H6, g3, hRT, hs⟩ := hRL.publish (v := .slice (some ⟨b32, 0, none⟩) 2 2) (en := .blk b32 [.slice (some ⟨b30, 0, none⟩) 2 2, .slice (some ⟨b31, 0, none⟩) 2 2]) (.full rfl) (by simp) hs (by repeat constructor)
  have hle4 := g1.trans (g2.trans g3)
  have hle06 := hle03.trans hle4
  replace h1 := h1.mono hle4
  replace h2 := h2.mono hle4
  replace h3 := h3.mono hle4
  replace h4 := h4.mono hle4
  refine .o (.call Tryz.call37 rfl (offsets_Value_spec (s := exSp) (q := ⟨1, 0, 1⟩) hs h1 h2 hRT) ?_); rintro _ w ⟨H7, n, e, hle7, rfl, hQ, hs⟩
  obtain ⟨rfl, rfl⟩ := ex_value hQ
  have hle07 := hle06.trans hle7
  replace h1 := h1.mono hle7
  replace h2 := h2.mono hle7
  replace h3 := h3.mono hle7
  replace h4 := h4.mono hle7
  refine .z zm (.z zex (.z zex (.z zg (.z zg (.nil (.regSeq (.y hs (zls [_, _, _, _, _, _, _, _] Tryz.isAgg38 Tryz.sizeOf38) (.z (zbd [_, _, _, _, _, _, _] bld_api_Reading) ?_))))))))
  refine .o (.call Tryz.call46 rfl (offsets_Told_spec (s := exV) (r := ⟨30, 1, 0, 0, 5, 1, 5⟩) hs h1 h2 h3 h4 rfl) ?_); rintro _ w ⟨H8, lo, hi, e, hle8, rfl, hQ, hs⟩
  obtain ⟨rfl, rfl, rfl⟩ := ex_told hQ
  have hle08 := hle07.trans hle8
  replace h1 := h1.mono hle8
  replace h2 := h2.mono hle8
  replace h3 := h3.mono hle8
  replace h4 := h4.mono hle8
  refine .z zm (.z zex (.z zex ?_))
  refine .o (.alloc hs Tryz.zeroValue44 rfl ?_); intro b8 w hs
  refine .o (.stores (vs := [_, _]) hs rfl rfl Tryz.sizeOf44 ?_); intro w hs
  refine .z zg (.nil (.regSeq (.y hs (zls [_, _, _, _, _, _, _, _] Tryz.isAgg38 Tryz.sizeOf38) ?_)))
  refine .o (.alloc hs Tryz.zeroValue38 rfl ?_); intro b10 w hs
  refine .o (.stores (vs := [_, _, _, _, _, _, _, _]) hs rfl rfl Tryz.sizeOf38 ?_); intro w hs
  refine .nil (.regSeq ?_)
  refine .o (.buildSlice (cells := []) hs bls_sl_api_Reading_0 rfl rfl ?_); intro b45 w hs
  refine .z (zfa fa_api_Survey_1) (.y hs (zld Tryz.isAgg35) ?_)
  refine .o (.append (xs := []) (ys := (rdc exRs).flatten) hs app_sl_api_Reading_api_Reading rfl rfl (.full (b := b45) (len := 0) rfl) (.rs h3) (by decide) (fun l' h => by have hl : l' = 0 := (by simp at h; omega); subst hl; decide) ?_); intro v48 en48 w hO48 hs
  rw [List.nil_append] at hO48
  obtain ⟨a48, c48, rfl⟩ := hO48.shapeX (rdc_7 exRs) (by omega)
  refine .z (zbd [_, _, _, _, _, _, _] bld_api_Reading) ?_
  refine .o (.buildSlice (cells := Rdg.c ⟨15, 0, 0, 300, 10, 1, 5⟩) hs bls_sl_api_Reading_1 rfl (by kernel_rfl) ?_); intro b50 w hs
  refine .o (.append (ys := Rdg.c ⟨15, 0, 0, 300, 10, 1, 5⟩) hs app_sl_api_Reading_api_Reading rfl rfl hO48 (.own .here rfl rfl) (by decide) (fun l' h => by rw [flat_length _ (rdc_7 _)] at h; simp [rdc, exRs] at h; omega) ?_); intro v51 en51 w hO51 hs
  rw [← rdc_snoc] at hO51
  obtain ⟨H9, hle9, h3w, hs⟩ := OwnS.publish (m := 7) (cs := rdc (exRs ++ [⟨15, 0, 0, 300, 10, 1, 5⟩])) hO51 (rdc_7 _) (by omega) (by decide) hs (by repeat constructor)
  replace h3w : RRd H9 v51 exW.rs := h3w
  obtain ⟨a51, c51, rfl⟩ := RRd.shape h3w
  have hle09 := hle08.trans hle9
  replace h1 := h1.mono hle9
  replace h2 := h2.mono hle9
  replace h4 := h4.mono hle9
  refine .z (zfa fa_api_Survey_1) ?_
  refine .o (.store hs rfl rfl Tryz.sizeOf35 ?_); intro w hs
  refine .nil (.regSeq (.y hs (zls [_, _, _, _, _, _, _, _] Tryz.isAgg38 Tryz.sizeOf38) ?_))
  refine .o (.call Tryz.call32 rfl (offsets_Clash_spec (s := exW) hs h1 h2 h3w h4) ?_); rintro _ w ⟨H10, vx, out, e, hle10, rfl, hR, hQ, hs⟩
  obtain ⟨rfl, rfl⟩ := clash_ex hQ
  have hle010 := hle09.trans hle10
  refine .z zm (.z zex (.z zex (.z zg (.z zg (.nil (.regSeq (.z zm ?_)))))))
  refine .o (.buildSlice (cells := Is [11, 15]) hs bls_sl_int_2 rfl (by kernel_rfl) ?_); intro b59 w hs
  obtain ⟨H11, hle11, r59, hs⟩ := OwnS.publishI (xs := [11, 15]) (v := .slice (some ⟨b59, 0, none⟩) 2 2) (.full rfl) (by simp) hs (by repeat constructor)
  have hleF := hle010.trans hle11
  refine .o (.call Tryz.call34 rfl (ref03_SameInts_spec hs (hR.mono hle11) r59) ?_); rintro _ w ⟨rfl, hs⟩
  refine .z zg (.nil (.regSeq (.z zm (.z zeql (.z zm ?_)))))
  refine .bifD (t' := 63) rfl (fun hb63 => ?_) (fun hb63 => ?_)
  · refine .gT rfl rfl ?_
    refine .y hs (zls [_, _] Tryz.isAgg44 Tryz.sizeOf44) ?_
    refine .gT rfl rfl ?_
    refine .z (zbd [_, _] bld_api_Range) ?_
    refine .gT rfl rfl ?_
    refine .q hs (q_eqS2 rng3_stood rng3_guard Tryz.runUnderlying44 (fun f hf => by
      simp only [List.mem_cons, List.not_mem_nil, or_false] at hf
      rcases hf with rfl | rfl <;> exact ⟨by decide, Tryz.runUnderlying3, Tryz.isAgg3⟩) rfl rfl) ?_
    refine .z zpT (.z zm ?_)
    refine .bif (t' := 68) rfl (fun hb68 => ?_) (fun hb68 => ?_)
    · refine .gT rfl rfl ?_
      refine .z zm ?_
      refine .gT rfl rfl ?_
      refine .z zeql (.z zpT (.z zm ?_))
      refine .bifD (t' := 72) rfl (fun hb72 => ?_) (fun hb72 => ?_)
      · refine .gT rfl rfl ?_
        refine .y hs (zls [_, _] Tryz.isAgg44 Tryz.sizeOf44) ?_
        refine .gT rfl rfl ?_
        refine .z (zbd [_, _] bld_api_Range) ?_
        refine .gT rfl rfl ?_
        refine .q hs (q_eqS2 rng3_stood rng3_guard Tryz.runUnderlying44 (fun f hf => by
          simp only [List.mem_cons, List.not_mem_nil, or_false] at hf
          rcases hf with rfl | rfl <;> exact ⟨by decide, Tryz.runUnderlying3, Tryz.isAgg3⟩) rfl rfl) ?_
        refine .z zpT (.z zm ?_)
        refine .bif (t' := 77) rfl (fun hb77 => ?_) (fun hb77 => ?_)
        · refine .gT rfl rfl ?_
          refine .z zm ?_
          refine .gT rfl rfl ?_
          refine .z zeql (.z zpT (.z zm ?_))
          refine .bifD (t' := 81) rfl (fun hb81 => ?_) (fun hb81 => ?_)
          · refine .gT rfl rfl ?_
            refine .z zm ?_
            refine .gT rfl rfl ?_
            refine .z zeql (.z zpT (.z zm ?_))
            refine .bifD (t' := 85) rfl (fun hb85 => ?_) (fun hb85 => ?_)
            · refine .gT rfl rfl ?_
              refine .z zm ?_
              refine .gT rfl rfl ?_
              refine .z zeql (.z zpT (.z zm ?_))
              refine .bifD (t' := 89) rfl (fun hb89 => ?_) (fun hb89 => ?_)
              · refine .gT rfl rfl ?_
                refine .y hs (zls [_, _] Tryz.isAgg44 Tryz.sizeOf44) ?_
                refine .gT rfl rfl ?_
                refine .z (zbd [_, _] bld_api_Range) ?_
                refine .gT rfl rfl ?_
                refine .q hs (q_eqS2 rng3_stood rng3_guard Tryz.runUnderlying44 (fun f hf => by
                  simp only [List.mem_cons, List.not_mem_nil, or_false] at hf
                  rcases hf with rfl | rfl <;> exact ⟨by decide, Tryz.runUnderlying3, Tryz.isAgg3⟩) rfl rfl) ?_
                refine .z zpT (.z zm ?_)
                refine .bif (t' := 94) rfl (fun hb94 => ?_) (fun hb94 => ?_)
                · refine .gT rfl rfl ?_
                  refine .z zm ?_
                  refine .gT rfl rfl ?_
                  refine .z zeql (.z zpT (.z zm ?_))
                  refine .bifD (t' := 98) rfl (fun hb98 => ?_) (fun hb98 => ?_)
                  · refine .gT rfl rfl ?_
                    refine .z zm (.z zpT (.z zg (.nil ?_)))
                    refine .ret (Fin.ret1 Tryz.results22 rfl ?_)
                    first
                    | exact ⟨rfl, H11, hleF, hs.out⟩
                    | contradiction
                    | (exfalso; simp_all; done)
                  · refine .gFs 1 37 true rfl rfl rfl ?_
                    refine .z zpF (.z zg (.nil ?_))
                    refine .ret (Fin.ret1 Tryz.results22 rfl ?_)
                    first
                    | exact ⟨rfl, H11, hleF, hs.out⟩
                    | contradiction
                    | (exfalso; simp_all; done)
                · refine .gFs 2 33 true rfl rfl rfl ?_
                  refine .z zpF (.z zm ?_)
                  refine .gFs 1 37 true rfl rfl rfl ?_
                  refine .z zpF (.z zg (.nil ?_))
                  refine .ret (Fin.ret1 Tryz.results22 rfl ?_)
                  first
                  | exact ⟨rfl, H11, hleF, hs.out⟩
                  | contradiction
                  | (exfalso; simp_all; done)
              · refine .gFs 3 28 true rfl rfl rfl ?_
                refine .z zpF (.z zm ?_)
                refine .gFs 2 33 true rfl rfl rfl ?_
                refine .z zpF (.z zm ?_)
                refine .gFs 1 37 true rfl rfl rfl ?_
                refine .z zpF (.z zg (.nil ?_))
                refine .ret (Fin.ret1 Tryz.results22 rfl ?_)
                first
                | exact ⟨rfl, H11, hleF, hs.out⟩
                | contradiction
                | (exfalso; simp_all; done)
            · refine .gFs 2 24 true rfl rfl rfl ?_
              refine .z zpF (.z zm ?_)
              refine .gFs 3 28 true rfl rfl rfl ?_
              refine .z zpF (.z zm ?_)
              refine .gFs 2 33 true rfl rfl rfl ?_
              refine .z zpF (.z zm ?_)
              refine .gFs 1 37 true rfl rfl rfl ?_
              refine .z zpF (.z zg (.nil ?_))
              refine .ret (Fin.ret1 Tryz.results22 rfl ?_)
              first
              | exact ⟨rfl, H11, hleF, hs.out⟩
              | contradiction
              | (exfalso; simp_all; done)
          · refine .gFs 2 20 true rfl rfl rfl ?_
            refine .z zpF (.z zm ?_)
            refine .gFs 2 24 true rfl rfl rfl ?_
            refine .z zpF (.z zm ?_)
            refine .gFs 3 28 true rfl rfl rfl ?_
            refine .z zpF (.z zm ?_)
            refine .gFs 2 33 true rfl rfl rfl ?_
            refine .z zpF (.z zm ?_)
            refine .gFs 1 37 true rfl rfl rfl ?_
            refine .z zpF (.z zg (.nil ?_))
            refine .ret (Fin.ret1 Tryz.results22 rfl ?_)
            first
            | exact ⟨rfl, H11, hleF, hs.out⟩
            | contradiction
            | (exfalso; simp_all; done)
        · refine .gFs 2 16 true rfl rfl rfl ?_
          refine .z zpF (.z zm ?_)
          refine .gFs 2 20 true rfl rfl rfl ?_
          refine .z zpF (.z zm ?_)
          refine .gFs 2 24 true rfl rfl rfl ?_
          refine .z zpF (.z zm ?_)
          refine .gFs 3 28 true rfl rfl rfl ?_
          refine .z zpF (.z zm ?_)
          refine .gFs 2 33 true rfl rfl rfl ?_
          refine .z zpF (.z zm ?_)
          refine .gFs 1 37 true rfl rfl rfl ?_
          refine .z zpF (.z zg (.nil ?_))
          refine .ret (Fin.ret1 Tryz.results22 rfl ?_)
          first
          | exact ⟨rfl, H11, hleF, hs.out⟩
          | contradiction
          | (exfalso; simp_all; done)
      · refine .gFs 3 11 true rfl rfl rfl ?_
        refine .z zpF (.z zm ?_)
        refine .gFs 2 16 true rfl rfl rfl ?_
        refine .z zpF (.z zm ?_)
        refine .gFs 2 20 true rfl rfl rfl ?_
        refine .z zpF (.z zm ?_)
        refine .gFs 2 24 true rfl rfl rfl ?_
        refine .z zpF (.z zm ?_)
        refine .gFs 3 28 true rfl rfl rfl ?_
        refine .z zpF (.z zm ?_)
        refine .gFs 2 33 true rfl rfl rfl ?_
        refine .z zpF (.z zm ?_)
        refine .gFs 1 37 true rfl rfl rfl ?_
        refine .z zpF (.z zg (.nil ?_))
        refine .ret (Fin.ret1 Tryz.results22 rfl ?_)
        first
        | exact ⟨rfl, H11, hleF, hs.out⟩
        | contradiction
        | (exfalso; simp_all; done)
    · refine .gFs 2 7 true rfl rfl rfl ?_
      refine .z zpF (.z zm ?_)
      refine .gFs 3 11 true rfl rfl rfl ?_
      refine .z zpF (.z zm ?_)
      refine .gFs 2 16 true rfl rfl rfl ?_
      refine .z zpF (.z zm ?_)
      refine .gFs 2 20 true rfl rfl rfl ?_
      refine .z zpF (.z zm ?_)
      refine .gFs 2 24 true rfl rfl rfl ?_
      refine .z zpF (.z zm ?_)
      refine .gFs 3 28 true rfl rfl rfl ?_
      refine .z zpF (.z zm ?_)
      refine .gFs 2 33 true rfl rfl rfl ?_
      refine .z zpF (.z zm ?_)
      refine .gFs 1 37 true rfl rfl rfl ?_
      refine .z zpF (.z zg (.nil ?_))
      refine .ret (Fin.ret1 Tryz.results22 rfl ?_)
      first
      | exact ⟨rfl, H11, hleF, hs.out⟩
      | contradiction
      | (exfalso; simp_all; done)
  · refine .gFs 3 2 true rfl rfl rfl ?_
    refine .z zpF (.z zm ?_)
    refine .gFs 2 7 true rfl rfl rfl ?_
    refine .z zpF (.z zm ?_)
    refine .gFs 3 11 true rfl rfl rfl ?_
    refine .z zpF (.z zm ?_)
    refine .gFs 2 16 true rfl rfl rfl ?_
    refine .z zpF (.z zm ?_)
    refine .gFs 2 20 true rfl rfl rfl ?_
    refine .z zpF (.z zm ?_)
    refine .gFs 2 24 true rfl rfl rfl ?_
    refine .z zpF (.z zm ?_)
    refine .gFs 3 28 true rfl rfl rfl ?_
    refine .z zpF (.z zm ?_)
    refine .gFs 2 33 true rfl rfl rfl ?_
    refine .z zpF (.z zm ?_)
    refine .gFs 1 37 true rfl rfl rfl ?_
    refine .z zpF (.z zg (.nil ?_))
    refine .ret (Fin.ret1 Tryz.results22 rfl ?_)
    first
    | exact ⟨rfl, H11, hleF, hs.out⟩
    | contradiction
    | (exfalso; simp_all; done)
end Go.Proofs.YtddaejgfjlneoaaGreat

namespace Go.Proofs.YtddaejgfjlneoaaGreat
open Go.MW
def SysR (v : Srv) (s : Syst) (e : Int) : Prop := SrvR v e ∧ (e = 0 → s = v.sys) ∧ (e ≠ 0 → s = ⟨0, []⟩)
theorem SysR.uniq {v : Srv} {s t : Syst} {e f : Int} (h : SysR v s e) (g : SysR v t f) : s = t ∧ e = f := by
  obtain rfl := h.1.uniq g.1
  by_cases h0 : e = 0
  · exact ⟨(h.2.1 h0).trans (g.2.1 h0).symm, rfl⟩
  · exact ⟨(h.2.2 h0).trans (g.2.2 h0).symm, rfl⟩
end Go.Proofs.YtddaejgfjlneoaaGreat

namespace Go.Proofs.YtddaejgfjlneoaaGreat
open Go.MW
structure WI (s : Spc) (L : List Int) (f : Nat → Nat → Int) : Prop where
  len : L.length = s.many + 1
  zero : gi L 0 = 0
  at_ : ∀ i k, i < s.st.length → k < s.wa.length → gi L (s.u i k) = f i k
theorem WI.start (s : Spc) : WI s (List.replicate (s.many + 1) 0) fun _ _ => 0 :=
  ⟨by simp, gi_replicate _ _ (by omega), fun i k hi hk => by have := u_bd hi hk; exact gi_replicate _ _ (by omega)⟩
theorem WI.set {s : Spc} {L : List Int} {f : Nat → Nat → Int} (h : WI s L f) {i k : Nat} (hi : i < s.st.length) (hk : k < s.wa.length) (x : Int) : WI s (L.set (s.u i k) x) fun i' k' => if i' = i ∧ k' = k then x else f i' k' := by
  have hb := u_bd hi hk
  refine ⟨by rw [List.length_set]; exact h.len, by rw [gi_set_ne (by omega)]; exact h.zero, fun i' k' hi' hk' => ?_⟩
  have hb' := u_bd hi' hk'
  rw [gi_set (by rw [h.len]; omega)]
  by_cases e : i' = i ∧ k' = k
  · obtain ⟨rfl, rfl⟩ := e
    rw [if_pos rfl, if_pos ⟨rfl, rfl⟩]
  · rw [if_neg e, if_neg, h.at_ i' k' hi' hk']
    intro e2
    obtain ⟨d1, d2⟩ := uidx (nw := s.wa.length) (i := i) hk
    obtain ⟨d3, d4⟩ := uidx (nw := s.wa.length) (i := i') hk'
    have e3 : i' * s.wa.length + k' = i * s.wa.length + k := by unfold Spc.u at e2; omega
    rw [e3] at d3 d4
    exact e ⟨d3.symm.trans d1, d4.symm.trans d2⟩
theorem WI.congr {s : Spc} {L : List Int} {f g : Nat → Nat → Int} (h : WI s L f) (e : ∀ i k, i < s.st.length → k < s.wa.length → f i k = g i k) : WI s L g :=
  ⟨h.len, h.zero, fun i k hi hk => (h.at_ i k hi hk).trans (e i k hi hk)⟩
theorem WI.fin {s : Spc} {q : Wht} {L : List Int} (h : WI s L (whtW s q)) : L = whtL s q := whtL_ext h.len h.zero h.at_
theorem ref03_isWhat_spec {H : Heap} {w : World} {σ : List Ent} {s : Spc} {q : Wht} {vst vwa : Value} (hs : St H w σ) (h1 : RI H vst s.st) (h2 : RI H vwa s.wa) :
    Cl Tryz.prog 112 [.agg #[I s.id, I s.src, vst, vwa, I s.al, I s.up], .agg #[I q.kind, I q.st, I q.wa]] w fun v w' => ∃ b : Bool, v = .bool b ∧ (b = true ↔ WhtOk s q) ∧ St H w' σ := by
  obtain ⟨ast, cst, rfl⟩ := RI.shape h1
  obtain ⟨awa, cwa, rfl⟩ := RI.shape h2
  have l1 := (RI.len h1).2.2
  have l2 := (RI.len h2).2.2
  have hi := wht_iff (s := s) (q := q)
  simp only [Spc.isW, Spc.isS] at hi
  refine Cl.of Tryz.func112 rfl Tryz.ntmps112 (by simp) (args_cons (k := 0) rfl (args_cons (k := 1) rfl (args0))) ?_
  refine .regSeq ?_
  refine .o (.box hs rfl rfl ?_); intro b2 w hs
  refine .o (.box hs rfl rfl ?_); intro b3 w hs
  refine .z zg (.nil (.regSeq (.z (zfa fa_api_What_2) (.y hs (zld Tryz.isAgg3) (.z (zfa fa_api_Space_3) (.y hs (zld Tryz.isAgg22) (.z (zlen Tryz.runUnderlying22) (.z zsub ?_))))))))
  refine .o (.call Tryz.call83 rfl (ref03_In_spec hs) ?_); rintro _ w ⟨rfl, hs⟩
  refine .z zg (.nil (.regSeq (.z (zfa fa_api_What_1) (.y hs (zld Tryz.isAgg3) (.z (zfa fa_api_Space_2) (.y hs (zld Tryz.isAgg22) (.z (zlen Tryz.runUnderlying22) (.z zsub ?_))))))))
  refine .o (.call Tryz.call83 rfl (ref03_In_spec hs) ?_); rintro _ w ⟨rfl, hs⟩
  refine .z zg (.nil (.seq (.regSeq (.z (zfa fa_api_What_0) (.y hs (zld Tryz.isAgg3) (.nil (.block (.regSeq (.z zeql ?_)))))))))
  refine .z zg (.nil ?_)
  refine (.condD rfl (fun hc23 => ?_) (fun hc23 => ?_))
  · refine .regSeq (.z (zfa fa_api_What_1) (.y hs (zld Tryz.isAgg3) (.z zeql (.z zm ?_))))
    refine .bifD (t' := 28) rfl (fun hb28 => ?_) (fun hb28 => ?_)
    · refine .gT rfl rfl ?_
      refine .z zm (.z zpT (.z zm ?_))
      refine .bif (t' := 31) rfl (fun hb31 => ?_) (fun hb31 => ?_)
      · refine .gT rfl rfl ?_
        refine .z (zfa fa_api_What_2) ?_
        refine .gT rfl rfl ?_
        refine .y hs (zld Tryz.isAgg3) ?_
        refine .gT rfl rfl ?_
        refine .z zgtr (.z zpT (.z zg (.nil ?_)))
        refine .ret (rB (rT (Fin.ret1 Tryz.results112 rfl ?_)))
        exact ⟨_, rfl, by rw [hi]; simp_all <;> omega, hs.out⟩
      · refine .gFs 3 6 true rfl rfl rfl ?_
        refine .z zpF (.z zg (.nil ?_))
        refine .ret (rB (rT (Fin.ret1 Tryz.results112 rfl ?_)))
        exact ⟨_, rfl, by rw [hi]; simp_all <;> omega, hs.out⟩
    · refine .gFs 1 3 true rfl rfl rfl ?_
      refine .z zpF (.z zm ?_)
      refine .gFs 3 6 true rfl rfl rfl ?_
      refine .z zpF (.z zg (.nil ?_))
      refine .ret (rB (rT (Fin.ret1 Tryz.results112 rfl ?_)))
      exact ⟨_, rfl, by rw [hi]; simp_all <;> omega, hs.out⟩
  · refine .regSeq (.z zeql (.z zg (.nil ?_)))
    refine (.condD rfl (fun hc36 => ?_) (fun hc36 => ?_))
    · refine .regSeq (.z (zfa fa_api_What_1) (.y hs (zld Tryz.isAgg3) (.z zeql (.z zm ?_))))
      refine .bifD (t' := 41) rfl (fun hb41 => ?_) (fun hb41 => ?_)
      · refine .gT rfl rfl ?_
        refine .z zm (.z zpT (.z zg (.nil ?_)))
        refine .ret (rB (rT (Fin.ret1 Tryz.results112 rfl ?_)))
        exact ⟨_, rfl, by rw [hi]; simp_all <;> omega, hs.out⟩
      · refine .gFs 1 3 true rfl rfl rfl ?_
        refine .z zpF (.z zg (.nil ?_))
        refine .ret (rB (rT (Fin.ret1 Tryz.results112 rfl ?_)))
        exact ⟨_, rfl, by rw [hi]; simp_all <;> omega, hs.out⟩
    · refine .regSeq (.z zeql (.z zg (.nil ?_)))
      refine (.condD rfl (fun hc44 => ?_) (fun hc44 => ?_))
      · refine .regSeq (.z zm (.z zm ?_))
        refine .bif (t' := 47) rfl (fun hb47 => ?_) (fun hb47 => ?_)
        · refine .gT rfl rfl ?_
          refine .z (zfa fa_api_What_2) ?_
          refine .gT rfl rfl ?_
          refine .y hs (zld Tryz.isAgg3) ?_
          refine .gT rfl rfl ?_
          refine .z zeql (.z zpT (.z zg (.nil ?_)))
          refine .ret (rB (rT (Fin.ret1 Tryz.results112 rfl ?_)))
          exact ⟨_, rfl, by rw [hi]; simp_all <;> omega, hs.out⟩
        · refine .gFs 3 1 true rfl rfl rfl ?_
          refine .z zpF (.z zg (.nil ?_))
          refine .ret (rB (rT (Fin.ret1 Tryz.results112 rfl ?_)))
          exact ⟨_, rfl, by rw [hi]; simp_all <;> omega, hs.out⟩
      · refine .regSeq (.z zeql (.z zg (.nil ?_)))
        refine (.condD rfl (fun hc52 => ?_) (fun hc52 => ?_))
        · refine .regSeq (.z zm (.z zm ?_))
          refine .bif (t' := 55) rfl (fun hb55 => ?_) (fun hb55 => ?_)
          · refine .gT rfl rfl ?_
            refine .z zm (.z zpT (.z zg (.nil ?_)))
            refine .ret (rB (rT (Fin.ret1 Tryz.results112 rfl ?_)))
            exact ⟨_, rfl, by rw [hi]; simp_all <;> omega, hs.out⟩
          · refine .gFs 1 1 true rfl rfl rfl ?_
            refine .z zpF (.z zg (.nil ?_))
            refine .ret (rB (rT (Fin.ret1 Tryz.results112 rfl ?_)))
            exact ⟨_, rfl, by rw [hi]; simp_all <;> omega, hs.out⟩
        · refine .skip ?_
          refine nB (nT ?_)
          refine .regSeq (.z zg (.nil ?_))
          refine .ret (Fin.ret1 Tryz.results112 rfl ?_)
          exact ⟨_, rfl, by rw [hi]; simp_all <;> omega, hs.out⟩
set_option maxHeartbeats 2000000 in
theorem ref03_weights_own {H : Heap} {w : World} {σ : List Ent} {s : Spc} {q : Wht} {vst vwa : Value} (hs : St H w σ) (h1 : RI H vst s.st) (h2 : RI H vwa s.wa) (hok : SpcOk s) (hq : WhtOk s q) :
    Cl Tryz.prog 113 [.agg #[I s.id, I s.src, vst, vwa, I s.al, I s.up], .agg #[I q.kind, I q.st, I q.wa]] w fun v w' => ∃ H1 vl en, HLe H H1 ∧ v = .tuple #[vl, I (divW q)] ∧ OwnS 1 vl (Is (whtL s q)) en ∧ St H1 w' (en :: σ) := by
  obtain ⟨ast, cst, rfl⟩ := RI.shape h1
  obtain ⟨awa, cwa, rfl⟩ := RI.shape h2
  have hsm := spc_small hok
  have hcap := (RI.len h2).2.1
  have hn1 := hok.st.many
  have hn2 := hok.wa.many
  have hlen := whtL_length s q
  have hqq := wht_iff.1 hq
  simp only [Spc.isW, Spc.isS] at hqq
  refine Cl.of Tryz.func113 rfl Tryz.ntmps113 (by simp) (args_cons (k := 0) rfl (args_cons (k := 1) rfl (args0))) ?_
  refine .regSeq ?_
  refine .o (.box hs rfl rfl ?_); intro b2 w hs
  refine .o (.box hs rfl rfl ?_); intro b3 w hs
  refine .z zg (.z zg (.nil (.regSeq (.y hs (zls [_, _, _, _, _, _] Tryz.isAgg34 Tryz.sizeOf34) ?_))))
  refine .o (.call Tryz.call97 rfl (ref03_offsets_spec (s := s) hs h1 h2 ⟨by omega, by omega⟩) ?_); rintro _ w ⟨rfl, hs⟩
  refine .z zadd ?_
  refine .o (.makeI (s.many + 1) hs rfl rfl Tryz.runUnderlying22 Tryz.typeInfo3 rfl Tryz.sizeOf3 Tryz.zeroValue3 (by omega) ?_); intro b20 w hs
  have hW0 := WI.start s
  generalize List.replicate (s.many + 1) (0 : Int) = L0 at hs hW0
  refine .z zg (.nil (.seq (.regSeq (.z (zfa fa_api_What_0) (.y hs (zld Tryz.isAgg3) (.nil (.block (.regSeq (.z zeql ?_)))))))))
  refine .z zg (.nil ?_)
  refine (.condD rfl (fun hc23 => ?_) (fun hc23 => ?_))
  · refine .seq (.draw mix rfl hs ?_); intro w hs
    refine .z 0 rfl (zfa fa_api_Space_2) ?_; refine .y 1 rfl hs Tryz.isAgg22 ?_; refine .z 2 rfl (zfa fa_api_Space_3) ?_; refine .y 3 rfl hs Tryz.isAgg22 ?_; refine .z 4 rfl (zfa fa_api_What_2) ?_; refine .y 5 rfl hs Tryz.isAgg3 ?_; refine .z 6 rfl zadd ?_
    obtain ⟨hk1, _, ⟨hw2, hw3⟩, hw1⟩ : q.kind = 1 ∧ q.st = 0 ∧ (0 ≤ q.wa ∧ q.wa ≤ (s.wa.length : Int) - 1) ∧ 0 < q.wa := by omega
    obtain ⟨m, hm⟩ : ∃ m : Nat, q.wa = m := ⟨q.wa.toNat, by omega⟩
    have hmt : q.wa.toNat = m := by omega
    have hP : PlcOk 7 15000 (s.wa.take (m + 1)) := hok.wa.take (by omega) (by omega)
    have hdv : divW q = 648000000 := by unfold divW; rw [if_pos hk1]
    refine .p (i := 7) rfl (by kernel_rfl) .none (q_sliceHX (k := m + 1) rfl rfl Tryz.runUnderlying22 Tryz.sizeOf3 (by omega) (by omega)) ?_
    refine .e1 (i := 8) (by kernel_rfl) rfl rfl .none hs ?_
    refine .call Tryz.call195 rfl (ref01_Grid_spec hs h1 (h2.head (k := m + 1) (by omega)) hok.st hP) ?_; rintro _ w ⟨H1, vo, hle1, rfl, hG, hs⟩
    have hgl := gridP_length (wts s.st) (wts (s.wa.take (m + 1))) s.st.length
    have hyl : (wts (s.wa.take (m + 1))).length = m + 1 := by rw [wts_length, List.length_take]; omega
    have hgr : ∀ i < s.st.length, (gr (gridP (wts s.st) (wts (s.wa.take (m + 1))) s.st.length) i).length = m + 1 := fun i hi => by rw [gridP_gr hi, rowP_length, hyl]
    have hgt : ∀ i < s.st.length, ∀ k ≤ m, gi (gr (gridP (wts s.st) (wts (s.wa.take (m + 1))) s.st.length) i) k = whtW s q i k := fun i hi k hk => by
      have := gridP_gt (X := wts s.st) (Y := wts (s.wa.take (m + 1))) (n := s.st.length) (k := k) hi (by omega)
      unfold gt at this
      rw [this]; unfold whtW; rw [if_pos hk1, if_pos (by omega), hmt]
    have hgz : ∀ i k, m < k → whtW s q i k = 0 := fun i k hk => by unfold whtW; rw [if_pos hk1, if_neg (by omega)]
    generalize gridP (wts s.st) (wts (s.wa.take (m + 1))) s.st.length = G at *
    obtain ⟨aG, cG, rfl⟩ := hG.shape
    refine .go ?_
    refine .z 9 rfl zm ?_; refine .z 10 rfl zex ?_; refine .z 11 rfl zex ?_; refine .z 12 rfl zg ?_; refine .z 13 rfl zg ?_; refine .done (by kernel_rfl) hs ?_
    refine .seq (.regSeq (.z zg (.nil (.block ?_))))
    refine .loop (fun i : Nat => ⟨127, [], [(9, I (i : Int)), (7, .slice aG G.length cG), (6, .slice (some ⟨b20, 0, none⟩) (s.many + 1) (s.many + 1)), (3, .pointer (some ⟨b3, 0, none⟩)), (2, .pointer (some ⟨b2, 0, none⟩))]⟩)
      (fun i w => i ≤ s.st.length ∧ ∃ L, WI s L (fun i' k' => if i' < i then whtW s q i' k' else 0) ∧ St H1 w (.blk b20 (Is L) :: .blk b3 [I q.kind, I q.st, I q.wa] :: .blk b2 [I s.id, I s.src, .slice ast s.st.length cst, .slice awa s.wa.length cwa, I s.al, I s.up] :: σ)) (fun i => s.st.length - i) 0 (.consI rfl (by simp) (by repeat (first | exact .nil rfl rfl | refine .cons rfl ?_)))
      ⟨Nat.zero_le _, L0, hW0.congr fun i k _ _ => by rw [if_neg (by omega)], hs⟩ ?_
    clear hs hW0
    rintro i w ⟨hi, L, hW, hs⟩
    refine .seq (.regSeq (.z zm (.z zm (.z (zlen Tryz.runUnderlying61) (.z zlss (.nil ?_))))))
    refine (.condD rfl (fun hc40 => ?_) (fun hc40 => ?_))
    · refine .skip ?_
      refine nT ?_
      refine .seq (.block (.regSeq (.z zg (.nil (.block ?_)))))
      refine .loop (fun k : Nat => ⟨127, [], [(10, I (k : Int)), (9, I (i : Int)), (7, .slice aG G.length cG), (6, .slice (some ⟨b20, 0, none⟩) (s.many + 1) (s.many + 1)), (3, .pointer (some ⟨b3, 0, none⟩)), (2, .pointer (some ⟨b2, 0, none⟩))]⟩)
        (fun k w => k ≤ m + 1 ∧ ∃ L, WI s L (fun i' k' => if i' < i ∨ (i' = i ∧ k' < k) then whtW s q i' k' else 0) ∧ St H1 w (.blk b20 (Is L) :: .blk b3 [I q.kind, I q.st, I q.wa] :: .blk b2 [I s.id, I s.src, .slice ast s.st.length cst, .slice awa s.wa.length cwa, I s.al, I s.up] :: σ)) (fun k => m + 1 - k) 0 (.consI rfl (by simp) (by repeat (first | exact .nil rfl rfl | refine .cons rfl ?_)))
        ⟨Nat.zero_le _, L, hW.congr fun i' k' _ _ => by
          by_cases e : i' < i
          · rw [if_pos e, if_pos (.inl e)]
          · rw [if_neg e, if_neg (by omega)], hs⟩ ?_
      clear hs hW
      rintro k w ⟨hk, L, hW, hs⟩
      have hWl := hW.len
      have hil : i < s.st.length := by omega
      have hgri := hgr i hil
      refine .seq (.regSeq (.z zm (.z zm (.z zm ?_))))
      refine .ixT hs hG rfl rfl Tryz.runUnderlying61 Tryz.sizeOf22 (show i < _ by omega) (by first | rfl | assumption | omega) ?_; intro b46 o46 a46 c46 hc46 hR46
      refine .q hs (q_loadR rfl Tryz.isAgg22 hc46) ?_
      refine .z (zlen Tryz.runUnderlying22) ?_
      rw [hgri]
      refine .z zlss (.nil ?_)
      refine (.condD rfl (fun hc49 => ?_) (fun hc49 => ?_))
      · refine .skip ?_
        refine nT ?_
        refine .seq (.block ?_)
        refine .draw mix rfl hs ?_; intro w hs
        have hk' : k < m + 1 := by omega
        have hub := u_bd (s := s) (i := i) (k := k) hil (by omega)
        refine .z 0 rfl zm ?_; refine .ys 1 rfl hs [_, _, _, _, _, _] Tryz.isAgg34 Tryz.sizeOf34 ?_; refine .z 2 rfl zm ?_; refine .z 3 rfl zm ?_; refine .z 5 rfl zm ?_; refine .z 6 rfl zm ?_
        refine .ixT (i := 7) hs rfl (by kernel_rfl) .none hG rfl rfl Tryz.runUnderlying61 Tryz.sizeOf22 (show i < _ by omega) (by first | rfl | assumption | omega) ?_; intro b59 o59 a59 c59 hc59 hR59
        refine .r (i := 8) hs rfl (by kernel_rfl) .none (q_loadR rfl Tryz.isAgg22 hc59) ?_
        refine .z 9 rfl zm ?_
        refine .ixX (enc := fun x => [I x]) (i := 10) hs rfl (by kernel_rfl) .none hR59 rfl rfl Tryz.runUnderlying22 Tryz.sizeOf3 (gi_get (l := (gr G i)) (i := k) (by omega)) (by first | rfl | assumption | omega) ?_; intro b62 o62 hc62; replace hc62 := CellsAt.one hc62
        refine .r (i := 11) hs rfl (by kernel_rfl) .none (q_loadR rfl Tryz.isAgg3 hc62) ?_
        refine .e1 (i := 4) (by kernel_rfl) rfl rfl .none hs ?_
        refine .call Tryz.call121 rfl (ref03_number_spec (s := s) hs (h2.mono hle1) (by omega) ⟨by omega, by omega⟩ ⟨by omega, by omega⟩) ?_; rintro _ w ⟨rfl, hs⟩
        rw [u_int]
        refine .go ?_
        refine .p (i := 12) rfl (by kernel_rfl) .none (q_ixO (k := s.u i k) rfl rfl Tryz.runUnderlying22 Tryz.sizeOf3 rfl (by omega)) ?_
        refine .e1 (i := 13) (by kernel_rfl) rfl rfl .none hs ?_
        refine .store hs rfl rfl Tryz.sizeOf3 ?_ (by repeat constructor) (by simp [Is]; omega); intro w hs
        refine .go ?_
        refine .done (by kernel_rfl) hs ?_
        refine nB (nT ?_)
        refine .region (.z zm (.z zadd (.z zg (.nil ?_))))
        refine nT ?_
        exact ⟨k + 1, .consI rfl (by simp) (by repeat (first | exact .nil rfl rfl | refine .cons rfl ?_)), ⟨by omega, _, (hW.set hil (by omega) _).congr fun i' k' _ _ => by
          rw [hgt i hil k (by omega)]
          by_cases e : i' = i ∧ k' = k
          · obtain ⟨rfl, rfl⟩ := e
            rw [if_pos ⟨rfl, rfl⟩, if_pos (.inr ⟨rfl, by omega⟩)]
          · rw [if_neg e]
            by_cases e2 : i' < i ∨ (i' = i ∧ k' < k)
            · rw [if_pos e2, if_pos (by omega)]
            · rw [if_neg e2, if_neg (by omega)], hs⟩, by omega⟩
      · refine .exit ?_
        refine xT (xT (xB (nB (nT ?_))))
        refine .region (.z zm (.z zadd (.z zg (.nil ?_))))
        refine nT ?_
        exact ⟨i + 1, .consI rfl (by simp) (by repeat (first | exact .nil rfl rfl | refine .cons rfl ?_)), ⟨by omega, L, hW.congr fun i' k' _ _ => by
          by_cases e : i' < i + 1
          · rw [if_pos e]
            by_cases e2 : i' < i ∨ (i' = i ∧ k' < k)
            · rw [if_pos e2]
            · rw [if_neg e2, hgz i' k' (by omega)]
          · rw [if_neg e, if_neg (by omega)], hs⟩, by omega⟩
    · refine .exit ?_
      refine xT (xT (xB (nT ?_)))
      refine .regSeq (.z zm (.z zg (.z zg (.nil ?_))))
      refine .ret (rB (rT (Fin.ret2 Tryz.results113 rfl rfl ?_)))
      obtain rfl := (hW.congr (g := whtW s q) fun i' k' hi' _ => by rw [if_pos (by omega)]).fin
      rw [← hdv]
      exact ⟨H1, _, _, hle1, rfl, .full (by simp [Is, hlen]), hs.sub (by repeat (first | exact Sub.refl _ | constructor | apply Sub.weaken))⟩
  · refine .regSeq (.z zeql (.z zg (.nil ?_)))
    refine (.condD rfl (fun hc66 => ?_) (fun hc66 => ?_))
    · refine .regSeq (.z (zfa fa_api_Space_2) (.y hs (zld Tryz.isAgg22) ?_))
      have hk1 : q.kind = 2 := by omega
      obtain ⟨m, hm⟩ : ∃ m : Nat, q.wa = m := ⟨q.wa.toNat, by omega⟩
      have hdv : divW q = 180000 := by unfold divW; rw [if_neg (by omega), if_pos (by omega)]
      have hl := wts_length s.st
      have hwt : ∀ i k, whtW s q i k = if k = m then gi (wts s.st) i else 0 := fun i k => by
        unfold whtW; rw [if_neg (by omega), if_pos hk1]
        by_cases e : k = m
        · rw [if_pos e, if_pos (by omega)]
        · rw [if_neg e, if_neg (by omega)]
      refine .o (.call Tryz.call196 rfl (ref01_Weights_spec hs h1 hok.st) ?_); rintro _ w ⟨H1, vo, hle1, rfl, hX, hs⟩
      obtain ⟨aX, cX, rfl⟩ := RI.shape hX
      rw [hl]
      refine .z zm (.z zex (.z zex (.z zg (.z zg (.nil (.seq (.regSeq (.z zg (.nil ?_)))))))))
      refine .block ?_
      refine .loop (fun i : Nat => ⟨127, [], [(13, I (i : Int)), (11, .slice aX s.st.length cX), (6, .slice (some ⟨b20, 0, none⟩) (s.many + 1) (s.many + 1)), (3, .pointer (some ⟨b3, 0, none⟩)), (2, .pointer (some ⟨b2, 0, none⟩))]⟩)
        (fun i w => i ≤ s.st.length ∧ ∃ L, WI s L (fun i' k' => if i' < i then whtW s q i' k' else 0) ∧ St H1 w (.blk b20 (Is L) :: .blk b3 [I q.kind, I q.st, I q.wa] :: .blk b2 [I s.id, I s.src, .slice ast s.st.length cst, .slice awa s.wa.length cwa, I s.al, I s.up] :: σ)) (fun i => s.st.length - i) 0 (.consI rfl (by simp) (by repeat (first | exact .nil rfl rfl | refine .cons rfl ?_)))
        ⟨Nat.zero_le _, L0, hW0.congr fun i k _ _ => by rw [if_neg (by omega)], hs⟩ ?_
      clear hs hW0
      rintro i w ⟨hi, L, hW, hs⟩
      have hWl := hW.len
      rw [hl] at hX
      refine .seq (.regSeq (.z zm (.z zm (.z (zlen Tryz.runUnderlying22) (.z zlss (.nil ?_))))))
      refine (.condD rfl (fun hc77 => ?_) (fun hc77 => ?_))
      · refine .skip ?_
        refine nT ?_
        refine .seq (.block ?_)
        refine .draw mix rfl hs ?_; intro w hs
        refine .z 0 rfl zm ?_; refine .ys 1 rfl hs [_, _, _, _, _, _] Tryz.isAgg34 Tryz.sizeOf34 ?_; refine .z 2 rfl zm ?_; refine .z 3 rfl (zfa fa_api_What_2) ?_; refine .y 4 rfl hs Tryz.isAgg3 ?_; refine .z 6 rfl zm ?_; refine .z 7 rfl zm ?_
        refine .ixX (enc := fun x => [I x]) (i := 8) hs rfl (by kernel_rfl) .none (by rw [hl] at *; exact hX) rfl rfl Tryz.runUnderlying22 Tryz.sizeOf3 (gi_get (l := wts s.st) (i := i) (by omega)) (by first | rfl | assumption | omega) ?_; intro b88 o88 hc88; replace hc88 := CellsAt.one hc88
        refine .y 9 rfl hs Tryz.isAgg3 ?_
        refine .e1 (i := 5) (by kernel_rfl) rfl rfl .none hs ?_
        have hil : i < s.st.length := by omega
        have hub := u_bd (s := s) (i := i) (k := m) hil (by omega)
        refine .call Tryz.call121 rfl (ref03_number_spec (s := s) hs (h2.mono hle1) (by omega) ⟨by omega, by omega⟩ ⟨by omega, by omega⟩) ?_; rintro _ w ⟨rfl, hs⟩
        rw [show 1 + (i : Int) * (s.wa.length : Int) + q.wa = (s.u i m : Int) by rw [hm, u_int]]
        refine .go ?_
        refine .p (i := 10) rfl (by kernel_rfl) .none (q_ixO (k := s.u i m) rfl rfl Tryz.runUnderlying22 Tryz.sizeOf3 rfl (by omega)) ?_
        refine .e1 (i := 11) (by kernel_rfl) rfl rfl .none hs ?_
        refine .store hs rfl rfl Tryz.sizeOf3 ?_ (by repeat constructor) (by simp [Is]; omega); intro w hs
        refine .go ?_
        refine .done (by kernel_rfl) hs ?_
        refine nB (nT ?_)
        refine .region (.z zm (.z zadd (.z zg (.nil ?_))))
        refine nT ?_
        exact ⟨i + 1, .consI rfl (by simp) (by repeat (first | exact .nil rfl rfl | refine .cons rfl ?_)), ⟨by omega, _, (hW.set hil (show m < s.wa.length by omega) _).congr fun i' k' _ _ => by
          rw [hwt i' k']
          by_cases e : i' = i ∧ k' = m
          · obtain ⟨rfl, rfl⟩ := e
            rw [if_pos ⟨rfl, rfl⟩, if_pos (Nat.lt_succ_self _), if_pos rfl]
          · rw [if_neg e]
            by_cases e2 : i' < i
            · rw [if_pos e2, if_pos (show i' < i + 1 by omega)]
            · rw [if_neg e2]
              by_cases e3 : i' < i + 1
              · rw [if_pos e3, if_neg (show ¬ k' = m by omega)]
              · rw [if_neg e3], hs⟩, by omega⟩
      · refine .exit ?_
        refine xT (xT (xB (nT ?_)))
        refine .regSeq (.z zm (.z zg (.z zg (.nil ?_))))
        refine .ret (rB (rT (Fin.ret2 Tryz.results113 rfl rfl ?_)))
        obtain rfl := (hW.congr (g := whtW s q) fun i' k' hi' _ => by rw [if_pos (by omega)]).fin
        rw [← hdv]
        exact ⟨H1, _, _, hle1, rfl, .full (by simp [Is, hlen]), hs.sub (by repeat (first | exact Sub.refl _ | constructor | apply Sub.weaken))⟩
    · refine .regSeq (.z zeql (.z zg (.nil ?_)))
      refine (.condD rfl (fun hc92 => ?_) (fun hc92 => ?_))
      · refine .regSeq (.z (zfa fa_api_Space_3) (.y hs (zld Tryz.isAgg22) ?_))
        have hk1 : q.kind = 3 := by omega
        obtain ⟨m, hm⟩ : ∃ m : Nat, q.st = m := ⟨q.st.toNat, by omega⟩
        have hdv : divW q = 180000 := by unfold divW; rw [if_neg (by omega), if_pos (by omega)]
        have hl := wts_length s.wa
        have hwt : ∀ i k, whtW s q i k = if i = m then gi (wts s.wa) k else 0 := fun i k => by
          unfold whtW; rw [if_neg (by omega), if_neg (by omega), if_pos hk1]
          by_cases e : i = m
          · rw [if_pos e, if_pos (by omega)]
          · rw [if_neg e, if_neg (by omega)]
        refine .o (.call Tryz.call196 rfl (ref01_Weights_spec hs h2 (spc_wa9 hok)) ?_); rintro _ w ⟨H1, vo, hle1, rfl, hX, hs⟩
        obtain ⟨aX, cX, rfl⟩ := RI.shape hX
        rw [hl]
        refine .z zm (.z zex (.z zex (.z zg (.z zg (.nil (.seq (.regSeq (.z zg (.nil ?_)))))))))
        refine .block ?_
        refine .loop (fun k : Nat => ⟨127, [], [(16, I (k : Int)), (14, .slice aX s.wa.length cX), (6, .slice (some ⟨b20, 0, none⟩) (s.many + 1) (s.many + 1)), (3, .pointer (some ⟨b3, 0, none⟩)), (2, .pointer (some ⟨b2, 0, none⟩))]⟩)
          (fun k w => k ≤ s.wa.length ∧ ∃ L, WI s L (fun i' k' => if k' < k then whtW s q i' k' else 0) ∧ St H1 w (.blk b20 (Is L) :: .blk b3 [I q.kind, I q.st, I q.wa] :: .blk b2 [I s.id, I s.src, .slice ast s.st.length cst, .slice awa s.wa.length cwa, I s.al, I s.up] :: σ)) (fun k => s.wa.length - k) 0 (.consI rfl (by simp) (by repeat (first | exact .nil rfl rfl | refine .cons rfl ?_)))
          ⟨Nat.zero_le _, L0, hW0.congr fun i k _ _ => by rw [if_neg (by omega)], hs⟩ ?_
        clear hs hW0
        rintro k w ⟨hi, L, hW, hs⟩
        have hWl := hW.len
        rw [hl] at hX
        refine .seq (.regSeq (.z zm (.z zm (.z (zlen Tryz.runUnderlying22) (.z zlss (.nil ?_))))))
        refine (.condD rfl (fun hc103 => ?_) (fun hc103 => ?_))
        · refine .skip ?_
          refine nT ?_
          refine .seq (.block ?_)
          refine .draw mix rfl hs ?_; intro w hs
          refine .z 0 rfl zm ?_; refine .ys 1 rfl hs [_, _, _, _, _, _] Tryz.isAgg34 Tryz.sizeOf34 ?_; refine .z 2 rfl (zfa fa_api_What_1) ?_; refine .y 3 rfl hs Tryz.isAgg3 ?_; refine .z 4 rfl zm ?_; refine .z 6 rfl zm ?_; refine .z 7 rfl zm ?_
          refine .ixX (enc := fun x => [I x]) (i := 8) hs rfl (by kernel_rfl) .none (by rw [hl] at *; exact hX) rfl rfl Tryz.runUnderlying22 Tryz.sizeOf3 (gi_get (l := wts s.wa) (i := k) (by omega)) (by first | rfl | assumption | omega) ?_; intro b114 o114 hc114; replace hc114 := CellsAt.one hc114
          refine .y 9 rfl hs Tryz.isAgg3 ?_
          refine .e1 (i := 5) (by kernel_rfl) rfl rfl .none hs ?_
          have hil : k < s.wa.length := by omega
          have hub := u_bd (s := s) (i := m) (k := k) (by omega) hil
          refine .call Tryz.call121 rfl (ref03_number_spec (s := s) hs (h2.mono hle1) (by omega) ⟨by omega, by omega⟩ ⟨by omega, by omega⟩) ?_; rintro _ w ⟨rfl, hs⟩
          rw [show 1 + q.st * (s.wa.length : Int) + (k : Int) = (s.u m k : Int) by rw [hm, u_int]]
          refine .go ?_
          refine .p (i := 10) rfl (by kernel_rfl) .none (q_ixO (k := s.u m k) rfl rfl Tryz.runUnderlying22 Tryz.sizeOf3 rfl (by omega)) ?_
          refine .e1 (i := 11) (by kernel_rfl) rfl rfl .none hs ?_
          refine .store hs rfl rfl Tryz.sizeOf3 ?_ (by repeat constructor) (by simp [Is]; omega); intro w hs
          refine .go ?_
          refine .done (by kernel_rfl) hs ?_
          refine nB (nT ?_)
          refine .region (.z zm (.z zadd (.z zg (.nil ?_))))
          refine nT ?_
          exact ⟨k + 1, .consI rfl (by simp) (by repeat (first | exact .nil rfl rfl | refine .cons rfl ?_)), ⟨by omega, _, (hW.set (show m < s.st.length by omega) hil _).congr fun i' k' _ _ => by
            rw [hwt i' k']
            by_cases e : i' = m ∧ k' = k
            · obtain ⟨rfl, rfl⟩ := e
              rw [if_pos ⟨rfl, rfl⟩, if_pos (Nat.lt_succ_self _), if_pos rfl]
            · rw [if_neg e]
              by_cases e2 : k' < k
              · rw [if_pos e2, if_pos (show k' < k + 1 by omega)]
              · rw [if_neg e2]
                by_cases e3 : k' < k + 1
                · rw [if_pos e3, if_neg (show ¬ i' = m by omega)]
                · rw [if_neg e3], hs⟩, by omega⟩
        · refine .exit ?_
          refine xT (xT (xB (nT ?_)))
          refine .regSeq (.z zm (.z zg (.z zg (.nil ?_))))
          refine .ret (rB (rT (Fin.ret2 Tryz.results113 rfl rfl ?_)))
          obtain rfl := (hW.congr (g := whtW s q) fun i' k' _ hk' => by rw [if_pos (by omega)]).fin
          rw [← hdv]
          exact ⟨H1, _, _, hle1, rfl, .full (by simp [Is, hlen]), hs.sub (by repeat (first | exact Sub.refl _ | constructor | apply Sub.weaken))⟩
      · refine .skip ?_
        refine nB (nT ?_)
        refine .regSeq (.z zm (.y hs (zls [_, _, _, _, _, _] Tryz.isAgg34 Tryz.sizeOf34) (.z (zfa fa_api_What_1) (.y hs (zld Tryz.isAgg3) (.z (zfa fa_api_What_2) (.y hs (zld Tryz.isAgg3) ?_))))))
        have hk1 : q.kind = 4 := by omega
        obtain ⟨m, hm⟩ : ∃ m : Nat, q.st = m := ⟨q.st.toNat, by omega⟩
        obtain ⟨c, hc⟩ : ∃ c : Nat, q.wa = c := ⟨q.wa.toNat, by omega⟩
        have hdv : divW q = 1 := by unfold divW; rw [if_neg (by omega), if_neg (by omega)]
        have hub := u_bd (s := s) (i := m) (k := c) (by omega) (by omega)
        have hWl := hW0.len
        refine .o (.call Tryz.call121 rfl (ref03_number_spec (s := s) hs h2 (by omega) ⟨by omega, by omega⟩ ⟨by omega, by omega⟩) ?_); rintro _ w ⟨rfl, hs⟩
        rw [hm, hc, u_int]
        refine .q hs (q_ixO (k := s.u m c) rfl rfl Tryz.runUnderlying22 Tryz.sizeOf3 rfl (by omega)) ?_
        refine .o (.store hs rfl rfl Tryz.sizeOf3 ?_ (by repeat constructor) (by simp [Is]; omega)); intro w hs
        refine .nil (.regSeq (.z zm (.z zg (.z zg (.nil ?_)))))
        refine .ret (Fin.ret2 Tryz.results113 rfl rfl ?_)
        have hfin := ((hW0.set (show m < s.st.length by omega) (show c < s.wa.length by omega) 1).congr (g := whtW s q) fun i' k' _ _ => by
          unfold whtW
          rw [if_neg (show ¬ q.kind = 1 by omega), if_neg (show ¬ q.kind = 2 by omega), if_neg (show ¬ q.kind = 3 by omega)]
          by_cases e : i' = m ∧ k' = c
          · rw [if_pos e, if_pos (by omega)]
          · rw [if_neg e, if_neg (by omega)]).fin
        rw [hfin] at hs
        rw [← hdv]
        exact ⟨H, _, _, HLe.refl H, rfl, .full (by simp [Is, hlen]), hs.sub (by repeat (first | exact Sub.refl _ | constructor | apply Sub.weaken))⟩
end Go.Proofs.YtddaejgfjlneoaaGreat

namespace Go.Proofs.YtddaejgfjlneoaaGreat
open Go.MW
inductive WtsR (s : Spc) (q : Wht) : List Int → Int → Int → Prop
  | space (h : ¬ SpcOk s) : WtsR s q [] 0 30
  | what (h : SpcOk s) (h1 : ¬ WhtOk s q) : WtsR s q [] 0 33
  | ok (h : SpcOk s) (h1 : WhtOk s q) : WtsR s q (whtL s q) (divW q) 0
theorem WtsR.uniq {s : Spc} {q : Wht} {a b : List Int} {d f e g : Int} (h : WtsR s q a d e) (k : WtsR s q b f g) : a = b ∧ d = f ∧ e = g := by
  cases h <;> cases k <;> first | exact ⟨rfl, rfl, rfl⟩ | contradiction
theorem offsets_Weights_spec {H : Heap} {w : World} {σ : List Ent} {s : Spc} {q : Wht} {vst vwa : Value} (hs : St H w σ) (h1 : RI H vst s.st) (h2 : RI H vwa s.wa) :
    Cl Tryz.prog 44 [.agg #[I s.id, I s.src, vst, vwa, I s.al, I s.up], .agg #[I q.kind, I q.st, I q.wa]] w fun u w' => ∃ H1 vl L d e, HLe H H1 ∧ u = .tuple #[vl, I d, I e] ∧ RI H1 vl L ∧ WtsR s q L d e ∧ St H1 w' σ := by
  refine Cl.of Tryz.func44 rfl Tryz.ntmps44 (by simp) (args_cons (k := 0) rfl (args_cons (k := 1) rfl (args0))) ?_
  refine .regSeq ?_
  refine .o (.box hs rfl rfl ?_); intro b2 w hs
  refine .o (.box hs rfl rfl ?_); intro b3 w hs
  refine .z zg (.z zg (.z zg (.nil (.seq (.regSeq (.y hs (zls [_, _, _, _, _, _] Tryz.isAgg34 Tryz.sizeOf34) ?_))))))
  refine .o (.call Tryz.call41 rfl (offsets_CheckSpace_spec (s := s) hs h1 h2) ?_); rintro _ w ⟨H1, e, hle1, rfl, he, hs⟩
  refine .z zg (.nil (.regSeq (.z zm (.z zneq (.nil ?_)))))
  refine (.condN rfl (fun hc14 => ?_) (fun hc14 => ?_))
  · refine .regSeq (.z zm (.z zg (.z zg (.z zg (.nil ?_)))))
    refine .ret (rT (Fin.ret3 Tryz.results44 rfl rfl rfl ?_))
    have hq : ¬ SpcOk s ∧ e = 30 := he.resolve_left fun h => hc14 h.2
    exact ⟨H1, _, [], _, _, hle1, rfl, RS.nil H1 1 none 0, by rw [hq.2]; exact .space hq.1, hs.out⟩
  · refine .skip ?_
    refine nT ?_
    refine .regSeq (.y hs (zls [_, _, _, _, _, _] Tryz.isAgg34 Tryz.sizeOf34) (.y hs (zls [_, _, _] Tryz.isAgg29 Tryz.sizeOf29) ?_))
    have hok : SpcOk s := (he.resolve_right fun h => by omega).1
    refine .o (.call Tryz.call102 rfl (offsets_weights_spec (s := s) (q := q) hs (h1.mono hle1) (h2.mono hle1) hok) ?_); rintro _ w ⟨H2, vl, L, d, b, en, hle2, rfl, hO, hcase, hs⟩
    refine .z zm (.z zex (.z zex (.z zex (.z zg (.z zg (.z zg (.nil (.seq (.regSeq ?_)))))))))
    refine .z zm (.z znot (.nil ?_))
    refine (.cond rfl (fun hc24 => ?_) (fun hc24 => ?_))
    · refine .regSeq (.z zg (.z zg (.z zg (.nil ?_))))
      refine .ret (rT (Fin.ret3 Tryz.results44 rfl rfl rfl ?_))
      have hq : ¬ WhtOk s q := by
        rcases hcase with ⟨g, _⟩ | ⟨_, g, _⟩
        · subst g; cases hc24
        · exact g
      exact ⟨H2, _, [], _, _, hle1.trans hle2, rfl, RS.nil H2 1 none 0, .what hok hq, hs.out⟩
    · refine .skip ?_
      refine nT ?_
      refine .regSeq (.z zm (.z zm (.z zg (.z zg (.z zg (.nil ?_))))))
      refine .ret (Fin.ret3 Tryz.results44 rfl rfl rfl ?_)
      obtain ⟨rfl, hq, rfl, rfl⟩ : b = true ∧ WhtOk s q ∧ L = whtL s q ∧ d = divW q := hcase.resolve_right fun h => by rw [h.1] at hc24; cases hc24
      have hsm := spc_small hok
      obtain ⟨H3, hle3, hR, hs⟩ := OwnS.publishI hO (by rw [whtL_length]; omega) hs (by repeat constructor)
      exact ⟨H3, _, _, _, _, hle1.trans (hle2.trans hle3), rfl, hR, .ok hok hq, hs.out⟩
theorem ref03_Weights_spec {H : Heap} {w : World} {σ : List Ent} {s : Spc} {q : Wht} {vst vwa : Value} (hs : St H w σ) (h1 : RI H vst s.st) (h2 : RI H vwa s.wa) :
    Cl Tryz.prog 45 [.agg #[I s.id, I s.src, vst, vwa, I s.al, I s.up], .agg #[I q.kind, I q.st, I q.wa]] w fun u w' => ∃ H1 vl L d e, HLe H H1 ∧ u = .tuple #[vl, I d, I e] ∧ RI H1 vl L ∧ WtsR s q L d e ∧ St H1 w' σ := by
  refine Cl.of Tryz.func45 rfl Tryz.ntmps45 (by simp) (args_cons (k := 0) rfl (args_cons (k := 1) rfl (args0))) ?_
  refine .regSeq ?_
  refine .o (.box hs rfl rfl ?_); intro b2 w hs
  refine .o (.box hs rfl rfl ?_); intro b3 w hs
  refine .z zg (.z zg (.z zg (.nil (.seq (.regSeq (.y hs (zls [_, _, _, _, _, _] Tryz.isAgg34 Tryz.sizeOf34) ?_))))))
  refine .o (.call Tryz.call24 rfl (ref03_CheckSpace_spec (s := s) hs h1 h2) ?_); rintro _ w ⟨e, rfl, he, hs⟩
  refine .z zneq (.nil ?_)
  refine (.condN rfl (fun hc11 => ?_) (fun hc11 => ?_))
  · refine .regSeq (.z zg (.z zg (.z zg (.nil ?_))))
    refine .ret (rT (Fin.ret3 Tryz.results45 rfl rfl rfl ?_))
    have hq : ¬ SpcOk s ∧ e = 30 := he.resolve_left fun h => hc11 h.2
    exact ⟨H, _, [], _, _, HLe.refl H, rfl, RS.nil H 1 none 0, .space hq.1, hs.out⟩
  · refine .skip ?_
    refine nT ?_
    refine .seq (.regSeq (.y hs (zls [_, _, _, _, _, _] Tryz.isAgg34 Tryz.sizeOf34) (.y hs (zls [_, _, _] Tryz.isAgg29 Tryz.sizeOf29) ?_)))
    have hok : SpcOk s := (he.resolve_right fun h => by omega).1
    refine .o (.call Tryz.call112 rfl (ref03_isWhat_spec (s := s) (q := q) hs h1 h2) ?_); rintro _ w ⟨b, rfl, hb, hs⟩
    refine .z znot (.nil ?_)
    refine (.cond rfl (fun hc15 => ?_) (fun hc15 => ?_))
    · refine .regSeq (.z zg (.z zg (.z zg (.nil ?_))))
      refine .ret (rT (Fin.ret3 Tryz.results45 rfl rfl rfl ?_))
      exact ⟨H, _, [], _, _, HLe.refl H, rfl, RS.nil H 1 none 0, .what hok (fun h => by rw [hb.2 h] at hc15; cases hc15), hs.out⟩
    · refine .skip ?_
      refine nT ?_
      refine .regSeq (.y hs (zls [_, _, _, _, _, _] Tryz.isAgg34 Tryz.sizeOf34) (.y hs (zls [_, _, _] Tryz.isAgg29 Tryz.sizeOf29) ?_))
      have hq : WhtOk s q := hb.1 (by simpa using hc15)
      have hsm := spc_small hok
      refine .o (.call Tryz.call113 rfl (ref03_weights_own (s := s) (q := q) hs h1 h2 hok hq) ?_); rintro _ w ⟨H2, vl, en, hle2, rfl, hO, hs⟩
      refine .z zm (.z zex (.z zex (.z zg (.z zg (.nil (.regSeq (.z zm (.z zm (.z zg ?_)))))))))
      refine .z zg (.z zg (.nil ?_))
      refine .ret (Fin.ret3 Tryz.results45 rfl rfl rfl ?_)
      obtain ⟨H3, hle3, hR, hs⟩ := OwnS.publishI hO (by rw [whtL_length]; omega) hs (by repeat constructor)
      exact ⟨H3, _, _, _, _, hle2.trans hle3, rfl, hR, .ok hok hq, hs.out⟩
set_option maxHeartbeats 1000000 in
theorem law_FormWeights_walk {H : Heap} {w : World} {σ : List Ent} {cs : List Value} {s : Spc} {q : Wht} (hs : St H w σ) (hr : RSpc H cs s) :
    Cl Tryz.prog 8 [.agg cs.toArray, .agg #[I q.kind, I q.st, I q.wa]] w fun v w' => v = .bool true ∧ ∃ H', HLe H H' ∧ St H' w' σ := by
  obtain ⟨vst, vwa, rfl, h1, h2⟩ := hr
  refine Cl.of Tryz.func8 rfl Tryz.ntmps8 (by simp) (args_cons (k := 0) rfl (args_cons (k := 1) rfl (args0))) ?_
  refine .regSeq ?_
  refine .o (.box hs rfl rfl ?_); intro b2 w hs
  refine .o (.box hs rfl rfl ?_); intro b3 w hs
  refine .z zg (.nil (.regSeq ?_))
  refine .o (.call Tryz.call22 rfl (law03_sane_spec hs) ?_); rintro _ w ⟨rfl, H1, hle1, hs⟩
  replace h1 := h1.mono hle1
  replace h2 := h2.mono hle1
  refine .z zg (.nil (.regSeq (.y hs (zls [_, _, _, _, _, _] Tryz.isAgg34 Tryz.sizeOf34) (.y hs (zls [_, _, _] Tryz.isAgg29 Tryz.sizeOf29) ?_))))
  refine .o (.call Tryz.call44 rfl (offsets_Weights_spec (s := s) (q := q) hs h1 h2) ?_); rintro _ w ⟨H2, vl, L, d, e, hle2, rfl, hL, hW, hs⟩
  have hle02 := hle1.trans hle2
  replace h1 := h1.mono hle2
  replace h2 := h2.mono hle2
  refine .z zm (.z zex (.z zex (.z zex (.z zg (.z zg (.z zg (.nil (.regSeq (.y hs (zls [_, _, _, _, _, _] Tryz.isAgg34 Tryz.sizeOf34) ?_)))))))))
  refine .y hs (zls [_, _, _] Tryz.isAgg29 Tryz.sizeOf29) ?_
  refine .o (.call Tryz.call45 rfl (ref03_Weights_spec (s := s) (q := q) hs h1 h2) ?_); rintro _ w ⟨H3, vl', L', d', e', hle3, rfl, hL', hW', hs⟩
  obtain ⟨rfl, rfl, rfl⟩ := hW.uniq hW'
  refine .z zm (.z zex (.z zex (.z zex (.z zg (.z zg (.z zg (.nil (.regSeq (.z zm ?_)))))))))
  refine .z zm ?_
  refine .o (.call Tryz.call34 rfl (ref03_SameInts_spec hs (hL.mono hle3) hL') ?_); rintro _ w ⟨rfl, hs⟩
  refine .z zg (.nil (.regSeq (.z zm (.z zm ?_))))
  refine .bif (t' := 32) rfl (fun hb32 => ?_) (fun hb32 => ?_)
  · refine .gT rfl rfl ?_
    refine .z zm (.z zpT (.z zm ?_))
    refine .bif (t' := 35) rfl (fun hb35 => ?_) (fun hb35 => ?_)
    · refine .gT rfl rfl ?_
      refine .z zm ?_
      refine .gT rfl rfl ?_
      refine .z zm ?_
      refine .gT rfl rfl ?_
      refine .z zeql (.z zpT (.z zm ?_))
      refine .bifD (t' := 40) rfl (fun hb40 => ?_) (fun hb40 => ?_)
      · refine .gT rfl rfl ?_
        refine .z zm ?_
        refine .gT rfl rfl ?_
        refine .z zm ?_
        refine .gT rfl rfl ?_
        refine .z zeql (.z zpT (.z zg (.nil ?_)))
        refine .ret (Fin.ret1 Tryz.results8 rfl ?_)
        exact ⟨by simp, H3, hle02.trans hle3, hs.out⟩
      · refine .gFs 3 9 true rfl rfl rfl ?_
        refine .z zpF (.z zg (.nil ?_))
        refine .ret (Fin.ret1 Tryz.results8 rfl ?_)
        exact (hb40 rfl).elim
    · refine .gFs 3 4 true rfl rfl rfl ?_
      refine .z zpF (.z zm ?_)
      refine .gFs 3 9 true rfl rfl rfl ?_
      refine .z zpF (.z zg (.nil ?_))
      refine .ret (Fin.ret1 Tryz.results8 rfl ?_)
      simp at hb35
  · refine .gFs 1 1 true rfl rfl rfl ?_
    refine .z zpF (.z zm ?_)
    refine .gFs 3 4 true rfl rfl rfl ?_
    refine .z zpF (.z zm ?_)
    refine .gFs 3 9 true rfl rfl rfl ?_
    refine .z zpF (.z zg (.nil ?_))
    refine .ret (Fin.ret1 Tryz.results8 rfl ?_)
    cases hb32
end Go.Proofs.YtddaejgfjlneoaaGreat
