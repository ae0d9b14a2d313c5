/-
  Texts of these claims, joined: Zn Zo Zp Zq Zr Zs.
-/
import Derived.Test.YtddaejgfjlneoaaGreatAe
namespace Go.Proofs.YtddaejgfjlneoaaGreat
open Go.MW
theorem offsets_down_spec {H : Heap} {w : World} {σ : List Ent} {a d : Int} (hs : St H w σ) (hd : 1 ≤ d) (ha : -4608000000000000000 ≤ a ∧ a ≤ 4608000000000000000) :
    Cl Tryz.prog 86 [I a, I d] w fun v w' => v = I (a / d) ∧ St H w' σ := by
  have hq : -4608000000000000000 ≤ a.tdiv d ∧ a.tdiv d ≤ 4608000000000000000 := by
    have h1 := floor_eq (n := a) (d := d) (by omega)
    have h2 : a / d ≤ 4608000000000000000 := Int.ediv_le_of_le_mul (by omega) (by
      have := Int.mul_le_mul_of_nonneg_left hd (show (0 : Int) ≤ 4608000000000000000 by omega); omega)
    have h3 : -4608000000000000000 ≤ a / d := Int.le_ediv_of_mul_le (by omega) (by
      have := Int.mul_le_mul_of_nonneg_left hd (show (0 : Int) ≤ 4608000000000000000 by omega); omega)
    by_cases h0 : 0 ≤ a
    · rw [Int.tdiv_eq_ediv_of_nonneg h0]; omega
    · split at h1
      · have : a / d < 0 := Int.ediv_neg_of_neg_of_pos (by omega) (by omega)
        omega
      · omega
  have hfl := floor_eq (n := a) (d := d) (by omega)
  refine Cl.of Tryz.func86 rfl Tryz.ntmps86 (by simp) (args_cons (k := 0) rfl (args_cons (k := 1) rfl (args0))) ?_
  refine .regSeq (.z zg (.nil (.regSeq (.z zm (.z zm ?_)))))
  refine .q hs (q_quoF rfl rfl (by omega) ⟨by omega, by omega⟩) ?_
  refine .z zg (.nil (.seq (.regSeq (.z zm (.z zm (.z zrem (.z zlss (.nil ?_))))))))
  refine (.condD rfl (fun hc12 => ?_) (fun hc12 => ?_))
  · refine .region (.z zm (.z zsub (.z zg (.nil ?_))))
    refine nT ?_
    refine .regSeq (.z zm (.z zg (.nil ?_)))
    refine .ret (Fin.ret1 Tryz.results86 rfl ?_)
    rw [if_pos hc12] at hfl
    exact ⟨by rw [hfl], hs⟩
  · refine .skip ?_
    refine nT ?_
    refine .regSeq (.z zm (.z zg (.nil ?_)))
    refine .ret (Fin.ret1 Tryz.results86 rfl ?_)
    rw [if_neg hc12, Int.sub_zero] at hfl
    exact ⟨by rw [hfl], hs⟩
theorem offsets_isTrue_spec {H : Heap} {w : World} {σ : List Ent} {s : Srv} {vst vwa vr vc : Value} (hs : St H w σ) (h1 : RI H vst s.sp.st) (h2 : RI H vwa s.sp.wa) (h3 : RRd H vr s.rs) (h4 : RCm H vc s.cs) (hok : SrvOk s) :
    Cl Tryz.prog 169 [.agg #[I s.sp.id, I s.sp.src, vst, vwa, I s.sp.al, I s.sp.up, vr, vc]] w fun u w' => ∃ H1, ∃ b : Bool, HLe H H1 ∧ u = .bool b ∧ (b = true ↔ s.sys.Sound) ∧ St H1 w' σ := by
  refine Cl.of Tryz.func169 rfl Tryz.ntmps169 (by simp) (args_cons (k := 0) rfl (args0)) ?_
  refine .regSeq ?_
  refine .o (.box hs rfl rfl ?_); intro b1 w hs
  refine .z zg (.nil (.regSeq (.y hs (zls [_, _, _, _, _, _, _, _] Tryz.isAgg38 Tryz.sizeOf38) ?_)))
  refine .o (.call Tryz.call92 rfl (offsets_system_spec (s := s) hs h1 h2 h3 h4 hok.early) ?_); rintro v7 w ⟨H1, hle1, hS, hs⟩
  refine .o (.call Tryz.call51 rfl (bound_Cycle_spec (s := s.sys) hs hS) ?_); rintro _ w ⟨H2, vx, xs, e, hle2, rfl, rx, hC, hs⟩
  obtain ⟨ax, cx, rfl⟩ := RI.shape rx
  have hchk : s.sys.check = 0 := s.sys.ok_iff.2 hok.sys
  obtain rfl : e = 0 := by
    cases hC with
    | bad h => exact (h hchk).elim
    | sound => rfl
    | chain => rfl
  have hiff := hC.sound_iff
  refine .z zm (.z zex (.z zex (.z zg (.z zg (.nil (.regSeq (.z zm (.z zeql (.z zm ?_)))))))))
  refine .bifD (t' := 13) rfl (fun hb13 => ?_) (fun hb13 => ?_)
  · refine .gT rfl rfl ?_
    refine .z zm ?_
    refine .gT rfl rfl ?_
    refine .z (zlen Tryz.runUnderlying22) ?_
    refine .gT rfl rfl ?_
    refine .z zeql (.z zpT (.z zg (.nil ?_)))
    refine .ret (Fin.ret1 Tryz.results169 rfl ?_)
    first
    | exact ⟨H2, _, hle1.trans hle2, rfl, by rw [← hiff, decide_eq_true_eq]; exact ⟨fun h => List.length_eq_zero_iff.1 (by omega), fun h => by rw [h]; rfl⟩, hs.out⟩
    | exact (hb13 rfl).elim
  · refine .gFs 3 2 true rfl rfl rfl ?_
    refine .z zpF (.z zg (.nil ?_))
    refine .ret (Fin.ret1 Tryz.results169 rfl ?_)
    first
    | exact ⟨H2, _, hle1.trans hle2, rfl, by rw [← hiff, decide_eq_true_eq]; exact ⟨fun h => List.length_eq_zero_iff.1 (by omega), fun h => by rw [h]; rfl⟩, hs.out⟩
    | exact (hb13 rfl).elim
theorem app_zero (L : List Int) (j : Nat) : L ++ List.replicate j 0 ++ [0] = L ++ List.replicate (j + 1) 0 := by
  rw [List.append_assoc, ← List.replicate_succ']
set_option maxHeartbeats 1000000 in
theorem offsets_ask_spec {H : Heap} {w : World} {σ : List Ent} {s : Srv} {q : Wht} {vst vwa vr vc : Value} (hs : St H w σ) (h1 : RI H vst s.sp.st) (h2 : RI H vwa s.sp.wa) (h3 : RRd H vr s.rs) (h4 : RCm H vc s.cs) (hok : SrvOk s) :
    Cl Tryz.prog 155 [.agg #[I s.sp.id, I s.sp.src, vst, vwa, I s.sp.al, I s.sp.up, vr, vc], .agg #[I q.kind, I q.st, I q.wa]] w fun u w' => ∃ H1 ul vw L d b, HLe H H1 ∧ u = .tuple #[.agg #[I s.sys.many, ul, vw, I d], .bool b] ∧ RL H1 ul s.lims ∧ RI H1 vw L ∧ L.length = s.sys.n ∧ ((b = true ∧ WhtOk s.sp q ∧ L = s.w q ∧ d = divW q) ∨ (b = false ∧ ¬ WhtOk s.sp q)) ∧ St H1 w' σ := by
  have hn := srv_n s
  have hm := hok.many
  have hsm : s.sys.many + 1 = (s.sys.n : Int) := by rw [hn]; show ((s.sp.many + s.tapes.length : Nat) : Int) + 1 = _; omega
  refine Cl.of Tryz.func155 rfl Tryz.ntmps155 (by simp) (args_cons (k := 0) rfl (args_cons (k := 1) rfl (args0))) ?_
  refine .regSeq ?_
  refine .o (.box hs rfl rfl ?_); intro b2 w hs
  refine .o (.box hs rfl rfl ?_); intro b3 w hs
  refine .o (.alloc hs Tryz.zeroValue140 rfl ?_); intro b4 w hs
  refine .z zg (.nil (.regSeq (.y hs (zls [_, _, _, _, _, _, _, _] Tryz.isAgg38 Tryz.sizeOf38) ?_)))
  refine .o (.call Tryz.call92 rfl (offsets_system_spec (s := s) hs h1 h2 h3 h4 hok.early) ?_); rintro _ w ⟨H1, hle1, ⟨ul, rfl, hL⟩, hs⟩
  obtain ⟨al, cl, rfl⟩ := RL.shape hL
  refine .o (.alloc hs Tryz.zeroValue70 rfl ?_); intro b6 w hs
  refine .o (.stores (vs := [_, _]) hs rfl rfl Tryz.sizeOf70 ?_); intro w hs
  refine .nil (.regSeq (.z (zfa fa_api_Survey_0) (.y hs (zls [_, _, _, _, _, _] Tryz.isAgg34 Tryz.sizeOf34) (.y hs (zls [_, _, _] Tryz.isAgg29 Tryz.sizeOf29) ?_))))
  refine .o (.call Tryz.call102 rfl (offsets_weights_spec (s := s.sp) (q := q) hs (h1.mono hle1) (h2.mono hle1) hok.early.1) ?_); rintro _ w ⟨H2, vl, L0, d, b, en, hle2, rfl, hO, hcase, hs⟩
  have hL0 : L0.length ≤ s.sys.n := by
    rcases hcase with ⟨_, _, rfl, _⟩ | ⟨_, _, rfl, _⟩
    · rw [whtL_length, hn]; omega
    · simp
  have hle02 := hle1.trans hle2
  refine .z zm (.z zex (.z zex (.z zex (.z zg (.z zg (.z zg (.nil (.seq (.block ?_)))))))))
  refine .loop (fun p : Nat × Value => ⟨34, [], [(7, p.2), (8, I d), (9, .bool b), (6, .pointer (some ⟨b6, 0, none⟩)), (4, .pointer (some ⟨b4, 0, none⟩))]⟩)
    (fun p w => L0.length + p.1 ≤ s.sys.n ∧ ∃ en, OwnS 1 p.2 (Is (L0 ++ List.replicate p.1 0)) en ∧ St H2 w (en :: .blk b6 [I s.sys.many, .slice al s.lims.length cl] :: .blk b4 [I 0, .slice none 0 0, .slice none 0 0, I 0] :: σ)) (fun p => s.sys.n - (L0.length + p.1)) (0, vl) (by repeat (first | exact .nil rfl rfl | refine .cons rfl ?_))
    ⟨by simpa using hL0, en, by simpa using hO, hs.sub (by repeat (first | exact Sub.refl _ | constructor | apply Sub.weaken))⟩ ?_
  clear hO hs
  rintro ⟨j, vo⟩ w ⟨hj, en, hO, hs⟩
  dsimp only at hj hO ⊢
  obtain ⟨ao, lo, co, rfl, hlo⟩ := hO.shape
  have hlo' : lo = L0.length + j := by simp [Is] at hlo; omega
  refine .seq (.regSeq (.z zm (.z (zlen Tryz.runUnderlying22) (.z (zfa fa_api_System_0) (.y hs (zld Tryz.isAgg3) (.z zadd (.z zlss (.nil ?_))))))))
  refine (.condD rfl (fun hc25 => ?_) (fun hc25 => ?_))
  · refine .skip ?_
    refine nT ?_
    refine .block (.region (.z zm ?_))
    refine .o (.buildSlice (cells := [_]) hs bls_sl_int_1 rfl rfl ?_); intro b27 w hs
    refine .o (.append (ys := Is [0]) hs app_sl_int_int rfl rfl hO (.own .here rfl rfl) (Is_cell _) (fun l' h => by simp [Is] at h; omega) ?_); intro v28 en28 w hO2 hs
    rw [show Is (L0 ++ List.replicate j 0) ++ Is [0] = Is (L0 ++ List.replicate (j + 1) 0) by rw [← app_zero]; simp [Is]] at hO2
    refine .z zg (.nil ?_)
    refine nB (nT ?_)
    exact ⟨(j + 1, v28), by repeat (first | exact .nil rfl rfl | refine .cons rfl ?_), ⟨by dsimp only; omega, _, hO2, hs.sub (by repeat (first | exact Sub.refl _ | constructor | apply Sub.weaken))⟩, by dsimp only; omega⟩
  · refine .exit ?_
    refine xT (xT (xB (nT ?_)))
    refine .regSeq (.y hs (zls [_, _] Tryz.isAgg70 Tryz.sizeOf70) (.z zm (.z zm (.z (zbd [_, _, _, _] bld_offsets_question) (.z zm ?_)))))
    refine .o (.stores (vs := [_, _, _, _]) hs rfl rfl Tryz.sizeOf140 ?_); intro w hs
    refine .z zg (.nil ?_)
    refine .ret ?_
    have hjn : L0.length + j = s.sys.n := by omega
    obtain ⟨H3, hle3, hR, hs⟩ := OwnS.publishI hO (by simp; omega) hs (by repeat constructor)
    exact Fin.retD [] [] hs fun w hs => ⟨_, results2 Tryz.results155 (rcells (vs := [_, _, _, _]) hs rfl Tryz.isAgg140 Tryz.sizeOf140) rfl, H3, _, _, _, d, b, hle02.trans hle3, rfl, hL.mono (hle2.trans hle3), hR, by simp; omega, by
      rcases hcase with ⟨g1, g2, rfl, g3⟩ | ⟨g1, g2, _, _⟩
      · refine .inl ⟨g1, g2, ?_, g3⟩
        rw [whtL_length, hn] at hjn
        unfold Srv.w; rw [show j = s.tapes.length by omega]
      · exact .inr ⟨g1, g2⟩, hs.out⟩
end Go.Proofs.YtddaejgfjlneoaaGreat

namespace Go.Proofs.YtddaejgfjlneoaaGreat
open Go.MW
inductive AskdR (v : Srv) (q : Wht) : Int → Prop
  | bad {e : Int} (h : SrvR v e) (he : e ≠ 0) : AskdR v q e
  | what (h : SrvOk v) (h1 : ¬ WhtOk v.sp q) : AskdR v q 33
  | fls (h : SrvOk v) (h1 : WhtOk v.sp q) (h2 : ¬ v.sys.Sound) : AskdR v q 35
  | ok (h : SrvOk v) (h1 : WhtOk v.sp q) (h2 : v.sys.Sound) : AskdR v q 0
theorem AskdR.zero {v : Srv} {q : Wht} (h : AskdR v q 0) : SrvOk v ∧ WhtOk v.sp q ∧ v.sys.Sound := by
  generalize hz : (0 : Int) = z at h
  cases h with
  | bad h he => exact (he hz.symm).elim
  | what => omega
  | fls => omega
  | ok h h1 h2 => exact ⟨h, h1, h2⟩
theorem AskdR.qty {v : Srv} {q : Wht} {e : Int} (h : AskdR v q e) (he : e ≠ 0) : QtyR v q 0 0 e := by
  cases h with
  | bad h he => exact .bad h he
  | what h h1 => exact .what h h1
  | fls h h1 h2 => exact .fls h h1 h2
  | ok => exact (he rfl).elim
set_option maxHeartbeats 1000000 in
theorem offsets_asked_spec {H : Heap} {w : World} {σ : List Ent} {s : Srv} {q : Wht} {vst vwa vr vc : Value} (hs : St H w σ) (h1 : RI H vst s.sp.st) (h2 : RI H vwa s.sp.wa) (h3 : RRd H vr s.rs) (h4 : RCm H vc s.cs) :
    Cl Tryz.prog 85 [.agg #[I s.sp.id, I s.sp.src, vst, vwa, I s.sp.al, I s.sp.up, vr, vc], .agg #[I q.kind, I q.st, I q.wa]] w fun u w' => ∃ H1 m ul vw d e, HLe H H1 ∧ u = .tuple #[.agg #[I m, ul, vw, I d], I e] ∧ (∃ a l c, ul = .slice a l c) ∧ (∃ a l c, vw = .slice a l c) ∧ AskdR s q e ∧ (e = 0 → m = s.sys.many ∧ RL H1 ul s.lims ∧ RI H1 vw (s.w q) ∧ d = divW q) ∧ St H1 w' σ := by
  refine Cl.of Tryz.func85 rfl Tryz.ntmps85 (by simp) (args_cons (k := 0) rfl (args_cons (k := 1) rfl (args0))) ?_
  refine .regSeq ?_
  refine .o (.box hs rfl rfl ?_); intro b2 w hs
  refine .o (.box hs rfl rfl ?_); intro b3 w hs
  refine .o (.alloc hs Tryz.zeroValue140 rfl ?_); intro b4 w hs
  refine .z zg (.nil (.seq (.regSeq (.y hs (zls [_, _, _, _, _, _, _, _] Tryz.isAgg38 Tryz.sizeOf38) ?_))))
  refine .o (.call Tryz.call42 rfl (offsets_Check_spec (s := s) hs h1 h2 h3 h4) ?_); rintro _ w ⟨H1, e, hle1, rfl, hC, hs⟩
  refine .z zg (.nil (.regSeq (.z zm (.z zneq (.nil ?_)))))
  refine (.condN rfl (fun hc12 => ?_) (fun hc12 => ?_))
  · refine .regSeq (.z (zbd [_, _, _, _] bld_offsets_question) (.z zm ?_))
    refine .o (.stores (vs := [_, _, _, _]) hs rfl rfl Tryz.sizeOf140 ?_); intro w hs
    refine .z zg (.nil ?_)
    refine .ret (rT (?_))
    exact Fin.retD [] [] hs fun w hs => ⟨_, results2 Tryz.results85 (rcells (vs := [_, _, _, _]) hs rfl Tryz.isAgg140 Tryz.sizeOf140) rfl, H1, _, _, _, _, e, hle1, rfl, ⟨_, _, _, rfl⟩, ⟨_, _, _, rfl⟩, .bad hC hc12, fun h => (hc12 h).elim, hs.out⟩
  · refine .skip ?_
    refine nT ?_
    refine .regSeq (.y hs (zls [_, _, _, _, _, _, _, _] Tryz.isAgg38 Tryz.sizeOf38) (.y hs (zls [_, _, _] Tryz.isAgg29 Tryz.sizeOf29) ?_))
    have hok : SrvOk s := hC.ok_iff.1 (by simpa using hc12)
    refine .o (.call Tryz.call155 rfl (offsets_ask_spec (s := s) (q := q) hs (h1.mono hle1) (h2.mono hle1) (h3.mono hle1) (h4.mono hle1) hok) ?_); rintro _ w ⟨H2, ul, vw, L, d, b, hle2, rfl, hL, hR, hLl, hcase, hs⟩
    have hle02 := hle1.trans hle2
    obtain ⟨al, cl, rfl⟩ := RL.shape hL
    obtain ⟨aw, cw, rfl⟩ := RI.shape hR
    refine .z zm (.z zex (.z zex ?_))
    refine .o (.alloc hs Tryz.zeroValue140 rfl ?_); intro b7 w hs
    refine .o (.stores (vs := [_, _, _, _]) hs rfl rfl Tryz.sizeOf140 ?_); intro w hs
    refine .z zg (.nil (.seq (.block (.regSeq (.z zm (.z znot (.z zg (.nil ?_))))))))
    refine (.cond rfl (fun hc21 => ?_) (fun hc21 => ?_))
    · refine .regSeq (.z (zbd [_, _, _, _] bld_offsets_question) ?_)
      refine .o (.stores (vs := [_, _, _, _]) hs rfl rfl Tryz.sizeOf140 ?_); intro w hs
      refine .z zg (.nil ?_)
      refine .ret (rB (rT (?_)))
      have hq : ¬ WhtOk s.sp q := by
        rcases hcase with ⟨g, _⟩ | ⟨_, g⟩
        · subst g; cases hc21
        · exact g
      exact Fin.retD [] [] hs fun w hs => ⟨_, results2 Tryz.results85 (rcells (vs := [_, _, _, _]) hs rfl Tryz.isAgg140 Tryz.sizeOf140) rfl, H2, _, _, _, _, _, hle02, rfl, ⟨_, _, _, rfl⟩, ⟨_, _, _, rfl⟩, .what hok hq, fun h => by omega, hs.out⟩
    · refine .regSeq (.y hs (zls [_, _, _, _, _, _, _, _] Tryz.isAgg38 Tryz.sizeOf38) ?_)
      obtain ⟨rfl, hq, rfl, rfl⟩ : b = true ∧ WhtOk s.sp q ∧ L = s.w q ∧ d = divW q := hcase.resolve_right fun h => by rw [h.1] at hc21; cases hc21
      refine .o (.call Tryz.call169 rfl (offsets_isTrue_spec (s := s) hs (h1.mono hle02) (h2.mono hle02) (h3.mono hle02) (h4.mono hle02) hok) ?_); rintro _ w ⟨H3, b27, hle3, rfl, hb27, hs⟩
      refine .z znot (.z zg (.nil ?_))
      refine (.cond rfl (fun hc25 => ?_) (fun hc25 => ?_))
      · refine .regSeq (.z (zbd [_, _, _, _] bld_offsets_question) ?_)
        refine .o (.stores (vs := [_, _, _, _]) hs rfl rfl Tryz.sizeOf140 ?_); intro w hs
        refine .z zg (.nil ?_)
        refine .ret (rB (rT (?_)))
        exact Fin.retD [] [] hs fun w hs => ⟨_, results2 Tryz.results85 (rcells (vs := [_, _, _, _]) hs rfl Tryz.isAgg140 Tryz.sizeOf140) rfl, H3, _, _, _, _, _, hle02.trans hle3, rfl, ⟨_, _, _, rfl⟩, ⟨_, _, _, rfl⟩, .fls hok hq (fun h => by rw [hb27.2 h] at hc25; cases hc25), fun h => by omega, hs.out⟩
      · refine .skip ?_
        refine nB (nT ?_)
        refine .regSeq (.y hs (zls [_, _, _, _] Tryz.isAgg140 Tryz.sizeOf140) ?_)
        refine .o (.stores (vs := [_, _, _, _]) hs rfl rfl Tryz.sizeOf140 ?_); intro w hs
        refine .z zg (.nil ?_)
        refine .ret ?_
        exact Fin.retD [] [] hs fun w hs => ⟨_, results2 Tryz.results85 (rcells (vs := [_, _, _, _]) hs rfl Tryz.isAgg140 Tryz.sizeOf140) rfl, H3, _, _, _, _, _, hle02.trans hle3, rfl, ⟨_, _, _, rfl⟩, ⟨_, _, _, rfl⟩, .ok hok hq (hb27.1 (by simpa using hc25)), fun _ => ⟨rfl, hL.mono hle3, hR.mono hle3, rfl⟩, hs.out⟩
set_option maxHeartbeats 1000000 in
theorem offsets_Bound_spec {H : Heap} {w : World} {σ : List Ent} {s : Srv} {q : Wht} {vst vwa vr vc : Value} (hs : St H w σ) (h1 : RI H vst s.sp.st) (h2 : RI H vwa s.sp.wa) (h3 : RRd H vr s.rs) (h4 : RCm H vc s.cs) :
    Cl Tryz.prog 26 [.agg #[I s.sp.id, I s.sp.src, vst, vwa, I s.sp.al, I s.sp.up, vr, vc], .agg #[I q.kind, I q.st, I q.wa]] w fun u w' => ∃ H1 lo hi e, HLe H H1 ∧ u = .tuple #[.agg #[I lo, I hi], I e] ∧ QtyR s q lo hi e ∧ St H1 w' σ := by
  refine Cl.of Tryz.func26 rfl Tryz.ntmps26 (by simp) (args_cons (k := 0) rfl (args_cons (k := 1) rfl (args0))) ?_
  refine .regSeq ?_
  refine .o (.box hs rfl rfl ?_); intro b2 w hs
  refine .o (.box hs rfl rfl ?_); intro b3 w hs
  refine .o (.alloc hs Tryz.zeroValue44 rfl ?_); intro b4 w hs
  refine .z zg (.nil (.regSeq (.y hs (zls [_, _, _, _, _, _, _, _] Tryz.isAgg38 Tryz.sizeOf38) (.y hs (zls [_, _, _] Tryz.isAgg29 Tryz.sizeOf29) ?_))))
  refine .o (.call Tryz.call85 rfl (offsets_asked_spec (s := s) (q := q) hs h1 h2 h3 h4) ?_); rintro _ w ⟨H1, m, ul, vw, d, e, hle1, rfl, ⟨al, ll, cl, rfl⟩, ⟨aw, lw, cw, rfl⟩, hA, hA0, hs⟩
  refine .z zm (.z zex (.z zex ?_))
  refine .o (.alloc hs Tryz.zeroValue140 rfl ?_); intro b6 w hs
  refine .o (.stores (vs := [_, _, _, _]) hs rfl rfl Tryz.sizeOf140 ?_); intro w hs
  refine .z zg (.nil (.seq (.regSeq (.z zm (.z zneq (.nil ?_))))))
  refine (.condN rfl (fun hc17 => ?_) (fun hc17 => ?_))
  · refine .regSeq (.z (zbd [_, _] bld_api_Range) (.z zm ?_))
    refine .o (.stores (vs := [_, _]) hs rfl rfl Tryz.sizeOf44 ?_); intro w hs
    refine .z zg (.nil ?_)
    refine .ret (rT (?_))
    exact Fin.retD [] [] hs fun w hs => ⟨_, results2 Tryz.results26 (rcells (vs := [_, _]) hs rfl Tryz.isAgg44 Tryz.sizeOf44) rfl, H1, _, _, _, hle1, rfl, hA.qty hc17, hs.out⟩
  · refine .skip ?_
    refine nT ?_
    refine .regSeq (.z (zfa fa_offsets_question_0) (.y hs (zls [_, _] Tryz.isAgg70 Tryz.sizeOf70) (.z (zfa fa_offsets_question_1) (.y hs (zld Tryz.isAgg22) ?_))))
    obtain rfl : e = 0 := by simpa using hc17
    obtain ⟨rfl, hL, hR, rfl⟩ := hA0 rfl
    obtain ⟨hok, hq, hsd⟩ := hA.zero
    refine .o (.call Tryz.call74 rfl (bound_Range_spec (s := s.sys) hs ⟨_, rfl, hL⟩ hR) ?_); rintro _ w ⟨H2, lo, hi, f, hle2, rfl, hRg, hs⟩
    obtain rfl := bounded_range (hok.ask hq) hsd (fun b => s.both) hRg
    have hbd := hRg.bd
    have hdp := divW_pos q
    refine .z zm (.z zex (.z zex (.z zex (.z zg (.z zg (.z zg (.nil (.seq (.regSeq ?_)))))))))
    refine .z zm (.z zneq (.nil ?_))
    refine (.condN rfl (fun hc30 => ?_) (fun hc30 => ?_))
    · refine .regSeq (.z (zbd [_, _] bld_api_Range) (.z zm ?_))
      refine .o (.stores (vs := [_, _]) hs rfl rfl Tryz.sizeOf44 ?_); intro w hs
      refine .z zg (.nil ?_)
      refine .ret (rT (?_))
      exact (hc30 rfl).elim
    · refine .skip ?_
      refine nT ?_
      refine .seq (.draw mix rfl hs ?_); intro w hs
      refine .z 0 rfl zm ?_; refine .z 1 rfl (zfa fa_offsets_question_2) ?_; refine .y 2 rfl hs Tryz.isAgg3 ?_; refine .z 4 rfl zm ?_; refine .z 5 rfl (zfa fa_offsets_question_2) ?_; refine .y 6 rfl hs Tryz.isAgg3 ?_
      refine .e1 (i := 3) (by kernel_rfl) rfl rfl .none hs ?_
      refine .call Tryz.call86 rfl (offsets_down_spec hs (by omega) (by omega)) ?_; rintro _ w ⟨rfl, hs⟩
      refine .go ?_
      refine .e1 (i := 7) (by kernel_rfl) rfl rfl .none hs ?_
      refine .call Tryz.call86 rfl (offsets_down_spec hs (by omega) (by omega)) ?_; rintro _ w ⟨rfl, hs⟩
      refine .go ?_
      refine .z 8 rfl (zbd [_, _] bld_api_Range) ?_
      refine .e1 (i := 9) (by kernel_rfl) rfl rfl .none hs ?_
      refine .stores (vs := [_, _]) hs rfl rfl Tryz.sizeOf44 ?_; intro w hs
      refine .go ?_
      refine .z 10 rfl zg ?_; refine .done (by kernel_rfl) hs ?_
      refine .ret ?_
      exact Fin.retD [] [] hs fun w hs => ⟨_, results2 Tryz.results26 (rcells (vs := [_, _]) hs rfl Tryz.isAgg44 Tryz.sizeOf44) rfl, H2, _, _, _, hle1.trans hle2, rfl, .ok hok hq hsd hRg, hs.out⟩
inductive ClashR (v : Srv) (out : List Int) : Int → Prop
  | bad {e : Int} (h : SrvR v e) (he : e ≠ 0) (h1 : out = []) : ClashR v out e
  | ok {e : Int} (h : SrvOk v) (h1 : ConfR v.sys out e) : ClashR v out e
theorem offsets_Clash_spec {H : Heap} {w : World} {σ : List Ent} {s : Srv} {vst vwa vr vc : Value} (hs : St H w σ) (h1 : RI H vst s.sp.st) (h2 : RI H vwa s.sp.wa) (h3 : RRd H vr s.rs) (h4 : RCm H vc s.cs) :
    Cl Tryz.prog 32 [.agg #[I s.sp.id, I s.sp.src, vst, vwa, I s.sp.al, I s.sp.up, vr, vc]] w fun u w' => ∃ H1 vx out e, HLe H H1 ∧ u = .tuple #[vx, I e] ∧ RI H1 vx out ∧ ClashR s out e ∧ St H1 w' σ := by
  refine Cl.of Tryz.func32 rfl Tryz.ntmps32 (by simp) (args_cons (k := 0) rfl (args0)) ?_
  refine .regSeq ?_
  refine .o (.box hs rfl rfl ?_); intro b1 w hs
  refine .z zg (.z zg (.nil (.seq (.regSeq (.y hs (zls [_, _, _, _, _, _, _, _] Tryz.isAgg38 Tryz.sizeOf38) ?_)))))
  refine .o (.call Tryz.call42 rfl (offsets_Check_spec (s := s) hs h1 h2 h3 h4) ?_); rintro _ w ⟨H1, e, hle1, rfl, hC, hs⟩
  refine .z zg (.nil (.regSeq (.z zm (.z zneq (.nil ?_)))))
  refine (.condN rfl (fun hc10 => ?_) (fun hc10 => ?_))
  · refine .regSeq (.z zm (.z zg (.z zg (.nil ?_))))
    refine .ret (rT (Fin.ret2 Tryz.results32 rfl rfl ?_))
    exact ⟨H1, _, [], _, hle1, rfl, RS.nil H1 1 none 0, .bad hC hc10 rfl, hs.out⟩
  · refine .skip ?_
    refine nT ?_
    refine .regSeq (.y hs (zls [_, _, _, _, _, _, _, _] Tryz.isAgg38 Tryz.sizeOf38) ?_)
    have hok : SrvOk s := hC.ok_iff.1 (by simpa using hc10)
    refine .o (.call Tryz.call92 rfl (offsets_system_spec (s := s) hs (h1.mono hle1) (h2.mono hle1) (h3.mono hle1) (h4.mono hle1) hok.early) ?_); rintro v14 w ⟨H2, hle2, hS, hs⟩
    refine .o (.call Tryz.call98 rfl (bound_Conflict_spec (s := s.sys) hs hS) ?_); rintro _ w ⟨H3, vx, out, f, hle3, rfl, hR, hCf, hs⟩
    refine .z zm (.z zex (.z zex (.z zg (.z zg (.nil (.regSeq (.z zm (.z zm (.z zg ?_)))))))))
    refine .z zg (.nil ?_)
    refine .ret (Fin.ret2 Tryz.results32 rfl rfl ?_)
    exact ⟨H3, _, out, _, hle1.trans (hle2.trans hle3), rfl, hR, .ok hok hCf, hs.out⟩
set_option maxHeartbeats 1000000 in
theorem offsets_Tape_spec {H : Heap} {w : World} {σ : List Ent} {s : Srv} {t : TD} {vst vwa vr vc : Value} (hs : St H w σ) (h1 : RI H vst s.sp.st) (h2 : RI H vwa s.sp.wa) (h3 : RRd H vr s.rs) (h4 : RCm H vc s.cs) :
    Cl Tryz.prog 28 [.agg #[I s.sp.id, I s.sp.src, vst, vwa, I s.sp.al, I s.sp.up, vr, vc], .agg #[I t.tape, I t.day]] w fun u w' => ∃ H1 lo hi e, HLe H H1 ∧ u = .tuple #[.agg #[I lo, I hi], I e] ∧ TapeR s t lo hi e ∧ St H1 w' σ := by
  refine Cl.of Tryz.func28 rfl Tryz.ntmps28 (by simp) (args_cons (k := 0) rfl (args_cons (k := 1) rfl (args0))) ?_
  refine .regSeq ?_
  refine .o (.box hs rfl rfl ?_); intro b2 w hs
  refine .o (.box hs rfl rfl ?_); intro b3 w hs
  refine .o (.alloc hs Tryz.zeroValue44 rfl ?_); intro b4 w hs
  refine .z zg (.nil (.seq (.regSeq (.y hs (zls [_, _, _, _, _, _, _, _] Tryz.isAgg38 Tryz.sizeOf38) ?_))))
  refine .o (.call Tryz.call42 rfl (offsets_Check_spec (s := s) hs h1 h2 h3 h4) ?_); rintro _ w ⟨H1, e, hle1, rfl, hC, hs⟩
  refine .z zg (.nil (.regSeq (.z zm (.z zneq (.nil ?_)))))
  refine (.condN rfl (fun hc15 => ?_) (fun hc15 => ?_))
  · refine .regSeq (.z (zbd [_, _] bld_api_Range) (.z zm ?_))
    refine .o (.stores (vs := [_, _]) hs rfl rfl Tryz.sizeOf44 ?_); intro w hs
    refine .z zg (.nil ?_)
    refine .ret (rT (?_))
    exact Fin.retD [] [] hs fun w hs => ⟨_, results2 Tryz.results28 (rcells (vs := [_, _]) hs rfl Tryz.isAgg44 Tryz.sizeOf44) rfl, H1, _, _, _, hle1, rfl, .bad hC hc15, hs.out⟩
  · refine .skip ?_
    refine nT ?_
    refine .seq (.draw mix rfl hs ?_); intro w hs
    refine .ys 0 rfl hs [_, _, _, _, _, _, _, _] Tryz.isAgg38 Tryz.sizeOf38 ?_; refine .ys 2 rfl hs [_, _] Tryz.isAgg49 Tryz.sizeOf49 ?_
    refine .e1 (i := 1) (by kernel_rfl) rfl rfl .none hs ?_
    have hok : SrvOk s := hC.ok_iff.1 (by simpa using hc15)
    have hsm := spc_small hok.early.1
    have hrl := hok.early.2.1
    have hn := srv_n s
    have htl : s.tapes.length ≤ 60 := by have := tapesOf_length s.rs; unfold Srv.tapes; omega
    refine .call Tryz.call90 rfl (offsets_tapes_spec (s := s) hs (h3.mono hle1) (by omega)) ?_; rintro v19 w ⟨H2, hle2, hT, hs⟩
    have hle02 := hle1.trans hle2
    refine .go ?_
    refine .e1 (i := 3) (by kernel_rfl) rfl rfl .none hs ?_
    refine .call Tryz.call89 rfl (slices_Index_td (t := t) hs hT (by omega)) ?_; rintro _ w ⟨rfl, hs⟩
    have hnn := tdIdx_nonneg (l := s.tapes) (t := t)
    refine .go ?_
    refine .z 4 rfl zg ?_; refine .done (by kernel_rfl) hs ?_
    refine .seq (.regSeq (.z zm (.z zlss (.nil ?_))))
    refine (.condD rfl (fun hc23 => ?_) (fun hc23 => ?_))
    · refine .regSeq (.z (zbd [_, _] bld_api_Range) ?_)
      refine .o (.stores (vs := [_, _]) hs rfl rfl Tryz.sizeOf44 ?_); intro w hs
      refine .z zg (.nil ?_)
      refine .ret (rT (?_))
      exact Fin.retD [] [] hs fun w hs => ⟨_, results2 Tryz.results28 (rcells (vs := [_, _]) hs rfl Tryz.isAgg44 Tryz.sizeOf44) rfl, H2, _, _, _, hle02, rfl, .none hok (fun h => by have := hnn.2 h; omega), hs.out⟩
    · refine .skip ?_
      refine nT ?_
      refine .seq (.draw mix rfl hs ?_); intro w hs
      refine .z 0 rfl (zfa fa_api_Survey_0) ?_; refine .ys 1 rfl hs [_, _, _, _, _, _] Tryz.isAgg34 Tryz.sizeOf34 ?_; refine .ys 4 rfl hs [_, _, _, _, _, _, _, _] Tryz.isAgg38 Tryz.sizeOf38 ?_
      refine .e1 (i := 2) (by kernel_rfl) rfl rfl .none hs ?_
      have hmem : t ∈ s.tapes := hnn.1 (by omega)
      obtain ⟨k, k1, k2, k3⟩ := tdIdx_mem hmem
      have hlt := SrvOk.tape_lt hmem
      rw [k1, Int.toNat_natCast] at hlt
      rw [k1] at hc23 ⊢
      refine .call Tryz.call91 rfl (offsets_many_spec (s := s.sp) hs (h1.mono hle02) (h2.mono hle02) ⟨by omega, by omega⟩) ?_; rintro _ w ⟨rfl, hs⟩
      refine .go ?_
      refine .z 3 rfl zadd ?_
      refine .e1 (i := 5) (by kernel_rfl) rfl rfl .none hs ?_
      refine .call Tryz.call90 rfl (offsets_tapes_spec (s := s) hs (h3.mono hle02) (by omega)) ?_; rintro v30 w ⟨H3, hle3, hT2, hs⟩
      have hle03 := hle02.trans hle3
      obtain ⟨at_, ct, rfl⟩ := RTd.shape hT2
      refine .go ?_
      refine .z 6 rfl (zlen Tryz.runUnderlying51) ?_; refine .z 7 rfl zadd ?_
      refine .e1 (i := 8) (by kernel_rfl) rfl rfl .none hs ?_
      refine .makeI s.sys.n hs (by show some (I _) = some (I _); congr 2; rw [hn]; show _ = ((s.sp.many + s.tapes.length + 1 : Nat) : Int); omega) (by show some (I _) = some (I _); congr 2; rw [hn]; show _ = ((s.sp.many + s.tapes.length + 1 : Nat) : Int); omega) Tryz.runUnderlying22 Tryz.typeInfo3 rfl Tryz.sizeOf3 Tryz.zeroValue3 (by omega) ?_; intro b33 w hs
      refine .go ?_
      refine .z 9 rfl zg ?_; refine .done (by kernel_rfl) hs ?_
      refine .regSeq (.z zm (.z (zfa fa_api_Survey_0) (.y hs (zls [_, _, _, _, _, _] Tryz.isAgg34 Tryz.sizeOf34) ?_)))
      refine .o (.call Tryz.call91 rfl (offsets_many_spec (s := s.sp) hs (h1.mono hle03) (h2.mono hle03) ⟨by omega, by omega⟩) ?_); rintro _ w ⟨rfl, hs⟩
      refine .z zadd (.z zm (.z zadd ?_))
      refine .q hs (q_ixO (k := s.sp.many + 1 + k) rfl rfl Tryz.runUnderlying22 Tryz.sizeOf3 (by omega) (by omega)) ?_
      refine .o (.store (c' := Is (unitL s.sys.n (s.sp.many + 1 + k) 1)) hs rfl rfl Tryz.sizeOf3 ?_ (by repeat constructor) (by simp [Is]; omega) (Is_set _ _ _)); intro w hs
      refine .nil (.regSeq (.y hs (zls [_, _, _, _, _, _, _, _] Tryz.isAgg38 Tryz.sizeOf38) ?_))
      obtain ⟨H4, hle4, hW, hs⟩ := OwnS.publishI (xs := unitL s.sys.n (s.sp.many + 1 + k) 1) (v := .slice (some ⟨b33, 0, none⟩) s.sys.n s.sys.n) (.full (by simp [Is, unitL_length])) (by rw [unitL_length]; omega) hs (by repeat constructor)
      have hle04 := hle03.trans hle4
      refine .o (.call Tryz.call92 rfl (offsets_system_spec (s := s) hs (h1.mono hle04) (h2.mono hle04) (h3.mono hle04) (h4.mono hle04) hok.early) ?_); rintro v44 w ⟨H5, hle5, hS, hs⟩
      refine .z zm ?_
      refine .o (.call Tryz.call74 rfl (bound_Range_spec (s := s.sys) hs hS (hW.mono hle5)) ?_); rintro _ w ⟨H6, lo, hi, f, hle6, rfl, hRg, hs⟩
      have hbd := hRg.bd
      have hleF := hle04.trans (hle5.trans hle6)
      have hA := hok.unit_ask hlt (x := 1) (by omega)
      refine .z zm (.z zex (.z zex (.z zex (.z zg (.z zg (.z zg (.nil (.seq (.regSeq ?_)))))))))
      refine .z zm (.z zneq (.nil ?_))
      refine (.condN rfl (fun hc51 => ?_) (fun hc51 => ?_))
      · refine .regSeq (.z (zbd [_, _] bld_api_Range) ?_)
        refine .o (.stores (vs := [_, _]) hs rfl rfl Tryz.sizeOf44 ?_); intro w hs
        refine .z zg (.nil ?_)
        refine .ret (rT (?_))
        have hns : ¬ s.sys.Sound := fun h => hc51 (bounded_range hA h (fun b => s.both) hRg)
        exact Fin.retD [] [] hs fun w hs => ⟨_, results2 Tryz.results28 (rcells (vs := [_, _]) hs rfl Tryz.isAgg44 Tryz.sizeOf44) rfl, H6, _, _, _, hleF, rfl, .fls hok hmem hns, hs.out⟩
      · refine .skip ?_
        refine nT ?_
        refine .regSeq (.z zm (.z zneg (.z zm (.z zneg (.z (zbd [_, _] bld_api_Range) ?_)))))
        refine .o (.stores (vs := [_, _]) hs rfl rfl Tryz.sizeOf44 ?_); intro w hs
        refine .z zg (.nil ?_)
        refine .ret ?_
        obtain rfl : f = 0 := by simpa using hc51
        have hsd : s.sys.Sound := Classical.byContradiction fun h => by have := clash_range hA h hRg; omega
        exact Fin.retD [] [] hs fun w hs => ⟨_, results2 Tryz.results28 (rcells (vs := [_, _]) hs rfl Tryz.isAgg44 Tryz.sizeOf44) rfl, H6, _, _, _, hleF, rfl, .ok hok hmem hsd (by rw [k1, Int.toNat_natCast]; exact hRg), hs.out⟩
end Go.Proofs.YtddaejgfjlneoaaGreat

namespace Go.Proofs.YtddaejgfjlneoaaGreat
open Go.MW
theorem slices_IndexFunc_rows {H : Heap} {w : World} {σ : List Ent} {v : Value} {rs : List (List Int)} {g : Nat} {cap : List Value} (q : List Int → Prop) (hs : St H w σ) (hR : RT H v rs) (hl : rs.length ≤ 9223372036854775807) (hc : ∀ args w, (callFunc g args).run Tryz.prog w = .ok (.enter g args) w)
    (hp : ∀ H' w σ r u, HLe H H' → RI H' u r → St H' w σ → Cl Tryz.prog g ([u] ++ cap) w fun z w' => ∃ H1 b, HLe H' H1 ∧ z = .bool b ∧ (b = true ↔ q r) ∧ St H1 w' σ) :
    Cl Tryz.prog 236 [v, .func (.func g) #[] cap.toArray] w fun u w' => ∃ H1 i, HLe H H1 ∧ u = I i ∧ (0 ≤ i ↔ ∃ x ∈ rs, q x) ∧ St H1 w' σ := by
  obtain ⟨a, c, rfl⟩ := hR.shape
  refine Cl.of Tryz.func236 rfl Tryz.ntmps236 (by simp) (args_cons (k := 0) rfl (args_cons (k := 1) rfl (args0))) ?_
  refine .regSeq (.z zg (.nil (.seq (.regSeq (.z zm (.z (zlen Tryz.runUnderlying61) (.z zm (.nil ?_))))))))
  refine .for (N := rs.length) (J := fun k fr w => fr = [(1, .func (.func g) #[] cap.toArray), (0, .slice a rs.length c)] ∧ ∃ H1, HLe H H1 ∧ (∀ j < k, ∀ y, rs[j]? = some y → ¬ q y) ∧ St H1 w σ) (by omega) ?_ ?_ ?_
  · exact .mk ⟨rfl, H, HLe.refl H, fun j hj => by omega, hs⟩
  · rintro k fr w hk ⟨rfl, H1, hle1, hno, hs⟩
    have hx := gr_get (rs := rs) hk
    refine .block (.regSeq (.z zm (.z zg (.nil (.regSeq (.z zm (.z zm (.z zm ?_))))))))
    refine .ixT hs (hR.mono hle1) rfl rfl Tryz.runUnderlying61 Tryz.sizeOf22 (show k < _ by omega) (by first | rfl | assumption | omega) ?_; intro b14 o14 a14 c14 hc14 hR14
    refine .q hs (q_loadR rfl Tryz.isAgg22 hc14) ?_
    refine .o (.callG (first := []) (cap := cap) rfl rfl hc (hp _ _ _ (gr rs k) _ hle1 hR14 hs) ?_); rintro _ w ⟨H2, b16, hle2, rfl, hb16, hs⟩
    refine .nil ?_
    refine (.cond rfl (fun hc16 => ?_) (fun hc16 => ?_))
    · refine .regSeq (.z zm (.z zg (.nil ?_)))
      refine .ret (rB (rT (rB (rT (Fin.ret1 Tryz.results236 rfl ?_)))))
      exact ⟨H2, _, hle1.trans hle2, rfl, ⟨fun _ => ⟨_, List.mem_of_getElem? hx, hb16.1 hc16⟩, fun _ => by omega⟩, hs⟩
    · refine .skip ?_
      refine nB (nT ?_)
      exact .mk ⟨rfl, H2, hle1.trans hle2, upto_succ hno hx (fun h => by rw [hb16.2 h] at hc16; cases hc16), hs⟩
  · rintro fr w ⟨rfl, H1, hle1, hno, hs⟩
    refine nT ?_
    refine .regSeq (.z zg (.nil ?_))
    refine .ret (Fin.ret1 Tryz.results236 rfl ?_)
    exact ⟨H1, _, hle1, rfl, ⟨fun h => by omega, fun ⟨x, h1, h2⟩ => by
      obtain ⟨j, hj⟩ := List.getElem?_of_mem h1
      exact (hno j (List.getElem?_eq_some_iff.1 hj).1 x hj h2).elim⟩, hs⟩
theorem slices_ContainsFunc_rows {H : Heap} {w : World} {σ : List Ent} {v : Value} {rs : List (List Int)} {g : Nat} {cap : List Value} (q : List Int → Prop) (hs : St H w σ) (hR : RT H v rs) (hl : rs.length ≤ 9223372036854775807) (hc : ∀ args w, (callFunc g args).run Tryz.prog w = .ok (.enter g args) w)
    (hp : ∀ H' w σ r u, HLe H H' → RI H' u r → St H' w σ → Cl Tryz.prog g ([u] ++ cap) w fun z w' => ∃ H1 b, HLe H' H1 ∧ z = .bool b ∧ (b = true ↔ q r) ∧ St H1 w' σ) :
    Cl Tryz.prog 186 [v, .func (.func g) #[] cap.toArray] w fun u w' => ∃ H1 b, HLe H H1 ∧ u = .bool b ∧ (b = true ↔ ∃ x ∈ rs, q x) ∧ St H1 w' σ := by
  refine Cl.of Tryz.func186 rfl Tryz.ntmps186 (by simp) (args_cons (k := 0) rfl (args_cons (k := 1) rfl (args0))) ?_
  refine .regSeq (.z zg (.nil (.regSeq (.z zm (.z zm ?_)))))
  refine .o (.call Tryz.call236 rfl (slices_IndexFunc_rows q hs hR hl hc hp) ?_); rintro _ w ⟨H1, i, hle1, rfl, hi, hs⟩
  refine .z zgeq (.z zg (.nil ?_))
  refine .ret (Fin.ret1 Tryz.results186 rfl ?_)
  exact ⟨H1, _, hle1, rfl, by simp only [decide_eq_true_eq]; exact hi, hs⟩
theorem isHull_1_1_spec {H : Heap} {w : World} {σ : List Ent} {n : Int} (hs : St H w σ) :
    Cl Tryz.prog 188 [I n] w fun u w' => u = .bool (!decide (0 ≤ n ∧ n ≤ 20000)) ∧ St H w' σ := by
  refine Cl.of Tryz.func188 rfl Tryz.ntmps188 (by simp) (args_cons (k := 0) rfl (args0)) ?_
  refine .regSeq (.z zg (.nil (.regSeq (.z zm ?_))))
  refine .o (.call Tryz.call105 rfl (offsets_within_spec hs) ?_); rintro _ w ⟨rfl, hs⟩
  refine .z znot (.z zg (.nil ?_))
  refine .ret (Fin.ret1 Tryz.results188 rfl ?_)
  exact ⟨rfl, hs⟩
theorem isHull_1_spec {H : Heap} {w : World} {σ : List Ent} {s : Spc} {v vst vwa : Value} {r : List Int} {b : Nat} (hs : St H w σ) (hb : Row H b [I s.id, I s.src, vst, vwa, I s.al, I s.up]) (h2 : RI H vwa s.wa) (hr : RI H v r) :
    Cl Tryz.prog 187 [v, .pointer (some ⟨b, 0, none⟩)] w fun u w' => ∃ H1 bb, HLe H H1 ∧ u = .bool bb ∧ (bb = true ↔ ¬ (r.length = s.wa.length ∧ ∀ x ∈ r, 0 ≤ x ∧ x ≤ 20000)) ∧ St H1 w' σ := by
  obtain ⟨a, c, rfl⟩ := RI.shape hr
  obtain ⟨awa, cwa, rfl⟩ := RI.shape h2
  have hb3 := hb.at 3
  refine Cl.of Tryz.func187 rfl Tryz.ntmps187 (by simp) (args_cons (k := 0) rfl (args_cons (k := 1) rfl (args0))) ?_
  refine .regSeq (.z zg (.nil (.regSeq (.z zm (.z (zlen Tryz.runUnderlying22) (.z (zfa fa_api_Space_3) (.y hs (zld Tryz.isAgg22) (.z (zlen Tryz.runUnderlying22) (.z zneq ?_)))))))))
  refine .z zm ?_
  refine .bifN (t' := 10) rfl (fun hb10 => ?_) (fun hb10 => ?_)
  · refine .gFs 2 6 false rfl rfl rfl ?_
    refine .z zpT (.z zg (.nil ?_))
    refine .ret (Fin.ret1 Tryz.results187 rfl ?_)
    exact ⟨H, true, HLe.refl H, rfl, ⟨fun _ h => by have := h.1; simp_all, fun _ => rfl⟩, hs⟩
  · refine .gT rfl rfl ?_
    refine .z zm ?_
    refine .gT rfl rfl ?_
    refine .o (.call Tryz.call134 rfl (slices_ContainsFunc_known (g := 188) (cap := []) (fun n => ¬ (0 ≤ n ∧ n ≤ 20000)) hs hr Tryz.call188 (fun H' w σ n _ _ hs => (isHull_1_1_spec hs).mono fun u w' ⟨g1, g2⟩ => ⟨H', _, HLe.refl _, g1, by simp; omega, g2⟩)) ?_); rintro _ w ⟨H1, b12, hle1, rfl, hb12, hs⟩
    refine .z zpF (.z zg (.nil ?_))
    refine .ret (Fin.ret1 Tryz.results187 rfl ?_)
    have hlen : r.length = s.wa.length := by simp_all; omega
    exact ⟨H1, _, hle1, rfl, by
      rw [hb12]
      constructor
      · rintro ⟨x, h1, h2⟩ h; exact h2 (h.2 x h1)
      · intro h
        refine Classical.byContradiction fun hn => h ⟨hlen, fun x hx => Classical.byContradiction fun hx' => hn ⟨x, hx, hx'⟩⟩, hs⟩
theorem hull_iff {s : Spc} {rows : List (List Int)} : HullOk s rows ↔ rows.length = s.st.length ∧ ∀ r ∈ rows, r.length = s.wa.length ∧ ∀ x ∈ r, 0 ≤ x ∧ x ≤ 20000 := by
  constructor
  · rintro ⟨h1, h2, h3⟩
    refine ⟨h1, fun r hr => ?_⟩
    obtain ⟨i, hi⟩ := List.getElem?_of_mem hr
    have hil := (List.getElem?_eq_some_iff.1 hi).1
    have hg := gr_get hil
    rw [hi] at hg
    obtain rfl := Option.some.inj hg
    have hl := h2 i (by omega)
    refine ⟨hl, fun x hx => ?_⟩
    obtain ⟨k, hk⟩ := List.getElem?_of_mem hx
    have hkl := (List.getElem?_eq_some_iff.1 hk).1
    have hgk := gi_get hkl
    rw [hk] at hgk
    obtain rfl := Option.some.inj hgk
    exact h3 i (by omega) k (by omega)
  · rintro ⟨h1, h2⟩
    have hm : ∀ i < s.st.length, gr rows i ∈ rows := fun i hi => List.mem_of_getElem? (gr_get (by omega))
    refine ⟨h1, fun i hi => (h2 _ (hm i hi)).1, fun i hi k hk => ?_⟩
    have hl := (h2 _ (hm i hi)).1
    exact (h2 _ (hm i hi)).2 _ (List.mem_of_getElem? (gi_get (by omega)))
theorem offsets_isHull_spec {H : Heap} {w : World} {σ : List Ent} {s : Spc} {vst vwa vh : Value} {rows : List (List Int)} (hs : St H w σ) (h1 : RI H vst s.st) (h2 : RI H vwa s.wa) (hr : RT H vh rows) :
    Cl Tryz.prog 101 [.agg #[I s.id, I s.src, vst, vwa, I s.al, I s.up], .agg #[vh]] w fun u w' => ∃ H1 b, HLe H H1 ∧ u = .bool b ∧ (b = true ↔ HullOk s rows) ∧ St H1 w' σ := by
  obtain ⟨ast, cst, rfl⟩ := RI.shape h1
  obtain ⟨awa, cwa, rfl⟩ := RI.shape h2
  obtain ⟨ah, ch, rfl⟩ := hr.shape
  have hrl := (hr.len).2.2
  refine Cl.of Tryz.func101 rfl Tryz.ntmps101 (by simp) (args_cons (k := 0) rfl (args_cons (k := 1) rfl (args0))) ?_
  refine .regSeq ?_
  refine .o (.box hs rfl rfl ?_); intro b2 w hs
  refine .o (.box hs rfl rfl ?_); intro b3 w hs
  refine .z zg (.nil (.regSeq (.z (zfa fa_api_Hull_0) (.y hs (zld Tryz.isAgg61) (.z (zlen Tryz.runUnderlying61) (.z (zfa fa_api_Space_2) (.y hs (zld Tryz.isAgg22) (.z (zlen Tryz.runUnderlying22) (.z zeql ?_)))))))))
  refine .z zm ?_
  refine .bifD (t' := 12) rfl (fun hb12 => ?_) (fun hb12 => ?_)
  · refine .gT rfl rfl ?_
    refine .z (zfa fa_api_Hull_0) ?_
    refine .gT rfl rfl ?_
    refine .y hs (zld Tryz.isAgg61) ?_
    refine .gT rfl rfl ?_
    refine .q hs (q_makeFunc (f := []) (c := [_]) rfl rfl) ?_
    refine .gT rfl rfl ?_
    obtain ⟨H0, hle0, hb2, hs⟩ := hs.publish (b := b2) (by repeat constructor)
    refine .o (.call Tryz.call186 rfl (slices_ContainsFunc_rows (g := 187) (cap := [.pointer (some ⟨b2, 0, none⟩)]) (fun r => ¬ (r.length = s.wa.length ∧ ∀ x ∈ r, 0 ≤ x ∧ x ≤ 20000)) hs (hr.mono hle0) hrl Tryz.call187 (fun H' w σ r u hle hu hs => isHull_1_spec (s := s) hs (hb2.mono hle) (h2.mono (hle0.trans hle)) hu)) ?_); rintro _ w ⟨H1, b16, hle1, rfl, hb16, hs⟩
    refine .gT rfl rfl ?_
    refine .z znot (.z zpT (.z zg (.nil ?_)))
    refine .ret (Fin.ret1 Tryz.results101 rfl ?_)
    exact ⟨H1, _, hle0.trans hle1, rfl, by
      rw [hull_iff]
      have hlen : rows.length = s.st.length := by omega
      cases hbb : b16 with
      | true =>
        obtain ⟨x, hx, hn⟩ := hb16.1 hbb
        exact ⟨fun h => (by cases h), fun h => (hn (h.2 x hx)).elim⟩
      | false => exact ⟨fun _ => ⟨hlen, fun r hr => Classical.byContradiction fun hn => by rw [hb16.2 ⟨r, hr, hn⟩] at hbb; cases hbb⟩, fun _ => rfl⟩, hs.out⟩
  · refine .gFs 5 7 true rfl rfl rfl ?_
    refine .z zpF (.z zg (.nil ?_))
    refine .ret (Fin.ret1 Tryz.results101 rfl ?_)
    exact ⟨H, _, HLe.refl H, rfl, ⟨fun h => (by cases h), fun h => by have := h.len; omega⟩, hs.out⟩
set_option maxHeartbeats 1000000 in
theorem offsets_Value_spec {H : Heap} {w : World} {σ : List Ent} {s : Spc} {q : Wht} {vst vwa vh : Value} {rows : List (List Int)} (hs : St H w σ) (h1 : RI H vst s.st) (h2 : RI H vwa s.wa) (hr : RT H vh rows) :
    Cl Tryz.prog 37 [.agg #[I s.id, I s.src, vst, vwa, I s.al, I s.up], .agg #[vh], .agg #[I q.kind, I q.st, I q.wa]] w fun u w' => ∃ H1 n e, HLe H H1 ∧ u = .tuple #[I n, I e] ∧ QvalR s rows q n e ∧ St H1 w' σ := by
  obtain ⟨ah, ch, rfl⟩ := hr.shape
  refine Cl.of Tryz.func37 rfl Tryz.ntmps37 (by simp) (args_cons (k := 0) rfl (args_cons (k := 1) rfl (args_cons (k := 2) rfl (args0)))) ?_
  refine .regSeq ?_
  refine .o (.box hs rfl rfl ?_); intro b3 w hs
  refine .o (.box hs rfl rfl ?_); intro b4 w hs
  refine .o (.box hs rfl rfl ?_); intro b5 w hs
  refine .z zg (.z zg (.nil (.seq (.regSeq (.y hs (zls [_, _, _, _, _, _] Tryz.isAgg34 Tryz.sizeOf34) ?_)))))
  refine .o (.call Tryz.call41 rfl (offsets_CheckSpace_spec (s := s) hs h1 h2) ?_); rintro _ w ⟨H1, e, hle1, rfl, he, hs⟩
  refine .z zg (.nil (.regSeq (.z zm (.z zneq (.nil ?_)))))
  refine (.condN rfl (fun hc17 => ?_) (fun hc17 => ?_))
  · refine .regSeq (.z zm (.z zg (.z zg (.nil ?_))))
    refine .ret (rT (?_))
    have hq : ¬ SpcOk s ∧ e = 30 := he.resolve_left fun h => hc17 h.2
    exact Fin.retD [] [] hs fun w hs => ⟨_, results2 Tryz.results37 rfl rfl, H1, _, _, hle1, rfl, by rw [hq.2]; exact .space hq.1, hs.out⟩
  · refine .skip ?_
    refine nT ?_
    refine .seq (.regSeq (.y hs (zls [_, _, _, _, _, _] Tryz.isAgg34 Tryz.sizeOf34) (.y hs (zls [_] Tryz.isAgg63 Tryz.sizeOf63) ?_)))
    have hok : SpcOk s := (he.resolve_right fun h => by omega).1
    have hsm := spc_small hok
    refine .o (.call Tryz.call101 rfl (offsets_isHull_spec (s := s) hs (h1.mono hle1) (h2.mono hle1) (hr.mono hle1)) ?_); rintro _ w ⟨H2, b21, hle2, rfl, hb21, hs⟩
    have hle02 := hle1.trans hle2
    refine .z znot (.nil ?_)
    refine (.cond rfl (fun hc22 => ?_) (fun hc22 => ?_))
    · refine .regSeq (.z zg (.z zg (.nil ?_)))
      refine .ret (rT (?_))
      exact Fin.retD [] [] hs fun w hs => ⟨_, results2 Tryz.results37 rfl rfl, H2, _, _, hle02, rfl, .hull hok (fun h => by rw [hb21.2 h] at hc22; cases hc22), hs.out⟩
    · refine .skip ?_
      refine nT ?_
      refine .regSeq (.y hs (zls [_, _, _, _, _, _] Tryz.isAgg34 Tryz.sizeOf34) (.y hs (zls [_, _, _] Tryz.isAgg29 Tryz.sizeOf29) ?_))
      have hh : HullOk s rows := hb21.1 (by simpa using hc22)
      refine .o (.call Tryz.call102 rfl (offsets_weights_spec (s := s) (q := q) hs (h1.mono hle02) (h2.mono hle02) hok) ?_); rintro _ w ⟨H3, vl, L, d, b, en, hle3, rfl, hO, hcase, hs⟩
      have hle03 := hle02.trans hle3
      obtain ⟨al, cl, rfl⟩ := hO.shapeI
      refine .z zm (.z zex (.z zex (.z zex ?_)))
      refine .o (.alloc hs Tryz.zeroValue22 rfl ?_); intro b9 w hs
      refine .o (.store hs rfl rfl Tryz.sizeOf22 ?_); intro w hs
      refine .z zg (.z zg (.nil (.seq (.regSeq (.z zm (.z znot (.nil ?_)))))))
      refine (.cond rfl (fun hc31 => ?_) (fun hc31 => ?_))
      · refine .regSeq (.z zg (.z zg (.nil ?_)))
        refine .ret (rT (?_))
        have hq : ¬ WhtOk s q := by
          rcases hcase with ⟨g, _⟩ | ⟨_, g, _⟩
          · subst g; cases hc31
          · exact g
        exact Fin.retD [] [] hs fun w hs => ⟨_, results2 Tryz.results37 rfl rfl, H3, _, _, hle03, rfl, .what hok hh hq, hs.out⟩
      · refine .skip ?_
        refine nT ?_
        refine .regSeq ?_
        refine .o (.alloc hs Tryz.zeroValue3 rfl ?_); intro b12 w hs
        refine .o (.store hs rfl rfl Tryz.sizeOf3 ?_); intro w hs
        refine .nil (.seq (.regSeq (.y hs (zls [_, _, _, _, _, _] Tryz.isAgg34 Tryz.sizeOf34) ?_)))
        obtain ⟨rfl, hq, rfl, rfl⟩ : b = true ∧ WhtOk s q ∧ L = whtL s q ∧ d = divW q := hcase.resolve_right fun h => by rw [h.1] at hc31; cases hc31
        have hwl := whtL_length s q
        obtain ⟨H4, hle4, hW, hs⟩ := OwnS.publishI hO (by omega) hs (by repeat constructor)
        have hle04 := hle03.trans hle4
        refine .o (.call Tryz.call103 rfl (offsets_all_spec (s := s) hs (h1.mono hle04) (h2.mono hle04) ⟨by omega, by omega⟩) ?_); rintro _ w ⟨H5, ba, hle5, rfl, hit, hs⟩
        have hle05 := hle04.trans hle5
        replace hW := hW.mono hle5
        have hr5 := hr.mono hle05
        refine .nil (.block ?_)
        refine .rangeFunc (gf := 190) (cap := [.pointer (some ⟨ba, 0, none⟩)]) (xs := allV s) (σb := [.blk b12 [I (hullSum s q rows 0)], .blk b9 [.slice al (whtL s q).length cl], .blk b4 [.slice ah rows.length ch]]) (σf := σ) (hs.sub (by repeat (first | exact Sub.refl _ | constructor | apply Sub.weaken))) trivial rfl hit Tryz.call190 (fun x hx => by
            simp only [allV, List.mem_map] at hx
            obtain ⟨j, _, rfl⟩ := hx; rfl) rfl
          (I := fun p H' σb => σb = [.blk b12 [I (hullSum s q rows p)], .blk b9 [.slice al (whtL s q).length cl], .blk b4 [.slice ah rows.length ch]]) (Ix := fun _ _ _ => False)
          (fun j _ _ σ g1 g2 => g2) (fun _ _ _ _ _ h => h) rfl ?_ ?_ (fun D c H' σb w _ h _ => h.elim)
        · rintro ly p hp H6 σb2 σf2 w hle6 rfl hs ⟨rr, hrr⟩
          have hpm : p < s.many := by rw [allV_length] at hp; exact hp
          have hin : p / s.wa.length < s.st.length := Nat.div_lt_of_lt_mul (by rw [Nat.mul_comm]; exact hpm)
          have hkm := Nat.mod_lt p hsm.2.2.1
          have hsucc : hullSum s q rows (p + 1) = hullSum s q rows p + gi (whtL s q) (p + 1) * gt rows (p / s.wa.length) (p % s.wa.length) := rfl
          have hb0 := hullSum_bd hok hq hh p (by omega)
          have hb1 := hullSum_bd hok hq hh (p + 1) (by omega)
          have hwz := whtL_sizes hok hq
          have hwz2 := sizes_at (whtL s q) (v := p + 1) (n := s.many + 1) (by omega)
          have hnum := hh.num _ hin _ hkm
          have hrow := hh.row _ hin
          have hrlen := hh.len
          have hprd := mul_bd (a := gi (whtL s q) (p + 1)) (b := gt rows (p / s.wa.length) (p % s.wa.length)) (A := 3456000000000) (B := 20000) (by omega) (by omega)
          have hgt : gt rows (p / s.wa.length) (p % s.wa.length) = gi (gr rows (p / s.wa.length)) (p % s.wa.length) := rfl
          rw [allV_get hp]
          generalize p / s.wa.length = i at *
          generalize p % s.wa.length = k at *
          rw [hgt] at hsucc hprd hnum
          refine .region ?_
          refine .o (.alloc hs Tryz.zeroValue158 rfl ?_); intro b13 w hs
          refine .o (.stores (vs := [_, _, _]) hs rfl rfl Tryz.sizeOf158 ?_); intro w hs
          refine .nil ?_
          refine nT ?_
          refine ⟨H6, [.blk b13 [I (i : Int), I (k : Int), I ((p + 1 : Nat) : Int)], .blk b12 [I (hullSum s q rows p)], .blk b9 [.slice al (whtL s q).length cl], .blk b4 [.slice ah rows.length ch]], HLe.refl _, hs, ?_⟩; rintro w σf4 - hs
          refine .block ?_
          refine .draw mix rfl hs ?_; intro w hs
          refine .y 0 rfl hs Tryz.isAgg3 ?_; refine .y 1 rfl hs Tryz.isAgg22 ?_; refine .z 2 rfl (zfa fa_offsets_offset_2) ?_; refine .y 3 rfl hs Tryz.isAgg3 ?_
          refine .ixX (enc := fun x => [I x]) (i := 4) hs rfl (by kernel_rfl) .none (hW.mono hle6) rfl rfl Tryz.runUnderlying22 Tryz.sizeOf3 (gi_get (l := (whtL s q)) (i := (p+1)) (by omega)) (by first | rfl | assumption | omega) ?_; intro b39 o39 hc39; replace hc39 := CellsAt.one hc39
          refine .r (i := 5) hs rfl (by kernel_rfl) .none (q_loadR rfl Tryz.isAgg3 hc39) ?_
          refine .z 6 rfl (zfa fa_api_Hull_0) ?_; refine .y 7 rfl hs Tryz.isAgg61 ?_; refine .z 8 rfl (zfa fa_offsets_offset_0) ?_; refine .y 9 rfl hs Tryz.isAgg3 ?_
          refine .ixT (i := 10) hs rfl (by kernel_rfl) .none (hr5.mono hle6) rfl rfl Tryz.runUnderlying61 Tryz.sizeOf22 (show i < _ by omega) (by first | rfl | assumption | omega) ?_; intro b45 o45 a45 c45 hc45 hR45
          refine .r (i := 11) hs rfl (by kernel_rfl) .none (q_loadR rfl Tryz.isAgg22 hc45) ?_
          refine .z 12 rfl (zfa fa_offsets_offset_1) ?_; refine .y 13 rfl hs Tryz.isAgg3 ?_
          refine .ixX (enc := fun x => [I x]) (i := 14) hs rfl (by kernel_rfl) .none hR45 rfl rfl Tryz.runUnderlying22 Tryz.sizeOf3 (gi_get (l := (gr rows i)) (i := k) (by omega)) (by first | rfl | assumption | omega) ?_; intro b49 o49 hc49; replace hc49 := CellsAt.one hc49
          refine .r (i := 15) hs rfl (by kernel_rfl) .none (q_loadR rfl Tryz.isAgg3 hc49) ?_
          refine .z 16 rfl zmul ?_; refine .z 17 rfl zadd ?_
          refine .e1 (i := 18) (by kernel_rfl) rfl rfl .none hs ?_
          refine .store hs rfl rfl Tryz.sizeOf3 ?_; intro w hs
          refine .go ?_
          refine .done (by kernel_rfl) hs ?_
          refine nB ?_
          exact ⟨H6, [.blk b12 [I (hullSum s q rows (p + 1))], .blk b9 [.slice al (whtL s q).length cl], .blk b4 [.slice ah rows.length ch]], HLe.refl _, by rw [hsucc]; exact (hs.sub (by repeat (first | exact Sub.refl _ | constructor | apply Sub.weaken)) : St H6 w (.blk b12 _ :: .blk b9 _ :: .blk b4 _ :: σf4)), rfl⟩
        · rintro D H6 σb2 w hle6 rfl hs
          rw [allV_length] at hs
          replace hs : St H6 w (.obj D (.deferred (some [])) :: .blk b12 [I (hullSum s q rows s.many)] :: .blk b9 [.slice al (whtL s q).length cl] :: .blk b4 [.slice ah rows.length ch] :: σ) := hs
          have hbd := hullSum_bd hok hq hh s.many (by omega)
          have hdp := divW_pos q
          refine nB (nT ?_)
          refine .regSeq (.y hs (zld Tryz.isAgg3) (.z zm ?_))
          refine .o (.call Tryz.call86 rfl (offsets_down_spec hs (by omega) (by omega)) ?_); rintro _ w ⟨rfl, hs⟩
          refine .z zg (.z zg (.nil ?_))
          refine .ret ?_
          exact Fin.retD [D] [] hs fun w hs => ⟨_, results2 Tryz.results37 rfl rfl, H6, _, _, hle05.trans hle6, rfl, .ok hok hh hq, hs.out⟩
end Go.Proofs.YtddaejgfjlneoaaGreat

namespace Go.Proofs.YtddaejgfjlneoaaGreat
open Go.MW
set_option maxHeartbeats 4000000 in
theorem offsets_Told_spec {H : Heap} {w : World} {σ : List Ent} {s : Srv} {r : Rdg} {vst vwa vr vc : Value} {z : Int} (hs : St H w σ) (h1 : RI H vst s.sp.st) (h2 : RI H vwa s.sp.wa) (h3 : RRd H vr s.rs) (h4 : RCm H vc s.cs) (hr0 : r.val = 0) :
    Cl Tryz.prog 46 [.agg #[I s.sp.id, I s.sp.src, vst, vwa, I s.sp.al, I s.sp.up, vr, vc], .agg #[I r.src, I r.st, I r.wa, I z, I r.tol, I r.tape, I r.day]] w fun u w' => ∃ H1 lo hi e, HLe H H1 ∧ u = .tuple #[.agg #[I lo, I hi], I e] ∧ ToldR s r lo hi e ∧ St H1 w' σ := by
  obtain ⟨ast, cst, rfl⟩ := RI.shape h1
  obtain ⟨awa, cwa, rfl⟩ := RI.shape h2
  obtain ⟨ar, cr, rfl⟩ := RRd.shape h3
  obtain ⟨ac, cc, rfl⟩ := RCm.shape h4
  refine Cl.of Tryz.func46 rfl Tryz.ntmps46 (by simp) (args_cons (k := 0) rfl (args_cons (k := 1) rfl (args0))) ?_
  refine .regSeq ?_
  refine .o (.box hs rfl rfl ?_); intro b2 w hs
  refine .o (.box hs rfl rfl ?_); intro b3 w hs
  refine .o (.alloc hs Tryz.zeroValue44 rfl ?_); intro b4 w hs
  refine .z zg (.nil (.seq (.regSeq (.y hs (zls [_, _, _, _, _, _, _, _] Tryz.isAgg38 Tryz.sizeOf38) ?_))))
  refine .o (.call Tryz.call42 rfl (offsets_Check_spec (s := s) hs h1 h2 h3 h4) ?_); rintro _ w ⟨H1, e, hle1, rfl, hC, hs⟩
  refine .z zg (.nil (.regSeq (.z zm (.z zneq (.nil ?_)))))
  refine (.condN rfl (fun hc19 => ?_) (fun hc19 => ?_))
  · refine .regSeq (.z (zbd [_, _] bld_api_Range) (.z zm ?_))
    refine .o (.stores (vs := [_, _]) hs rfl rfl Tryz.sizeOf44 ?_); intro w hs
    refine .z zg (.nil ?_)
    refine .ret (rT (?_))
    exact Fin.retD [] [] hs fun w hs => ⟨_, results2 Tryz.results46 (rcells (vs := [_, _]) hs rfl Tryz.isAgg44 Tryz.sizeOf44) rfl, H1, _, _, _, hle1, rfl, .bad hC hc19, hs.out⟩
  · refine .skip ?_
    refine nT ?_
    refine .regSeq (.z (zfa fa_api_Reading_3) ?_)
    refine .o (.store hs rfl rfl Tryz.sizeOf3 ?_); intro w hs
    refine .nil (.seq (.regSeq (.z (zfa fa_api_Survey_0) (.y hs (zls [_, _, _, _, _, _] Tryz.isAgg34 Tryz.sizeOf34) (.y hs (zls [_, _, _, _, _, _, _] Tryz.isAgg80 Tryz.sizeOf80) ?_)))))
    have hok : SrvOk s := hC.ok_iff.1 (by simpa using hc19)
    have hsm := spc_small hok.early.1
    have hrl := hok.early.2.1
    have hcl := hok.early.2.2.1
    have hmm := hok.many
    have hll := hok.lims
    have hn := srv_n s
    have htl : s.tapes.length ≤ 60 := by have := tapesOf_length s.rs; unfold Srv.tapes; omega
    change St _ _ (.blk b4 _ :: .blk b3 [I r.src, I r.st, I r.wa, I 0, I r.tol, I r.tape, I r.day] :: _) at hs
    refine .o (.call Tryz.call107 rfl (offsets_isReading_spec (s := s.sp) (r := ⟨r.src, r.st, r.wa, 0, r.tol, r.tape, r.day⟩) hs (h1.mono hle1) (h2.mono hle1)) ?_); rintro _ w ⟨b26, rfl, hb26, hs⟩
    rw [show (⟨r.src, r.st, r.wa, 0, r.tol, r.tape, r.day⟩ : Rdg) = r by rw [← hr0]] at hb26
    refine .z znot (.nil ?_)
    refine (.cond rfl (fun hc27 => ?_) (fun hc27 => ?_))
    · refine .regSeq (.z (zbd [_, _] bld_api_Range) ?_)
      refine .o (.stores (vs := [_, _]) hs rfl rfl Tryz.sizeOf44 ?_); intro w hs
      refine .z zg (.nil ?_)
      refine .ret (rT (?_))
      exact Fin.retD [] [] hs fun w hs => ⟨_, results2 Tryz.results46 (rcells (vs := [_, _]) hs rfl Tryz.isAgg44 Tryz.sizeOf44) rfl, H1, _, _, _, hle1, rfl, .rdg hok (fun h => by rw [hb26.2 h] at hc27; cases hc27), hs.out⟩
    · refine .skip ?_
      refine nT ?_
      refine .regSeq (.y hs (zls [_, _, _, _, _, _, _, _] Tryz.isAgg38 Tryz.sizeOf38) ?_)
      have hr : RdgOk s.sp r := hb26.1 (by simpa using hc27)
      obtain ⟨g1, g2, g3, g4, g5, g6, g7⟩ := id hr
      refine .o (.call Tryz.call92 rfl (offsets_system_own (s := s) hs (h1.mono hle1) (h2.mono hle1) (h3.mono hle1) (h4.mono hle1) hok.early) ?_); rintro _ w ⟨H2, vl, enL, hle2, rfl, hOL, hs⟩
      have hle02 := hle1.trans hle2
      obtain ⟨al, ll, cl, rfl, hlL⟩ := hOL.shape
      rw [Lims_length] at hlL
      refine .o (.alloc hs Tryz.zeroValue70 rfl ?_); intro b7 w hs
      refine .o (.stores (vs := [_, _]) hs rfl rfl Tryz.sizeOf70 ?_); intro w hs
      refine .nil (.regSeq (.y hs (zls [_, _, _, _, _, _, _, _] Tryz.isAgg38 Tryz.sizeOf38) ?_))
      refine .o (.call Tryz.call90 rfl (offsets_tapes_own (s := s) hs (h3.mono hle02) (by omega)) ?_); rintro v32 w ⟨H3, enT, hle3, hOT, hs⟩
      have hle03 := hle02.trans hle3
      obtain ⟨at_, ct, rfl⟩ := hOT.shapeX (tdc_2 _) (by omega)
      rw [tdc_length] at hOT ⊢
      refine .z zg (.nil (.regSeq (.z zm (.y hs (zls [_, _, _, _, _, _, _] Tryz.isAgg80 Tryz.sizeOf80) ?_))))
      refine .o (.call Tryz.call114 rfl (offsets_tapeOf_spec (r := ⟨r.src, r.st, r.wa, 0, r.tol, r.tape, r.day⟩) hs) ?_); rintro _ w ⟨rfl, hs⟩
      refine .o (.call Tryz.call89 rfl (slices_Index_tdown (t := r.td) hs hOT (by omega)) ?_); rintro _ w ⟨rfl, hs⟩
      have hnn := tdIdx_nonneg (l := s.tapes) (t := r.td)
      have hcap2 : s.sys.many = ((s.sp.many + s.tapes.length : Nat) : Int) := rfl
      refine .z zg (.nil ?_)
      refine .cut (fun fs w => ∃ H4 al ll cl enL, FSub fs ⟨134, [], [(9, I (s.tJ r.td : Int)), (7, .pointer (some ⟨b7, 0, none⟩)), (4, .pointer (some ⟨b4, 0, none⟩)), (3, .pointer (some ⟨b3, 0, none⟩)), (2, .pointer (some ⟨b2, 0, none⟩))]⟩ ∧ HLe H3 H4 ∧ OwnS 4 (.slice al ll cl) (Lims (s.tSys r.td).lims) enL ∧ St H4 w (.blk b7 [I (s.tSys r.td).many, .slice al ll cl] :: enL :: .blk b4 [I 0, I 0] :: .blk b3 [I r.src, I r.st, I r.wa, I 0, I r.tol, I r.tape, I r.day] :: .blk b2 [I s.sp.id, I s.sp.src, .slice ast s.sp.st.length cst, .slice awa s.sp.wa.length cwa, I s.sp.al, I s.sp.up, .slice ar s.rs.length cr, .slice ac s.cs.length cc] :: σ)) ?_ ?_
      · refine .regSeq (.z zm (.z zlss (.nil ?_)))
        refine (.condD rfl (fun hc38 => ?_) (fun hc38 => ?_))
        · refine .regSeq (.z zm (.z (zlen Tryz.runUnderlying51) (.z zg (.nil ?_))))
          refine .seq (.draw mix rfl hs ?_); intro w hs
          refine .ys 0 rfl hs [_, _, _, _, _, _, _, _] Tryz.isAgg38 Tryz.sizeOf38 ?_; refine .z 1 rfl zm ?_; refine .ys 2 rfl hs [_, _, _, _, _, _, _] Tryz.isAgg80 Tryz.sizeOf80 ?_
          refine .e1 (i := 3) (by kernel_rfl) rfl rfl .none hs ?_
          refine .call Tryz.call114 rfl (offsets_tapeOf_spec (r := ⟨r.src, r.st, r.wa, 0, r.tol, r.tape, r.day⟩) hs) ?_; rintro _ w ⟨rfl, hs⟩
          refine .go ?_
          refine .e1 (i := 4) (by kernel_rfl) rfl rfl .none hs ?_
          refine .buildSlice (cells := [_, _]) hs bls_sl_api_TapeDay_1 rfl rfl ?_; intro b45 w hs
          refine .go ?_
          refine .e1 (i := 5) (by kernel_rfl) rfl rfl .none hs ?_
          refine .append (ys := r.td.c) hs app_sl_api_TapeDay_api_TapeDay rfl rfl hOT (.own .here rfl rfl) (by simp [TD.c, Value.oneCell']) (fun l h => by rw [flat_length _ (tdc_2 _), tdc_length] at h; omega) ?_; intro v46 en46 w hO46 hs
          rw [← tdc_snoc] at hO46
          obtain ⟨H4, hle4, hT4, hs⟩ := OwnS.publish (m := 2) (cs := tdc (s.tapes ++ [r.td])) hO46 (tdc_2 _) (by omega) (by rw [tdc_length]; simp; omega) hs (by repeat constructor)
          replace hT4 : RTd H4 v46 (s.tapes ++ [r.td]) := hT4
          obtain ⟨a46, c46, rfl⟩ := RTd.shape hT4
          have hle04 := hle03.trans hle4
          have hk4 : MkK H4 s (s.tapes ++ [r.td]) (.slice ast s.sp.st.length cst) (.slice awa s.sp.wa.length cwa) (.slice ar s.rs.length cr) (.slice ac s.cs.length cc) (.slice a46 (s.tapes ++ [r.td]).length c46) := ⟨h1.mono hle04, h2.mono hle04, h3.mono hle04, h4.mono hle04, hT4⟩
          refine .go ?_
          refine .z 6 rfl (zbd (vs := [(0, .agg #[I s.sp.id, I s.sp.src, .slice ast s.sp.st.length cst, .slice awa s.sp.wa.length cwa, I s.sp.al, I s.sp.up, .slice ar s.rs.length cr, .slice ac s.cs.length cc]), (1, .slice a46 (s.tapes ++ [r.td]).length c46)]) [I s.sp.id, I s.sp.src, .slice ast s.sp.st.length cst, .slice awa s.sp.wa.length cwa, I s.sp.al, I s.sp.up, .slice ar s.rs.length cr, .slice ac s.cs.length cc, .slice a46 (s.tapes ++ [r.td]).length c46, .slice none 0 0] bld_offsets_maker rfl (by kernel_rfl)) ?_
          refine .e1 (i := 7) (by kernel_rfl) rfl rfl .none hs ?_
          refine .box hs rfl rfl ?_; intro b48 w hs
          refine .go ?_
          refine .z 8 rfl zg ?_; refine .done (by kernel_rfl) hs ?_
          refine .seq (.draw mix rfl hs ?_); intro w hs
          refine .z 0 rfl zm ?_; refine .z 1 rfl zm ?_; refine .z 2 rfl zm ?_; refine .z 4 rfl (zfa fa_api_Survey_0) ?_; refine .z 5 rfl (zfa fa_api_Space_1) ?_; refine .y 6 rfl hs Tryz.isAgg3 ?_
          refine .e1 (i := 3) (by kernel_rfl) rfl rfl .none hs ?_
          refine .call Tryz.call116 rfl (maker_tape_spec (s := s.sp) hs .here hk4.st hk4.wa ⟨by omega, by omega⟩ ⟨by omega, by omega⟩) ?_; rintro _ w ⟨rfl, hs⟩
          refine .go ?_
          refine .e1 (i := 7) (by kernel_rfl) rfl rfl .none hs ?_
          refine .call Tryz.call115 rfl (maker_put_spec (ls := []) (hs.nul.sub (by repeat (first | exact Sub.refl _ | constructor | apply Sub.weaken)) : St H4 w (.blk b48 _ :: .nul :: .blk b7 [I s.sys.many, .slice al ll cl] :: enL :: .blk b4 [I 0, I 0] :: .blk b3 [I r.src, I r.st, I r.wa, I 0, I r.tol, I r.tape, I r.day] :: .blk b2 [I s.sp.id, I s.sp.src, .slice ast s.sp.st.length cst, .slice awa s.sp.wa.length cwa, I s.sp.al, I s.sp.up, .slice ar s.rs.length cr, .slice ac s.cs.length cc] :: σ)) (.nil 4 none) (by simp)) ?_; rintro _ w ⟨vl5, en5, hO5, hs⟩
          rw [List.nil_append] at hO5
          refine .go ?_
          refine .done (by kernel_rfl) hs ?_
          refine .regSeq (.z zm (.z zm ?_))
          refine .o (.call Tryz.call117 rfl (maker_compares_spec (s := s) (ts := s.tapes ++ [r.td]) (j0 := s.tapes.length) hs hk4 hO5 (by simp [two]) hok.early.1 (by simp; omega) hcl hok.early.2.2.2.2 (by simp)) ?_); rintro _ w ⟨H5, vl6, en6, hle5, hO6, hs⟩
          obtain ⟨a6, l6, c6, rfl, hl6⟩ := hO6.shape
          have hnot : r.td ∉ s.tapes := fun h => by have := hnn.2 h; omega
          have hsys : s.tSys r.td = ⟨s.sys.many + 1, s.lims ++ (two 0 ((s.sp.many : Int) + 1 + (s.tapes.length : Int)) 1000 1000 s.sp.src ++ cmpL s.sp (s.tapes ++ [r.td]) s.cs s.tapes.length s.cs.length)⟩ := if_neg hnot
          have hlen6 := tSys_len hok r.td
          rw [hsys, List.length_append] at hlen6
          rw [Lims_length] at hl6
          refine .nil ?_
          refine .draw mix rfl hs ?_; intro w hs
          refine .z 0 rfl (zfa fa_api_System_0) ?_; refine .y 1 rfl hs Tryz.isAgg3 ?_; refine .z 2 rfl zadd ?_; refine .z 3 rfl (zfa fa_api_System_1) ?_; refine .y 4 rfl hs Tryz.isAgg68 ?_; refine .z 5 rfl zm ?_; refine .z 6 rfl znc ?_; refine .z 7 rfl (zfa fa_offsets_maker_2) ?_; refine .y 8 rfl hs Tryz.isAgg68 ?_; refine .z 10 rfl (zfa fa_api_System_0) ?_
          refine .e1 (i := 9) (by kernel_rfl) rfl rfl .none hs ?_
          refine .append (ys := Lims (two 0 ((s.sp.many : Int) + 1 + (s.tapes.length : Int)) 1000 1000 s.sp.src ++ cmpL s.sp (s.tapes ++ [r.td]) s.cs s.tapes.length s.cs.length)) hs app_sl_api_Limit_api_Limit rfl rfl hOL (Src.ofOwn hO6 (.there .here)) (Lims_cell _) (fun l h => by rw [Lims_length] at h; omega) ?_; intro v69 en69 w hO69 hs
          rw [← Lims_append] at hO69
          obtain ⟨a69, l69, c69, rfl, h69⟩ := hO69.shape
          refine .go ?_
          refine .e1 (i := 11) (by kernel_rfl) rfl rfl .none hs ?_
          refine .store hs rfl rfl Tryz.sizeOf3 ?_; intro w hs
          refine .go ?_
          refine .z 12 rfl (zfa fa_api_System_1) ?_
          refine .e1 (i := 13) (by kernel_rfl) rfl rfl .none hs ?_
          refine .store hs rfl rfl Tryz.sizeOf68 ?_; intro w hs
          refine .go ?_
          refine .done (by kernel_rfl) hs ?_
          refine nT ?_
          refine ⟨H5, a69, l69, c69, en69, ?_, hle4.trans hle5, by rw [hsys]; exact hO69, by rw [hsys]; exact hs.sub (by repeat (first | exact Sub.refl _ | constructor | apply Sub.weaken))⟩
          refine .consI rfl ?_ (by repeat (first | exact .nil rfl rfl | refine .cons rfl ?_))
          unfold Srv.tJ; rw [if_neg hnot]
        · refine .skip ?_
          refine nT ?_
          have hmem : r.td ∈ s.tapes := hnn.1 (by omega)
          have hsys : s.tSys r.td = s.sys := if_pos hmem
          obtain ⟨k, k1, _, _⟩ := tdIdx_mem hmem
          refine ⟨H3, al, ll, cl, enL, ?_, HLe.refl _, by rw [hsys]; exact hOL, by rw [hsys]; exact hs.sub (by repeat (first | exact Sub.refl _ | constructor | apply Sub.weaken))⟩
          refine .consI rfl ?_ (by repeat (first | exact .nil rfl rfl | refine .cons rfl ?_))
          unfold Srv.tJ; rw [if_pos hmem, k1]; rfl
      · clear hOL hOT hlL hnn
        rintro fs w ⟨H4, al, ll, cl, enL, hfs, hle4, hOL, hs⟩
        refine WE.sub ?_ hfs
        have hle04 := hle03.trans hle4
        obtain ⟨_, _, _, e0, hlL⟩ := hOL.shape
        cases e0
        rw [Lims_length] at hlL
        have htn := tSys_n s r.td
        have hjlt := tJ_lt s r.td
        have hmany : (s.tSys r.td).many + 1 = ((s.tSys r.td).n : Int) := by
          unfold Srv.tSys
          split
          · simp only [Syst.n, Srv.sys]; omega
          · simp only [Syst.n, Srv.sys]; omega
        have hn70 : (s.tSys r.td).n ≤ 200 := by rw [htn]; split <;> omega
        have hll6 : ll = (s.tSys r.td).lims.length := by omega
        refine .seq (.regSeq (.z (zfa fa_api_System_0) (.y hs (zld Tryz.isAgg3) (.z zgtr (.z zm ?_)))))
        refine .bifD (t' := 75) rfl (fun hb75 => ?_) (fun hb75 => ?_)
        · refine .gFs 4 3 false rfl rfl rfl ?_
          refine .z zpT (.nil ?_)
          refine (.condT rfl rfl ?_)
          refine .regSeq (.z (zbd [_, _] bld_api_Range) ?_)
          refine .o (.stores (vs := [_, _]) hs rfl rfl Tryz.sizeOf44 ?_); intro w hs
          refine .z zg (.nil ?_)
          refine .ret (rT (?_))
          exact Fin.retD [] [] hs fun w hs => ⟨_, results2 Tryz.results46 (rcells (vs := [_, _]) hs rfl Tryz.isAgg44 Tryz.sizeOf44) rfl, H4, _, _, _, hle04, rfl, .long hok hr (by omega), hs.out⟩
        · refine .gT rfl rfl ?_
          refine .z (zfa fa_api_System_1) ?_
          refine .gT rfl rfl ?_
          refine .y hs (zld Tryz.isAgg68) ?_
          refine .gT rfl rfl ?_
          refine .z (zlen Tryz.runUnderlying68) ?_
          refine .gT rfl rfl ?_
          refine .z zgtr (.z zpF (.nil ?_))
          refine (.condD rfl (fun hc80 => ?_) (fun hc80 => ?_))
          · refine .regSeq (.z (zbd [_, _] bld_api_Range) ?_)
            refine .o (.stores (vs := [_, _]) hs rfl rfl Tryz.sizeOf44 ?_); intro w hs
            refine .z zg (.nil ?_)
            refine .ret (rT (?_))
            exact Fin.retD [] [] hs fun w hs => ⟨_, results2 Tryz.results46 (rcells (vs := [_, _]) hs rfl Tryz.isAgg44 Tryz.sizeOf44) rfl, H4, _, _, _, hle04, rfl, .long hok hr (by omega), hs.out⟩
          · refine .skip ?_
            refine nT ?_
            refine .regSeq (.z (zfa fa_api_System_0) (.y hs (zld Tryz.isAgg3) (.z zadd ?_)))
            have hfit : (s.tSys r.td).many ≤ 64 ∧ (s.tSys r.td).lims.length ≤ 400 := by omega
            refine .o (.makeI (s.tSys r.td).n hs (by show some (I _) = some (I _); rw [← hmany]) (by show some (I _) = some (I _); rw [← hmany]) Tryz.runUnderlying22 Tryz.typeInfo3 rfl Tryz.sizeOf3 Tryz.zeroValue3 (by omega) ?_); intro b85 w hs
            obtain ⟨u1, u2, u3⟩ := rdg_u hr
            have hub := u_bd u1 u2
            refine .z zg (.nil (.regSeq (.z zm (.z (zfa fa_api_Survey_0) (.y hs (zls [_, _, _, _, _, _] Tryz.isAgg34 Tryz.sizeOf34) (.z (zfa fa_api_Reading_1) (.y hs (zld Tryz.isAgg3) (.z (zfa fa_api_Reading_2) (.y hs (zld Tryz.isAgg3) ?_)))))))))
            refine .o (.call Tryz.call118 rfl (offsets_unknown_spec (s := s.sp) hs (h2.mono hle04) (by omega) ⟨by omega, by omega⟩ ⟨by omega, by omega⟩) ?_); rintro _ w ⟨rfl, hs⟩
            rw [u3]
            refine .q hs (q_ixO (k := s.sp.u r.st.toNat r.wa.toNat) rfl rfl Tryz.runUnderlying22 Tryz.sizeOf3 rfl (by omega)) ?_
            refine .o (.store (c' := Is (unitL (s.tSys r.td).n (s.sp.u r.st.toNat r.wa.toNat) 1)) hs rfl rfl Tryz.sizeOf3 ?_ (by repeat constructor) (by simp [Is]; omega) (Is_set _ _ _)); intro w hs
            refine .nil (.regSeq (.z zm (.z (zfa fa_api_Survey_0) (.y hs (zls [_, _, _, _, _, _] Tryz.isAgg34 Tryz.sizeOf34) ?_))))
            refine .o (.call Tryz.call91 rfl (offsets_many_spec (s := s.sp) hs (h1.mono hle04) (h2.mono hle04) ⟨by omega, by omega⟩) ?_); rintro _ w ⟨rfl, hs⟩
            refine .z zadd (.z zm (.z zadd ?_))
            refine .q hs (q_ixO (k := s.sp.many + 1 + s.tJ r.td) rfl rfl Tryz.runUnderlying22 Tryz.sizeOf3 (by omega) (by omega)) ?_
            refine .o (.store (c' := Is (s.tW r)) hs rfl rfl Tryz.sizeOf3 ?_ (by repeat constructor) (by simp [Is, unitL_length]; omega) (Is_set _ _ _)); intro w hs
            refine .nil (.regSeq (.y hs (zls [_, _] Tryz.isAgg70 Tryz.sizeOf70) (.z zm ?_)))
            have hwl : (s.tW r).length = (s.tSys r.td).n := by simp [Srv.tW, unitL_length]
            obtain ⟨H5, hle5, hW, hs⟩ := OwnS.publishI (xs := s.tW r) (v := .slice (some ⟨b85, 0, none⟩) (s.tSys r.td).n (s.tSys r.td).n) (.full (by simp [Is, hwl])) (by omega) hs (by repeat constructor)
            obtain ⟨H6, hle6, hL6, hs⟩ := OwnS.publish (m := 4) (cs := (s.tSys r.td).lims.map Lim.c) hOL (fun c hc => by simp only [List.mem_map] at hc; obtain ⟨x, _, rfl⟩ := hc; rfl) (by omega) (by rw [List.length_map]; omega) hs (by repeat constructor)
            refine .o (.call Tryz.call74 rfl (bound_Range_spec (s := s.tSys r.td) hs ⟨_, rfl, hL6⟩ (hW.mono hle6)) ?_); rintro _ w ⟨H7, a, b, f, hle7, rfl, hRg, hs⟩
            have hbd := hRg.bd
            have hleF := hle04.trans (hle5.trans (hle6.trans hle7))
            refine .z zm (.z zex (.z zex (.z zex (.z zg (.z zg (.z zg (.nil (.seq (.regSeq ?_)))))))))
            refine .z zm (.z zneq (.nil ?_))
            refine (.condN rfl (fun hc111 => ?_) (fun hc111 => ?_))
            · refine .regSeq (.z (zbd [_, _] bld_api_Range) ?_)
              refine .o (.stores (vs := [_, _]) hs rfl rfl Tryz.sizeOf44 ?_); intro w hs
              refine .z zg (.nil ?_)
              refine .ret (rT (?_))
              exact Fin.retD [] [] hs fun w hs => ⟨_, results2 Tryz.results46 (rcells (vs := [_, _]) hs rfl Tryz.isAgg44 Tryz.sizeOf44) rfl, H7, _, _, _, hleF, rfl, .fls hok hr hfit hRg hc111, hs.out⟩
            · refine .skip ?_
              refine nT ?_
              refine .regSeq ?_
              obtain rfl : f = 0 := by simpa using hc111
              refine .z zm (.z (zfa fa_api_Reading_4) (.y hs (zld Tryz.isAgg3) (.z zsub (.z zmax (.z zm (.z (zfa fa_api_Reading_4) (.y hs (zld Tryz.isAgg3) (.z zadd (.z (zfa fa_api_Reading_4) ?_)))))))))
              refine .y hs (zld Tryz.isAgg3) (.z zsub (.z zmin (.z (zbd [_, _] bld_api_Range) ?_)))
              refine .o (.alloc hs Tryz.zeroValue44 rfl ?_); intro b15 w hs
              refine .o (.stores (vs := [_, _]) hs rfl rfl Tryz.sizeOf44 ?_); intro w hs
              refine .nil (.seq (.regSeq (.z (zfa fa_api_Range_0) (.y hs (zld Tryz.isAgg3) (.z (zfa fa_api_Range_1) (.y hs (zld Tryz.isAgg3) (.z zgtr (.nil ?_))))))))
              refine (.condD rfl (fun hc131 => ?_) (fun hc131 => ?_))
              · refine .regSeq (.z (zbd [_, _] bld_api_Range) ?_)
                refine .o (.stores (vs := [_, _]) hs rfl rfl Tryz.sizeOf44 ?_); intro w hs
                refine .z zg (.nil ?_)
                refine .ret (rT (?_))
                exact Fin.retD [] [] hs fun w hs => ⟨_, results2 Tryz.results46 (rcells (vs := [_, _]) hs rfl Tryz.isAgg44 Tryz.sizeOf44) rfl, H7, _, _, _, hleF, rfl, .none hok hr hfit hRg (by omega), hs.out⟩
              · refine .skip ?_
                refine nT ?_
                refine .regSeq (.y hs (zls [_, _] Tryz.isAgg44 Tryz.sizeOf44) ?_)
                refine .o (.stores (vs := [_, _]) hs rfl rfl Tryz.sizeOf44 ?_); intro w hs
                refine .z zg (.nil ?_)
                refine .ret ?_
                exact Fin.retD [] [] hs fun w hs => ⟨_, results2 Tryz.results46 (rcells (vs := [_, _]) hs rfl Tryz.isAgg44 Tryz.sizeOf44) rfl, H7, _, _, _, hleF, rfl, .ok hok hr hfit hRg (by omega), hs.out⟩
end Go.Proofs.YtddaejgfjlneoaaGreat

namespace Go.Proofs.YtddaejgfjlneoaaGreat
open Go.MW
set_option maxRecDepth 100000 in
theorem rng3_stood : Tryz.prog.stoodInHeld 44 = false := by kernel_rfl
set_option maxRecDepth 100000 in
theorem rng3_guard : Tryz.prog.eqGuardType Tryz.prog.depth 44 = false := by kernel_rfl
theorem ref03_SameInts_spec {H : Heap} {w : World} {σ : List Ent} {v1 v2 : Value} {as_ bs : List Int} (hs : St H w σ) (h1 : RI H v1 as_) (h2 : RI H v2 bs) :
    Cl Tryz.prog 34 [v1, v2] w fun u w' => u = .bool (decide (as_ = bs)) ∧ St H w' σ := by
  obtain ⟨a1, c1, rfl⟩ := RI.shape h1
  obtain ⟨a2, c2, rfl⟩ := RI.shape h2
  have l1 := (RI.len h1).2.2
  refine Cl.of Tryz.func34 rfl Tryz.ntmps34 (by simp) (args_cons (k := 0) rfl (args_cons (k := 1) rfl (args0))) ?_
  refine .regSeq (.z zg (.nil (.regSeq (.z zm (.z (zlen Tryz.runUnderlying22) (.z zm (.z (zlen Tryz.runUnderlying22) (.z zeql (.z zg ?_)))))))))
  refine .nil (.seq (.regSeq (.z zg (.nil (.block ?_)))))
  refine .loop (fun p : Nat × Bool => ⟨31, [], [(6, I (p.1 : Int)), (5, .bool p.2), (0, .slice a1 as_.length c1), (1, .slice a2 bs.length c2)]⟩)
    (fun p w => p.1 ≤ as_.length ∧ (p.2 = true ↔ as_.length = bs.length ∧ ∀ j < p.1, gi as_ j = gi bs j) ∧ St H w σ) (fun p => as_.length - p.1) (0, decide ((as_.length : Int) = bs.length)) (by repeat (first | exact .nil rfl rfl | refine .cons rfl ?_))
    ⟨Nat.zero_le _, by dsimp only; rw [decide_eq_true_eq]; exact ⟨fun h => ⟨by omega, fun j hj => by omega⟩, fun h => by omega⟩, hs⟩ ?_
  rintro ⟨k, b⟩ w ⟨hk, hb, hs⟩
  dsimp only at hk hb ⊢
  refine .seq (.regSeq (.z zm (.z zm (.z (zlen Tryz.runUnderlying22) (.z zlss (.z zm ?_))))))
  refine .bifD (t' := 16) rfl (fun hb16 => ?_) (fun hb16 => ?_)
  · refine .gT rfl rfl ?_
    refine .z zm (.z zpT (.nil ?_))
    refine (.cond rfl (fun hc18 => ?_) (fun hc18 => ?_))
    · refine .skip ?_
      refine nT ?_
      refine .seq (.block ?_)
      refine .draw mix rfl hs ?_; intro w hs
      refine .z 0 rfl zm ?_; refine .z 1 rfl zm ?_
      obtain rfl : b = true := by assumption
      obtain ⟨hlen, hall⟩ := hb.1 rfl
      refine .ixX (enc := fun x => [I x]) (i := 2) hs rfl (by kernel_rfl) .none h1 rfl rfl Tryz.runUnderlying22 Tryz.sizeOf3 (gi_get (l := as_) (i := k) (by omega)) (by first | rfl | assumption | omega) ?_; intro b23 o23 hc23; replace hc23 := CellsAt.one hc23
      refine .r (i := 3) hs rfl (by kernel_rfl) .none (q_loadR rfl Tryz.isAgg3 hc23) ?_
      refine .z 4 rfl zm ?_; refine .z 5 rfl zm ?_
      refine .ixX (enc := fun x => [I x]) (i := 6) hs rfl (by kernel_rfl) .none h2 rfl rfl Tryz.runUnderlying22 Tryz.sizeOf3 (gi_get (l := bs) (i := k) (by omega)) (by first | rfl | assumption | omega) ?_; intro b27 o27 hc27; replace hc27 := CellsAt.one hc27
      refine .r (i := 7) hs rfl (by kernel_rfl) .none (q_loadR rfl Tryz.isAgg3 hc27) ?_
      refine .z 8 rfl zeql ?_; refine .z 9 rfl zg ?_; refine .done (by kernel_rfl) hs ?_
      refine nB (nT ?_)
      refine .region (.z zm (.z zadd (.z zg (.nil ?_))))
      refine nT ?_
      exact ⟨(k + 1, decide (gi as_ k = gi bs k)), .consI rfl (by simp) (by repeat (first | exact .nil rfl rfl | refine .cons rfl ?_)), ⟨by dsimp only; omega, by
        dsimp only
        rw [decide_eq_true_eq]
        exact ⟨fun h => ⟨hlen, fun j hj => by
          by_cases e : j = k
          · subst e; exact h
          · exact hall j (by omega)⟩, fun h => h.2 k (by omega)⟩, hs⟩, by dsimp only; omega⟩
    · refine .exit ?_
      refine xT (xT (xB (nT ?_)))
      refine .regSeq (.z zm (.z zg (.nil ?_)))
      refine .ret (Fin.ret1 Tryz.results34 rfl ?_)
      have hf : b = false := by simpa using hc18
      exact ⟨by rw [hf, decide_eq_false (fun h => by subst h; rw [hb.2 ⟨rfl, fun j _ => rfl⟩] at hf; cases hf)], hs⟩
  · refine .gFs 1 4 true rfl rfl rfl ?_
    refine .z zpF (.nil ?_)
    refine (.condF rfl rfl ?_)
    refine .exit ?_
    refine xT (xT (xB (nT ?_)))
    refine .regSeq (.z zm (.z zg (.nil ?_)))
    refine .ret (Fin.ret1 Tryz.results34 rfl ?_)
    refine ⟨?_, hs⟩
    congr 1
    cases hbb : b with
    | true =>
      obtain ⟨hl, ha⟩ := hb.1 hbb
      rw [decide_eq_true (ext_gi hl fun j hj => ha j (by omega))]
    | false => rw [decide_eq_false (fun h => by subst h; rw [hb.2 ⟨rfl, fun j _ => rfl⟩] at hbb; cases hbb)]
theorem law03_example_spec {H : Heap} {w : World} {σ : List Ent} (hs : St H w σ) :
    Cl Tryz.prog 82 [] w fun u w' => ∃ H1 vst vwa vr vc, HLe H H1 ∧ u = .agg #[I 1, I 1, vst, vwa, I 100, I 200, vr, vc] ∧ RI H1 vst exV.sp.st ∧ RI H1 vwa exV.sp.wa ∧ RRd H1 vr exV.rs ∧ RCm H1 vc exV.cs ∧ St H1 w' σ := by
  refine Cl.of Tryz.func82 rfl Tryz.ntmps82 (by simp) (args0) ?_
  refine .regSeq ?_
  refine .o (.alloc hs Tryz.zeroValue38 rfl ?_); intro b0 w hs
  refine .nil (.regSeq ?_)
  refine .o (.buildSlice (cells := Is [0, 1000]) hs bls_sl_int_2 rfl (by kernel_rfl) ?_); intro b2 w hs
  refine .o (.buildSlice (cells := Is [0, 1000]) hs bls_sl_int_2 rfl (by kernel_rfl) ?_); intro b3 w hs
  refine .z (zbd [_, _] bld_api_Fair) (.z (zbd [_, _, _, _, _, _] bld_api_Space) ?_)
  refine .o (.alloc hs Tryz.zeroValue34 rfl ?_); intro b1 w hs
  refine .o (.stores (vs := [_, _, _, _, _, _]) hs rfl rfl Tryz.sizeOf34 ?_); intro w hs
  refine .nil (.regSeq (.y hs (zls [_, _, _, _, _, _] Tryz.isAgg34 Tryz.sizeOf34) (.z (zbd [_, _, _, _, _, _, _] bld_api_Reading) (.z (zbd [_, _, _, _, _, _, _] bld_api_Reading) (.z (zbd [_, _, _, _, _, _, _] bld_api_Reading) (.z (zbd [_, _, _, _, _, _, _] bld_api_Reading) ?_))))))
  refine .o (.buildSlice (cells := (rdc exRs).flatten) hs bls_sl_api_Reading_4 rfl (by kernel_rfl) ?_); intro b11 w hs
  refine .z (zbd [_, _, _, _, _, _] bld_api_Compare) ?_
  refine .o (.buildSlice (cells := (cmc exV.cs).flatten) hs bls_sl_api_Compare_1 rfl (by kernel_rfl) ?_); intro b13 w hs
  refine .z (zbd (vs := [(0, .agg #[I 1, I 1, .slice (some ⟨b2, 0, none⟩) 2 2, .slice (some ⟨b3, 0, none⟩) 2 2, I 100, I 200]), (1, .slice (some ⟨b11, 0, none⟩) 4 4), (2, .slice (some ⟨b13, 0, none⟩) 1 1)]) [I 1, I 1, .slice (some ⟨b2, 0, none⟩) 2 2, .slice (some ⟨b3, 0, none⟩) 2 2, I 100, I 200, .slice (some ⟨b11, 0, none⟩) 4 4, .slice (some ⟨b13, 0, none⟩) 1 1] bld_api_Survey rfl (by kernel_rfl)) ?_
  refine .o (.stores (vs := [_, _, _, _, _, _, _, _]) hs rfl rfl Tryz.sizeOf38 ?_); intro w hs
  refine .nil ?_
  refine .ret ?_
  obtain ⟨H1, g1, r1, hs⟩ := OwnS.publishI (xs := [0, 1000]) (v := .slice (some ⟨b2, 0, none⟩) 2 2) (.full rfl) (by simp) hs (by repeat constructor)
  obtain ⟨H2, g2, r2, hs⟩ := OwnS.publishI (xs := [0, 1000]) (v := .slice (some ⟨b3, 0, none⟩) 2 2) (.full rfl) (by simp) hs (by repeat constructor)
  obtain ⟨H3, g3, r3, hs⟩ := OwnS.publish (m := 7) (cs := rdc exRs) (v := .slice (some ⟨b11, 0, none⟩) 4 4) (.full (by kernel_rfl)) (rdc_7 _) (by omega) (by decide) hs (by repeat constructor)
  obtain ⟨H4, g4, r4, hs⟩ := OwnS.publish (m := 6) (cs := cmc exV.cs) (v := .slice (some ⟨b13, 0, none⟩) 1 1) (.full (by kernel_rfl)) (cmc_6 _) (by omega) (by decide) hs (by repeat constructor)
  exact Fin.retD [] [] hs fun w hs => ⟨_, results1 Tryz.results82 (rcells (vs := [_, _, _, _, _, _, _, _]) hs rfl Tryz.isAgg38 Tryz.sizeOf38), H4, _, _, _, _, g1.trans (g2.trans (g3.trans g4)), rfl, r1.mono (g2.trans (g3.trans g4)), r2.mono (g3.trans g4), r3.mono g4, r4, hs.out⟩
theorem clash_ex {out : List Int} {e : Int} (h : ClashR exW out e) : out = [11, 15] ∧ e = 0 := by
  cases h with
  | bad h he => exact (he (h.ok_iff.2 exW_ok)).elim
  | ok _ h => rw [exW_sys] at h; exact exW_clash h
set_option maxHeartbeats 4000000 in
theorem law03_sane_spec {H : Heap} {w : World} {σ : List Ent} (hs : St H w σ) :
    Cl Tryz.prog 22 [] w fun u w' => u = .bool true ∧ ∃ H1, HLe H H1 ∧ St H1 w' σ := by
  refine Cl.of Tryz.func22 rfl Tryz.ntmps22 (by simp) (args0) ?_
  refine .regSeq (.z zg (.nil (.regSeq ?_)))
  refine .o (.call Tryz.call82 rfl (law03_example_spec hs) ?_); rintro _ w ⟨H1, vst, vwa, vr, vc, hle1, rfl, h1, h2, h3, h4, hs⟩
  obtain ⟨ast, cst, rfl⟩ := RI.shape h1
  obtain ⟨awa, cwa, rfl⟩ := RI.shape h2
  obtain ⟨ar, cr, rfl⟩ := RRd.shape h3
  obtain ⟨ac, cc, rfl⟩ := RCm.shape h4
  refine .o (.alloc hs Tryz.zeroValue38 rfl ?_); intro b1 w hs
  refine .o (.stores (vs := [_, _, _, _, _, _, _, _]) hs rfl rfl Tryz.sizeOf38 ?_); intro w hs
  refine .nil (.regSeq (.y hs (zls [_, _, _, _, _, _, _, _] Tryz.isAgg38 Tryz.sizeOf38) (.z (zbd [_, _, _] bld_api_What) ?_)))
  refine .o (.call Tryz.call26 rfl (offsets_Bound_spec (s := exV) (q := ⟨1, 0, 1⟩) hs h1 h2 h3 h4) ?_); rintro _ w ⟨H2, lo, hi, e, hle2, rfl, hQ, hs⟩
  obtain ⟨rfl, rfl, rfl⟩ := ex_litres hQ
  have hle02 := hle1.trans hle2
  replace h1 := h1.mono hle2
  replace h2 := h2.mono hle2
  replace h3 := h3.mono hle2
  replace h4 := h4.mono hle2
  refine .z zm (.z zex (.z zex ?_))
  refine .o (.alloc hs Tryz.zeroValue44 rfl ?_); intro b2 w hs
  refine .o (.stores (vs := [_, _]) hs rfl rfl Tryz.sizeOf44 ?_); intro w hs
  refine .z zg (.nil (.regSeq (.y hs (zls [_, _, _, _, _, _, _, _] Tryz.isAgg38 Tryz.sizeOf38) (.z (zbd [_, _] bld_api_TapeDay) ?_))))
  refine .o (.call Tryz.call28 rfl (offsets_Tape_spec (s := exV) (t := ⟨2, 5⟩) hs h1 h2 h3 h4) ?_); rintro _ w ⟨H3, lo, hi, e, hle3, rfl, hQ, hs⟩
  obtain ⟨rfl, rfl, rfl⟩ := ex_tape hQ
  have hle03 := hle02.trans hle3
  replace h1 := h1.mono hle3
  replace h2 := h2.mono hle3
  replace h3 := h3.mono hle3
  replace h4 := h4.mono hle3
  refine .z zm (.z zex (.z zex ?_))
  refine .o (.alloc hs Tryz.zeroValue44 rfl ?_); intro b4 w hs
  refine .o (.stores (vs := [_, _]) hs rfl rfl Tryz.sizeOf44 ?_); intro w hs
  refine .z zg (.nil (.regSeq (.z (zfa fa_api_Survey_0) (.y hs (zls [_, _, _, _, _, _] Tryz.isAgg34 Tryz.sizeOf34) ?_))))
  refine .o (.buildSlice (cells := Is [100, 200]) hs bls_sl_int_2 rfl (by kernel_rfl) ?_); intro b30 w hs
  refine .o (.buildSlice (cells := Is [150, 300]) hs bls_sl_int_2 rfl (by kernel_rfl) ?_); intro b31 w hs
  refine .o (.buildSlice (cells := [.slice (some ⟨b30, 0, none⟩) 2 2, .slice (some ⟨b31, 0, none⟩) 2 2]) hs bls_slLL_int_2 rfl (by kernel_rfl) ?_); intro b32 w hs
  refine .z (zbd [_] bld_api_Hull) (.z (zbd [_, _, _] bld_api_What) ?_)
  obtain ⟨H4, g1, r1, hs⟩ := OwnS.publishI (xs := [100, 200]) (v := .slice (some ⟨b30, 0, none⟩) 2 2) (.full rfl) (by simp) hs (by repeat constructor)
  obtain ⟨H5, g2, r2, hs⟩ := OwnS.publishI (xs := [150, 300]) (v := .slice (some ⟨b31, 0, none⟩) 2 2) (.full rfl) (by simp) hs (by repeat constructor)
  have hRL : RLs H5 [.slice (some ⟨b30, 0, none⟩) 2 2, .slice (some ⟨b31, 0, none⟩) 2 2] exRows := ((RLs.nil H5).snoc (r1.mono g2)).snoc r2
  obtain ⟨H6, g3, hRT, hs⟩ := hRL.publish (v := .slice (some ⟨b32, 0, none⟩) 2 2) (en := .blk b32 [.slice (some ⟨b30, 0, none⟩) 2 2, .slice (some ⟨b31, 0, none⟩) 2 2]) (.full rfl) (by simp) hs (by repeat constructor)
  have hle4 := g1.trans (g2.trans g3)
  have hle06 := hle03.trans hle4
  replace h1 := h1.mono hle4
  replace h2 := h2.mono hle4
  replace h3 := h3.mono hle4
  replace h4 := h4.mono hle4
  refine .o (.call Tryz.call37 rfl (offsets_Value_spec (s := exSp) (q := ⟨1, 0, 1⟩) hs h1 h2 hRT) ?_); rintro _ w ⟨H7, n, e, hle7, rfl, hQ, hs⟩
  obtain ⟨rfl, rfl⟩ := ex_value hQ
  have hle07 := hle06.trans hle7
  replace h1 := h1.mono hle7
  replace h2 := h2.mono hle7
  replace h3 := h3.mono hle7
  replace h4 := h4.mono hle7
  refine .z zm (.z zex (.z zex (.z zg (.z zg (.nil (.regSeq (.y hs (zls [_, _, _, _, _, _, _, _] Tryz.isAgg38 Tryz.sizeOf38) (.z (zbd [_, _, _, _, _, _, _] bld_api_Reading) ?_))))))))
  refine .o (.call Tryz.call46 rfl (offsets_Told_spec (s := exV) (r := ⟨30, 1, 0, 0, 5, 1, 5⟩) hs h1 h2 h3 h4 rfl) ?_); rintro _ w ⟨H8, lo, hi, e, hle8, rfl, hQ, hs⟩
  obtain ⟨rfl, rfl, rfl⟩ := ex_told hQ
  have hle08 := hle07.trans hle8
  replace h1 := h1.mono hle8
  replace h2 := h2.mono hle8
  replace h3 := h3.mono hle8
  replace h4 := h4.mono hle8
  refine .z zm (.z zex (.z zex ?_))
  refine .o (.alloc hs Tryz.zeroValue44 rfl ?_); intro b8 w hs
  refine .o (.stores (vs := [_, _]) hs rfl rfl Tryz.sizeOf44 ?_); intro w hs
  refine .z zg (.nil (.regSeq (.y hs (zls [_, _, _, _, _, _, _, _] Tryz.isAgg38 Tryz.sizeOf38) ?_)))
  refine .o (.alloc hs Tryz.zeroValue38 rfl ?_); intro b10 w hs
  refine .o (.stores (vs := [_, _, _, _, _, _, _, _]) hs rfl rfl Tryz.sizeOf38 ?_); intro w hs
  refine .nil (.regSeq ?_)
  refine .o (.buildSlice (cells := []) hs bls_sl_api_Reading_0 rfl rfl ?_); intro b45 w hs
  refine .z (zfa fa_api_Survey_1) (.y hs (zld Tryz.isAgg35) ?_)
  refine .o (.append (xs := []) (ys := (rdc exRs).flatten) hs app_sl_api_Reading_api_Reading rfl rfl (.full (b := b45) (len := 0) rfl) (.rs h3) (by decide) (fun l' h => by have hl : l' = 0 := (by simp at h; omega); subst hl; decide) ?_); intro v48 en48 w hO48 hs
  rw [List.nil_append] at hO48
  obtain ⟨a48, c48, rfl⟩ := hO48.shapeX (rdc_7 exRs) (by omega)
  refine .z (zbd [_, _, _, _, _, _, _] bld_api_Reading) ?_
  refine .o (.buildSlice (cells := Rdg.c ⟨15, 0, 0, 300, 10, 1, 5⟩) hs bls_sl_api_Reading_1 rfl (by kernel_rfl) ?_); intro b50 w hs
  refine .o (.append (ys := Rdg.c ⟨15, 0, 0, 300, 10, 1, 5⟩) hs app_sl_api_Reading_api_Reading rfl rfl hO48 (.own .here rfl rfl) (by decide) (fun l' h => by rw [flat_length _ (rdc_7 _)] at h; simp [rdc, exRs] at h; omega) ?_); intro v51 en51 w hO51 hs
  rw [← rdc_snoc] at hO51
  obtain ⟨H9, hle9, h3w, hs⟩ := OwnS.publish (m := 7) (cs := rdc (exRs ++ [⟨15, 0, 0, 300, 10, 1, 5⟩])) hO51 (rdc_7 _) (by omega) (by decide) hs (by repeat constructor)
  replace h3w : RRd H9 v51 exW.rs := h3w
  obtain ⟨a51, c51, rfl⟩ := RRd.shape h3w
  have hle09 := hle08.trans hle9
  replace h1 := h1.mono hle9
  replace h2 := h2.mono hle9
  replace h4 := h4.mono hle9
  refine .z (zfa fa_api_Survey_1) ?_
  refine .o (.store hs rfl rfl Tryz.sizeOf35 ?_); intro w hs
  refine .nil (.regSeq (.y hs (zls [_, _, _, _, _, _, _, _] Tryz.isAgg38 Tryz.sizeOf38) ?_))
  refine .o (.call Tryz.call32 rfl (offsets_Clash_spec (s := exW) hs h1 h2 h3w h4) ?_); rintro _ w ⟨H10, vx, out, e, hle10, rfl, hR, hQ, hs⟩
  obtain ⟨rfl, rfl⟩ := clash_ex hQ
  have hle010 := hle09.trans hle10
  refine .z zm (.z zex (.z zex (.z zg (.z zg (.nil (.regSeq (.z zm ?_)))))))
  refine .o (.buildSlice (cells := Is [11, 15]) hs bls_sl_int_2 rfl (by kernel_rfl) ?_); intro b59 w hs
  obtain ⟨H11, hle11, r59, hs⟩ := OwnS.publishI (xs := [11, 15]) (v := .slice (some ⟨b59, 0, none⟩) 2 2) (.full rfl) (by simp) hs (by repeat constructor)
  have hleF := hle010.trans hle11
  refine .o (.call Tryz.call34 rfl (ref03_SameInts_spec hs (hR.mono hle11) r59) ?_); rintro _ w ⟨rfl, hs⟩
  refine .z zg (.nil (.regSeq (.z zm (.z zeql (.z zm ?_)))))
  refine .bifD (t' := 63) rfl (fun hb63 => ?_) (fun hb63 => ?_)
  · refine .gT rfl rfl ?_
    refine .y hs (zls [_, _] Tryz.isAgg44 Tryz.sizeOf44) ?_
    refine .gT rfl rfl ?_
    refine .z (zbd [_, _] bld_api_Range) ?_
    refine .gT rfl rfl ?_
    refine .q hs (q_eqS2 rng3_stood rng3_guard Tryz.runUnderlying44 (fun f hf => by
      simp only [List.mem_cons, List.not_mem_nil, or_false] at hf
      rcases hf with rfl | rfl <;> exact ⟨by decide, Tryz.runUnderlying3, Tryz.isAgg3⟩) rfl rfl) ?_
    refine .z zpT (.z zm ?_)
    refine .bif (t' := 68) rfl (fun hb68 => ?_) (fun hb68 => ?_)
    · refine .gT rfl rfl ?_
      refine .z zm ?_
      refine .gT rfl rfl ?_
      refine .z zeql (.z zpT (.z zm ?_))
      refine .bifD (t' := 72) rfl (fun hb72 => ?_) (fun hb72 => ?_)
      · refine .gT rfl rfl ?_
        refine .y hs (zls [_, _] Tryz.isAgg44 Tryz.sizeOf44) ?_
        refine .gT rfl rfl ?_
        refine .z (zbd [_, _] bld_api_Range) ?_
        refine .gT rfl rfl ?_
        refine .q hs (q_eqS2 rng3_stood rng3_guard Tryz.runUnderlying44 (fun f hf => by
          simp only [List.mem_cons, List.not_mem_nil, or_false] at hf
          rcases hf with rfl | rfl <;> exact ⟨by decide, Tryz.runUnderlying3, Tryz.isAgg3⟩) rfl rfl) ?_
        refine .z zpT (.z zm ?_)
        refine .bif (t' := 77) rfl (fun hb77 => ?_) (fun hb77 => ?_)
        · refine .gT rfl rfl ?_
          refine .z zm ?_
          refine .gT rfl rfl ?_
          refine .z zeql (.z zpT (.z zm ?_))
          refine .bifD (t' := 81) rfl (fun hb81 => ?_) (fun hb81 => ?_)
          · refine .gT rfl rfl ?_
            refine .z zm ?_
            refine .gT rfl rfl ?_
            refine .z zeql (.z zpT (.z zm ?_))
            refine .bifD (t' := 85) rfl (fun hb85 => ?_) (fun hb85 => ?_)
            · refine .gT rfl rfl ?_
              refine .z zm ?_
              refine .gT rfl rfl ?_
              refine .z zeql (.z zpT (.z zm ?_))
              refine .bifD (t' := 89) rfl (fun hb89 => ?_) (fun hb89 => ?_)
              · refine .gT rfl rfl ?_
                refine .y hs (zls [_, _] Tryz.isAgg44 Tryz.sizeOf44) ?_
                refine .gT rfl rfl ?_
                refine .z (zbd [_, _] bld_api_Range) ?_
                refine .gT rfl rfl ?_
                refine .q hs (q_eqS2 rng3_stood rng3_guard Tryz.runUnderlying44 (fun f hf => by
                  simp only [List.mem_cons, List.not_mem_nil, or_false] at hf
                  rcases hf with rfl | rfl <;> exact ⟨by decide, Tryz.runUnderlying3, Tryz.isAgg3⟩) rfl rfl) ?_
                refine .z zpT (.z zm ?_)
                refine .bif (t' := 94) rfl (fun hb94 => ?_) (fun hb94 => ?_)
                · refine .gT rfl rfl ?_
                  refine .z zm ?_
                  refine .gT rfl rfl ?_
                  refine .z zeql (.z zpT (.z zm ?_))
                  refine .bifD (t' := 98) rfl (fun hb98 => ?_) (fun hb98 => ?_)
                  · refine .gT rfl rfl ?_
                    refine .z zm (.z zpT (.z zg (.nil ?_)))
                    refine .ret (Fin.ret1 Tryz.results22 rfl ?_)
                    first
                    | exact ⟨rfl, H11, hleF, hs.out⟩
                    | contradiction
                    | (exfalso; simp_all; done)
                  · refine .gFs 1 37 true rfl rfl rfl ?_
                    refine .z zpF (.z zg (.nil ?_))
                    refine .ret (Fin.ret1 Tryz.results22 rfl ?_)
                    first
                    | exact ⟨rfl, H11, hleF, hs.out⟩
                    | contradiction
                    | (exfalso; simp_all; done)
                · refine .gFs 2 33 true rfl rfl rfl ?_
                  refine .z zpF (.z zm ?_)
                  refine .gFs 1 37 true rfl rfl rfl ?_
                  refine .z zpF (.z zg (.nil ?_))
                  refine .ret (Fin.ret1 Tryz.results22 rfl ?_)
                  first
                  | exact ⟨rfl, H11, hleF, hs.out⟩
                  | contradiction
                  | (exfalso; simp_all; done)
              · refine .gFs 3 28 true rfl rfl rfl ?_
                refine .z zpF (.z zm ?_)
                refine .gFs 2 33 true rfl rfl rfl ?_
                refine .z zpF (.z zm ?_)
                refine .gFs 1 37 true rfl rfl rfl ?_
                refine .z zpF (.z zg (.nil ?_))
                refine .ret (Fin.ret1 Tryz.results22 rfl ?_)
                first
                | exact ⟨rfl, H11, hleF, hs.out⟩
                | contradiction
                | (exfalso; simp_all; done)
            · refine .gFs 2 24 true rfl rfl rfl ?_
              refine .z zpF (.z zm ?_)
              refine .gFs 3 28 true rfl rfl rfl ?_
              refine .z zpF (.z zm ?_)
              refine .gFs 2 33 true rfl rfl rfl ?_
              refine .z zpF (.z zm ?_)
              refine .gFs 1 37 true rfl rfl rfl ?_
              refine .z zpF (.z zg (.nil ?_))
              refine .ret (Fin.ret1 Tryz.results22 rfl ?_)
              first
              | exact ⟨rfl, H11, hleF, hs.out⟩
              | contradiction
              | (exfalso; simp_all; done)
          · refine .gFs 2 20 true rfl rfl rfl ?_
            refine .z zpF (.z zm ?_)
            refine .gFs 2 24 true rfl rfl rfl ?_
            refine .z zpF (.z zm ?_)
            refine .gFs 3 28 true rfl rfl rfl ?_
            refine .z zpF (.z zm ?_)
            refine .gFs 2 33 true rfl rfl rfl ?_
            refine .z zpF (.z zm ?_)
            refine .gFs 1 37 true rfl rfl rfl ?_
            refine .z zpF (.z zg (.nil ?_))
            refine .ret (Fin.ret1 Tryz.results22 rfl ?_)
            first
            | exact ⟨rfl, H11, hleF, hs.out⟩
            | contradiction
            | (exfalso; simp_all; done)
        · refine .gFs 2 16 true rfl rfl rfl ?_
          refine .z zpF (.z zm ?_)
          refine .gFs 2 20 true rfl rfl rfl ?_
          refine .z zpF (.z zm ?_)
          refine .gFs 2 24 true rfl rfl rfl ?_
          refine .z zpF (.z zm ?_)
          refine .gFs 3 28 true rfl rfl rfl ?_
          refine .z zpF (.z zm ?_)
          refine .gFs 2 33 true rfl rfl rfl ?_
          refine .z zpF (.z zm ?_)
          refine .gFs 1 37 true rfl rfl rfl ?_
          refine .z zpF (.z zg (.nil ?_))
          refine .ret (Fin.ret1 Tryz.results22 rfl ?_)
          first
          | exact ⟨rfl, H11, hleF, hs.out⟩
          | contradiction
          | (exfalso; simp_all; done)
      · refine .gFs 3 11 true rfl rfl rfl ?_
        refine .z zpF (.z zm ?_)
        refine .gFs 2 16 true rfl rfl rfl ?_
        refine .z zpF (.z zm ?_)
        refine .gFs 2 20 true rfl rfl rfl ?_
        refine .z zpF (.z zm ?_)
        refine .gFs 2 24 true rfl rfl rfl ?_
        refine .z zpF (.z zm ?_)
        refine .gFs 3 28 true rfl rfl rfl ?_
        refine .z zpF (.z zm ?_)
        refine .gFs 2 33 true rfl rfl rfl ?_
        refine .z zpF (.z zm ?_)
        refine .gFs 1 37 true rfl rfl rfl ?_
        refine .z zpF (.z zg (.nil ?_))
        refine .ret (Fin.ret1 Tryz.results22 rfl ?_)
        first
        | exact ⟨rfl, H11, hleF, hs.out⟩
        | contradiction
        | (exfalso; simp_all; done)
    · refine .gFs 2 7 true rfl rfl rfl ?_
      refine .z zpF (.z zm ?_)
      refine .gFs 3 11 true rfl rfl rfl ?_
      refine .z zpF (.z zm ?_)
      refine .gFs 2 16 true rfl rfl rfl ?_
      refine .z zpF (.z zm ?_)
      refine .gFs 2 20 true rfl rfl rfl ?_
      refine .z zpF (.z zm ?_)
      refine .gFs 2 24 true rfl rfl rfl ?_
      refine .z zpF (.z zm ?_)
      refine .gFs 3 28 true rfl rfl rfl ?_
      refine .z zpF (.z zm ?_)
      refine .gFs 2 33 true rfl rfl rfl ?_
      refine .z zpF (.z zm ?_)
      refine .gFs 1 37 true rfl rfl rfl ?_
      refine .z zpF (.z zg (.nil ?_))
      refine .ret (Fin.ret1 Tryz.results22 rfl ?_)
      first
      | exact ⟨rfl, H11, hleF, hs.out⟩
      | contradiction
      | (exfalso; simp_all; done)
  · refine .gFs 3 2 true rfl rfl rfl ?_
    refine .z zpF (.z zm ?_)
    refine .gFs 2 7 true rfl rfl rfl ?_
    refine .z zpF (.z zm ?_)
    refine .gFs 3 11 true rfl rfl rfl ?_
    refine .z zpF (.z zm ?_)
    refine .gFs 2 16 true rfl rfl rfl ?_
    refine .z zpF (.z zm ?_)
    refine .gFs 2 20 true rfl rfl rfl ?_
    refine .z zpF (.z zm ?_)
    refine .gFs 2 24 true rfl rfl rfl ?_
    refine .z zpF (.z zm ?_)
    refine .gFs 3 28 true rfl rfl rfl ?_
    refine .z zpF (.z zm ?_)
    refine .gFs 2 33 true rfl rfl rfl ?_
    refine .z zpF (.z zm ?_)
    refine .gFs 1 37 true rfl rfl rfl ?_
    refine .z zpF (.z zg (.nil ?_))
    refine .ret (Fin.ret1 Tryz.results22 rfl ?_)
    first
    | exact ⟨rfl, H11, hleF, hs.out⟩
    | contradiction
    | (exfalso; simp_all; done)
end Go.Proofs.YtddaejgfjlneoaaGreat

namespace Go.Proofs.YtddaejgfjlneoaaGreat
open Go.MW
set_option maxRecDepth 100000 in
theorem lim3_stood : Tryz.prog.stoodInHeld 160 = false := by kernel_rfl
set_option maxRecDepth 100000 in
theorem lim3_guard : Tryz.prog.eqGuardType Tryz.prog.depth 160 = false := by kernel_rfl
theorem lim_eq {a b : Lim} : (a.A = b.A ∧ a.B = b.B ∧ a.M = b.M ∧ a.S = b.S) ↔ a = b := by
  cases a; cases b; simp
theorem ref03_SameSystem_spec {H : Heap} {w : World} {σ : List Ent} {v1 v2 : Value} {a b : Syst} (hs : St H w σ) (h1 : RSy H v1 a) (h2 : RSy H v2 b) :
    Cl Tryz.prog 40 [v1, v2] w fun u w' => ∃ bb : Bool, u = .bool bb ∧ (bb = true ↔ a = b) ∧ St H w' σ := by
  obtain ⟨u1, rfl, g1⟩ := h1
  obtain ⟨u2, rfl, g2⟩ := h2
  obtain ⟨a1, c1, rfl⟩ := RL.shape g1
  obtain ⟨a2, c2, rfl⟩ := RL.shape g2
  have l1 := (RS.len g1).2.2
  have hiff : a = b ↔ a.many = b.many ∧ a.lims.length = b.lims.length ∧ ∀ j < a.lims.length, a.lims[j]? = b.lims[j]? := by
    constructor
    · rintro rfl; exact ⟨rfl, rfl, fun _ _ => rfl⟩
    · rintro ⟨e1, e2, e3⟩
      have : a.lims = b.lims := List.ext_getElem? fun j => by
        by_cases hj : j < a.lims.length
        · exact e3 j hj
        · rw [List.getElem?_eq_none (by omega), List.getElem?_eq_none (by omega)]
      cases a; cases b; simp_all
  refine Cl.of Tryz.func40 rfl Tryz.ntmps40 (by simp) (args_cons (k := 0) rfl (args_cons (k := 1) rfl (args0))) ?_
  refine .regSeq ?_
  refine .o (.box hs rfl rfl ?_); intro b2 w hs
  refine .o (.box hs rfl rfl ?_); intro b3 w hs
  refine .z zg (.nil (.regSeq (.z (zfa fa_api_System_0) (.y hs (zld Tryz.isAgg3) (.z (zfa fa_api_System_0) (.y hs (zld Tryz.isAgg3) (.z zeql (.z zm ?_))))))))
  refine .bifD (t' := 12) rfl (fun hb12 => ?_) (fun hb12 => ?_)
  · refine .gT rfl rfl ?_
    refine .z (zfa fa_api_System_1) ?_
    refine .gT rfl rfl ?_
    refine .y hs (zld Tryz.isAgg68) ?_
    refine .gT rfl rfl ?_
    refine .z (zlen Tryz.runUnderlying68) ?_
    refine .gT rfl rfl ?_
    refine .z (zfa fa_api_System_1) ?_
    refine .gT rfl rfl ?_
    refine .y hs (zld Tryz.isAgg68) ?_
    refine .gT rfl rfl ?_
    refine .z (zlen Tryz.runUnderlying68) ?_
    refine .gT rfl rfl ?_
    refine .z zeql (.z zpT (.z zg (.nil (.seq (.regSeq (.z zg (.nil (.block ?_))))))))
    refine .loop (fun p : Nat × Bool => ⟨43, [], [(6, I (p.1 : Int)), (5, .bool p.2), (2, .pointer (some ⟨b2, 0, none⟩)), (3, .pointer (some ⟨b3, 0, none⟩))]⟩)
      (fun p w => p.1 ≤ a.lims.length ∧ (p.2 = true ↔ a.many = b.many ∧ a.lims.length = b.lims.length ∧ ∀ j < p.1, a.lims[j]? = b.lims[j]?) ∧ St H w (.blk b3 [I b.many, .slice a2 b.lims.length c2] :: .blk b2 [I a.many, .slice a1 a.lims.length c1] :: σ)) (fun p => a.lims.length - p.1) (0, decide (a.many = b.many ∧ a.lims.length = b.lims.length)) (.cons rfl (.consV rfl (congrArg Value.bool (decide_eq_decide.2 ⟨fun h => ⟨hb12, by omega⟩, fun h => by omega⟩)) (by repeat (first | exact .nil rfl rfl | refine .cons rfl ?_))))
      ⟨Nat.zero_le _, by dsimp only; rw [decide_eq_true_eq]; exact ⟨fun h => ⟨h.1, h.2, fun j hj => by omega⟩, fun h => ⟨h.1, h.2.1⟩⟩, hs⟩ ?_
    rintro ⟨k, bb⟩ w ⟨hk, hb, hs⟩
    dsimp only at hk hb ⊢
    refine .seq (.regSeq (.z zm (.z (zfa fa_api_System_1) (.y hs (zld Tryz.isAgg68) (.z (zlen Tryz.runUnderlying68) (.z zlss (.z zm ?_)))))))
    refine .bifD (t' := 26) rfl (fun hb26 => ?_) (fun hb26 => ?_)
    · refine .gT rfl rfl ?_
      refine .z zm (.z zpT (.nil ?_))
      refine (.cond rfl (fun hc28 => ?_) (fun hc28 => ?_))
      · refine .skip ?_
        refine nT ?_
        refine .seq (.block ?_)
        refine .draw mix rfl hs ?_; intro w hs
        refine .z 0 rfl (zfa fa_api_System_1) ?_; refine .y 1 rfl hs Tryz.isAgg68 ?_; refine .z 2 rfl zm ?_
        obtain rfl : bb = true := by assumption
        obtain ⟨hm, hlen, hall⟩ := hb.1 rfl
        obtain ⟨x, hx⟩ := nth (l := a.lims) (k := k) (by omega)
        obtain ⟨y, hy⟩ := nth (l := b.lims) (k := k) (by omega)
        refine .ixX (enc := Lim.c) (i := 3) hs rfl (by kernel_rfl) .none g1 rfl rfl Tryz.runUnderlying68 Tryz.sizeOf160 hx (by first | rfl | assumption | omega) ?_; intro b34 o34 hc34
        refine .r (i := 4) hs rfl (by kernel_rfl) .none (q_loadsR (vs := x.c) rfl Tryz.isAgg160 Tryz.sizeOf160 hc34) ?_
        refine .z 5 rfl (zfa fa_api_System_1) ?_; refine .y 6 rfl hs Tryz.isAgg68 ?_; refine .z 7 rfl zm ?_
        refine .ixX (enc := Lim.c) (i := 8) hs rfl (by kernel_rfl) .none g2 rfl rfl Tryz.runUnderlying68 Tryz.sizeOf160 hy (by first | rfl | assumption | omega) ?_; intro b39 o39 hc39
        refine .r (i := 9) hs rfl (by kernel_rfl) .none (q_loadsR (vs := y.c) rfl Tryz.isAgg160 Tryz.sizeOf160 hc39) ?_
        refine .p (i := 10) rfl (by kernel_rfl) .none (q_eqS4 lim3_stood lim3_guard Tryz.runUnderlying160 (fun f hf => by
          simp only [List.mem_cons, List.not_mem_nil, or_false] at hf
          rcases hf with rfl | rfl | rfl | rfl <;> exact ⟨by decide, Tryz.runUnderlying3, Tryz.isAgg3⟩) rfl rfl) ?_
        refine .z 11 rfl zg ?_; refine .done (by kernel_rfl) hs ?_
        refine nB (nT ?_)
        refine .region (.z zm (.z zadd (.z zg (.nil ?_))))
        refine nT ?_
        exact ⟨(k + 1, decide (x.A = y.A ∧ x.B = y.B ∧ x.M = y.M ∧ x.S = y.S)), .consI rfl (by simp) (by repeat (first | exact .nil rfl rfl | refine .cons rfl ?_)), ⟨by dsimp only; omega, by
          dsimp only
          rw [decide_eq_true_eq, lim_eq]
          constructor
          · intro h
            refine ⟨hm, hlen, fun j hj => ?_⟩
            by_cases e : j = k
            · subst e; rw [hx, hy, h]
            · exact hall j (by omega)
          · intro h
            have := h.2.2 k (by omega)
            rw [hx, hy] at this
            exact Option.some.inj this, hs⟩, by dsimp only; omega⟩
      · refine .exit ?_
        refine xT (xT (xB (nT ?_)))
        refine .regSeq (.z zm (.z zg (.nil ?_)))
        refine .ret (Fin.ret1 Tryz.results40 rfl ?_)
        have hf : bb = false := by simpa using hc28
        subst hf
        exact ⟨false, rfl, by rw [hiff]; exact ⟨fun h => (by cases h), fun h => hb.2 ⟨h.1, h.2.1, fun j hj => h.2.2 j (by omega)⟩⟩, hs.out⟩
    · refine .gFs 1 5 true rfl rfl rfl ?_
      refine .z zpF (.nil ?_)
      refine (.condF rfl rfl ?_)
      refine .exit ?_
      refine xT (xT (xB (nT ?_)))
      refine .regSeq (.z zm (.z zg (.nil ?_)))
      refine .ret (Fin.ret1 Tryz.results40 rfl ?_)
      obtain rfl : k = a.lims.length := by omega
      exact ⟨bb, rfl, by rw [hiff]; exact hb, hs.out⟩
  · refine .gFs 7 5 true rfl rfl rfl ?_
    refine .z zpF (.z zg (.nil (.seq (.regSeq (.z zg (.nil (.block ?_)))))))
    refine .loop (fun p : Nat × Bool => ⟨43, [], [(6, I (p.1 : Int)), (5, .bool p.2), (2, .pointer (some ⟨b2, 0, none⟩)), (3, .pointer (some ⟨b3, 0, none⟩))]⟩)
      (fun p w => p.1 ≤ a.lims.length ∧ (p.2 = true ↔ a.many = b.many ∧ a.lims.length = b.lims.length ∧ ∀ j < p.1, a.lims[j]? = b.lims[j]?) ∧ St H w (.blk b3 [I b.many, .slice a2 b.lims.length c2] :: .blk b2 [I a.many, .slice a1 a.lims.length c1] :: σ)) (fun p => a.lims.length - p.1) (0, decide (a.many = b.many ∧ a.lims.length = b.lims.length)) (.cons rfl (.consV rfl (congrArg Value.bool (decide_eq_false fun h => hb12 h.1).symm) (by repeat (first | exact .nil rfl rfl | refine .cons rfl ?_))))
      ⟨Nat.zero_le _, by dsimp only; rw [decide_eq_true_eq]; exact ⟨fun h => ⟨h.1, h.2, fun j hj => by omega⟩, fun h => ⟨h.1, h.2.1⟩⟩, hs⟩ ?_
    rintro ⟨k, bb⟩ w ⟨hk, hb, hs⟩
    dsimp only at hk hb ⊢
    refine .seq (.regSeq (.z zm (.z (zfa fa_api_System_1) (.y hs (zld Tryz.isAgg68) (.z (zlen Tryz.runUnderlying68) (.z zlss (.z zm ?_)))))))
    refine .bifD (t' := 26) rfl (fun hb26 => ?_) (fun hb26 => ?_)
    · refine .gT rfl rfl ?_
      refine .z zm (.z zpT (.nil ?_))
      refine (.cond rfl (fun hc28 => ?_) (fun hc28 => ?_))
      · refine .skip ?_
        refine nT ?_
        refine .seq (.block ?_)
        refine .draw mix rfl hs ?_; intro w hs
        refine .z 0 rfl (zfa fa_api_System_1) ?_; refine .y 1 rfl hs Tryz.isAgg68 ?_; refine .z 2 rfl zm ?_
        obtain rfl : bb = true := by assumption
        obtain ⟨hm, hlen, hall⟩ := hb.1 rfl
        obtain ⟨x, hx⟩ := nth (l := a.lims) (k := k) (by omega)
        obtain ⟨y, hy⟩ := nth (l := b.lims) (k := k) (by omega)
        refine .ixX (enc := Lim.c) (i := 3) hs rfl (by kernel_rfl) .none g1 rfl rfl Tryz.runUnderlying68 Tryz.sizeOf160 hx (by first | rfl | assumption | omega) ?_; intro b34 o34 hc34
        refine .r (i := 4) hs rfl (by kernel_rfl) .none (q_loadsR (vs := x.c) rfl Tryz.isAgg160 Tryz.sizeOf160 hc34) ?_
        refine .z 5 rfl (zfa fa_api_System_1) ?_; refine .y 6 rfl hs Tryz.isAgg68 ?_; refine .z 7 rfl zm ?_
        refine .ixX (enc := Lim.c) (i := 8) hs rfl (by kernel_rfl) .none g2 rfl rfl Tryz.runUnderlying68 Tryz.sizeOf160 hy (by first | rfl | assumption | omega) ?_; intro b39 o39 hc39
        refine .r (i := 9) hs rfl (by kernel_rfl) .none (q_loadsR (vs := y.c) rfl Tryz.isAgg160 Tryz.sizeOf160 hc39) ?_
        refine .p (i := 10) rfl (by kernel_rfl) .none (q_eqS4 lim3_stood lim3_guard Tryz.runUnderlying160 (fun f hf => by
          simp only [List.mem_cons, List.not_mem_nil, or_false] at hf
          rcases hf with rfl | rfl | rfl | rfl <;> exact ⟨by decide, Tryz.runUnderlying3, Tryz.isAgg3⟩) rfl rfl) ?_
        refine .z 11 rfl zg ?_; refine .done (by kernel_rfl) hs ?_
        refine nB (nT ?_)
        refine .region (.z zm (.z zadd (.z zg (.nil ?_))))
        refine nT ?_
        exact ⟨(k + 1, decide (x.A = y.A ∧ x.B = y.B ∧ x.M = y.M ∧ x.S = y.S)), .consI rfl (by simp) (by repeat (first | exact .nil rfl rfl | refine .cons rfl ?_)), ⟨by dsimp only; omega, by
          dsimp only
          rw [decide_eq_true_eq, lim_eq]
          constructor
          · intro h
            refine ⟨hm, hlen, fun j hj => ?_⟩
            by_cases e : j = k
            · subst e; rw [hx, hy, h]
            · exact hall j (by omega)
          · intro h
            have := h.2.2 k (by omega)
            rw [hx, hy] at this
            exact Option.some.inj this, hs⟩, by dsimp only; omega⟩
      · refine .exit ?_
        refine xT (xT (xB (nT ?_)))
        refine .regSeq (.z zm (.z zg (.nil ?_)))
        refine .ret (Fin.ret1 Tryz.results40 rfl ?_)
        have hf : bb = false := by simpa using hc28
        subst hf
        exact ⟨false, rfl, by rw [hiff]; exact ⟨fun h => (by cases h), fun h => hb.2 ⟨h.1, h.2.1, fun j hj => h.2.2 j (by omega)⟩⟩, hs.out⟩
    · refine .gFs 1 5 true rfl rfl rfl ?_
      refine .z zpF (.nil ?_)
      refine (.condF rfl rfl ?_)
      refine .exit ?_
      refine xT (xT (xB (nT ?_)))
      refine .regSeq (.z zm (.z zg (.nil ?_)))
      refine .ret (Fin.ret1 Tryz.results40 rfl ?_)
      obtain rfl : k = a.lims.length := by omega
      exact ⟨bb, rfl, by rw [hiff]; exact hb, hs.out⟩
def SysR (v : Srv) (s : Syst) (e : Int) : Prop := SrvR v e ∧ (e = 0 → s = v.sys) ∧ (e ≠ 0 → s = ⟨0, []⟩)
theorem SysR.uniq {v : Srv} {s t : Syst} {e f : Int} (h : SysR v s e) (g : SysR v t f) : s = t ∧ e = f := by
  obtain rfl := h.1.uniq g.1
  by_cases h0 : e = 0
  · exact ⟨(h.2.1 h0).trans (g.2.1 h0).symm, rfl⟩
  · exact ⟨(h.2.2 h0).trans (g.2.2 h0).symm, rfl⟩
theorem offsets_System_spec {H : Heap} {w : World} {σ : List Ent} {s : Srv} {vst vwa vr vc : Value} (hs : St H w σ) (h1 : RI H vst s.sp.st) (h2 : RI H vwa s.sp.wa) (h3 : RRd H vr s.rs) (h4 : RCm H vc s.cs) :
    Cl Tryz.prog 38 [.agg #[I s.sp.id, I s.sp.src, vst, vwa, I s.sp.al, I s.sp.up, vr, vc]] w fun u w' => ∃ H1 t ul e, HLe H H1 ∧ u = .tuple #[.agg #[I t.many, ul], I e] ∧ RL H1 ul t.lims ∧ SysR s t e ∧ St H1 w' σ := by
  refine Cl.of Tryz.func38 rfl Tryz.ntmps38 (by simp) (args_cons (k := 0) rfl (args0)) ?_
  refine .regSeq ?_
  refine .o (.box hs rfl rfl ?_); intro b1 w hs
  refine .o (.alloc hs Tryz.zeroValue70 rfl ?_); intro b2 w hs
  refine .z zg (.nil (.seq (.regSeq (.y hs (zls [_, _, _, _, _, _, _, _] Tryz.isAgg38 Tryz.sizeOf38) ?_))))
  refine .o (.call Tryz.call42 rfl (offsets_Check_spec (s := s) hs h1 h2 h3 h4) ?_); rintro _ w ⟨H1, e, hle1, rfl, hC, hs⟩
  refine .z zg (.nil (.regSeq (.z zm (.z zneq (.nil ?_)))))
  refine (.condN rfl (fun hc8 => ?_) (fun hc8 => ?_))
  · refine .regSeq (.z (zbd [_, _] bld_api_System) (.z zm ?_))
    refine .o (.stores (vs := [_, _]) hs rfl rfl Tryz.sizeOf70 ?_); intro w hs
    refine .z zg (.nil ?_)
    refine .ret (rT (?_))
    exact Fin.retD [] [] hs fun w hs => ⟨_, results2 Tryz.results38 (rcells (vs := [_, _]) hs rfl Tryz.isAgg70 Tryz.sizeOf70) rfl, H1, ⟨0, []⟩, _, _, hle1, rfl, RS.nil H1 4 none 0, ⟨hC, fun h => (hc8 h).elim, fun _ => rfl⟩, hs.out⟩
  · refine .skip ?_
    refine nT ?_
    refine .regSeq (.y hs (zls [_, _, _, _, _, _, _, _] Tryz.isAgg38 Tryz.sizeOf38) ?_)
    have hok : SrvOk s := hC.ok_iff.1 (by simpa using hc8)
    refine .o (.call Tryz.call92 rfl (offsets_system_spec (s := s) hs (h1.mono hle1) (h2.mono hle1) (h3.mono hle1) (h4.mono hle1) hok.early) ?_); rintro _ w ⟨H2, hle2, ⟨ul, rfl, hL⟩, hs⟩
    obtain ⟨al, cl, rfl⟩ := RL.shape hL
    refine .o (.stores (vs := [_, _]) hs rfl rfl Tryz.sizeOf70 ?_); intro w hs
    refine .z zg (.nil ?_)
    refine .ret ?_
    exact Fin.retD [] [] hs fun w hs => ⟨_, results2 Tryz.results38 (rcells (vs := [_, _]) hs rfl Tryz.isAgg70 Tryz.sizeOf70) rfl, H2, s.sys, _, _, hle1.trans hle2, rfl, hL, ⟨.ok hok.early ⟨hok.many, hok.lims⟩, fun _ => rfl, fun h => (h rfl).elim⟩, hs.out⟩
theorem ref03_System_spec {H : Heap} {w : World} {σ : List Ent} {s : Srv} {vst vwa vr vc : Value} (hs : St H w σ) (h1 : RI H vst s.sp.st) (h2 : RI H vwa s.sp.wa) (h3 : RRd H vr s.rs) (h4 : RCm H vc s.cs) :
    Cl Tryz.prog 39 [.agg #[I s.sp.id, I s.sp.src, vst, vwa, I s.sp.al, I s.sp.up, vr, vc]] w fun u w' => ∃ H1 t ul e, HLe H H1 ∧ u = .tuple #[.agg #[I t.many, ul], I e] ∧ RL H1 ul t.lims ∧ SysR s t e ∧ St H1 w' σ := by
  refine Cl.of Tryz.func39 rfl Tryz.ntmps39 (by simp) (args_cons (k := 0) rfl (args0)) ?_
  refine .regSeq ?_
  refine .o (.box hs rfl rfl ?_); intro b1 w hs
  refine .o (.alloc hs Tryz.zeroValue70 rfl ?_); intro b2 w hs
  refine .z zg (.nil (.regSeq (.y hs (zls [_, _, _, _, _, _, _, _] Tryz.isAgg38 Tryz.sizeOf38) ?_)))
  refine .o (.call Tryz.call43 rfl (ref03_Check_spec (s := s) hs h1 h2 h3 h4) ?_); rintro _ w ⟨H1, e, hle1, rfl, hC, hs⟩
  refine .z zg (.nil (.seq (.regSeq (.z zm (.z zneq (.nil ?_))))))
  refine (.condN rfl (fun hc8 => ?_) (fun hc8 => ?_))
  · refine .regSeq (.z (zbd [_, _] bld_api_System) (.z zm ?_))
    refine .o (.stores (vs := [_, _]) hs rfl rfl Tryz.sizeOf70 ?_); intro w hs
    refine .z zg (.nil ?_)
    refine .ret (rT (?_))
    exact Fin.retD [] [] hs fun w hs => ⟨_, results2 Tryz.results39 (rcells (vs := [_, _]) hs rfl Tryz.isAgg70 Tryz.sizeOf70) rfl, H1, ⟨0, []⟩, _, _, hle1, rfl, RS.nil H1 4 none 0, ⟨hC, fun h => (hc8 h).elim, fun _ => rfl⟩, hs.out⟩
  · refine .skip ?_
    refine nT ?_
    refine .regSeq (.y hs (zls [_, _, _, _, _, _, _, _] Tryz.isAgg38 Tryz.sizeOf38) ?_)
    have hok : SrvOk s := hC.ok_iff.1 (by simpa using hc8)
    refine .o (.call Tryz.call95 rfl (ref03_system_spec (s := s) hs (h1.mono hle1) (h2.mono hle1) (h3.mono hle1) (h4.mono hle1) hok.early) ?_); rintro _ w ⟨H2, hle2, ⟨ul, rfl, hL⟩, hs⟩
    obtain ⟨al, cl, rfl⟩ := RL.shape hL
    refine .o (.stores (vs := [_, _]) hs rfl rfl Tryz.sizeOf70 ?_); intro w hs
    refine .z zg (.nil ?_)
    refine .ret ?_
    exact Fin.retD [] [] hs fun w hs => ⟨_, results2 Tryz.results39 (rcells (vs := [_, _]) hs rfl Tryz.isAgg70 Tryz.sizeOf70) rfl, H2, s.sys, _, _, hle1.trans hle2, rfl, hL, ⟨.ok hok.early ⟨hok.many, hok.lims⟩, fun _ => rfl, fun h => (h rfl).elim⟩, hs.out⟩
theorem spc_uniq {s : Spc} {e f : Int} (h : (SpcOk s ∧ e = 0) ∨ (¬ SpcOk s ∧ e = 30)) (g : (SpcOk s ∧ f = 0) ∨ (¬ SpcOk s ∧ f = 30)) : e = f := by
  rcases h with ⟨h, rfl⟩ | ⟨h, rfl⟩ <;> rcases g with ⟨g, rfl⟩ | ⟨g, rfl⟩ <;> first | rfl | contradiction
set_option maxHeartbeats 2000000 in
theorem law_FormRaw_walk {H : Heap} {w : World} {σ : List Ent} {v : Value} {s : Srv} (hs : St H w σ) (hr : RSv H v s) :
    Cl Tryz.prog 7 [v] w fun v w' => v = .bool true ∧ ∃ H', HLe H H' ∧ St H' w' σ := by
  obtain ⟨vst, vwa, vr, vc, rfl, h1, h2, h3, h4⟩ := hr
  refine Cl.of Tryz.func7 rfl Tryz.ntmps7 (by simp) (args_cons (k := 0) rfl (args0)) ?_
  refine .regSeq ?_
  refine .o (.box hs rfl rfl ?_); intro b1 w hs
  refine .z zg (.nil (.regSeq ?_))
  refine .o (.call Tryz.call22 rfl (law03_sane_spec hs) ?_); rintro _ w ⟨rfl, H1, hle1, hs⟩
  replace h1 := h1.mono hle1
  replace h2 := h2.mono hle1
  replace h3 := h3.mono hle1
  replace h4 := h4.mono hle1
  refine .z zg (.nil (.regSeq (.y hs (zls [_, _, _, _, _, _, _, _] Tryz.isAgg38 Tryz.sizeOf38) ?_)))
  refine .o (.call Tryz.call38 rfl (offsets_System_spec (s := s) hs h1 h2 h3 h4) ?_); rintro _ w ⟨H2, t, ul, e, hle2, rfl, hL, hS, hs⟩
  obtain ⟨al, cl, rfl⟩ := RL.shape hL
  have hle02 := hle1.trans hle2
  replace h1 := h1.mono hle2
  replace h2 := h2.mono hle2
  replace h3 := h3.mono hle2
  replace h4 := h4.mono hle2
  refine .z zm (.z zex (.z zex ?_))
  refine .o (.alloc hs Tryz.zeroValue70 rfl ?_); intro b4 w hs
  refine .o (.stores (vs := [_, _]) hs rfl rfl Tryz.sizeOf70 ?_); intro w hs
  refine .z zg (.nil (.regSeq (.y hs (zls [_, _, _, _, _, _, _, _] Tryz.isAgg38 Tryz.sizeOf38) ?_)))
  refine .o (.call Tryz.call39 rfl (ref03_System_spec (s := s) hs h1 h2 h3 h4) ?_); rintro _ w ⟨H3, t', ul', f, hle3, rfl, hL', hS', hs⟩
  obtain ⟨al', cl', rfl⟩ := RL.shape hL'
  obtain ⟨rfl, rfl⟩ := hS.uniq hS'
  have hle03 := hle02.trans hle3
  replace h1 := h1.mono hle3
  replace h2 := h2.mono hle3
  replace h3 := h3.mono hle3
  replace h4 := h4.mono hle3
  refine .z zm (.z zex (.z zex ?_))
  refine .o (.alloc hs Tryz.zeroValue70 rfl ?_); intro b6 w hs
  refine .o (.stores (vs := [_, _]) hs rfl rfl Tryz.sizeOf70 ?_); intro w hs
  refine .z zg (.nil (.regSeq (.y hs (zls [_, _] Tryz.isAgg70 Tryz.sizeOf70) (.y hs (zls [_, _] Tryz.isAgg70 Tryz.sizeOf70) ?_))))
  refine .o (.call Tryz.call40 rfl (ref03_SameSystem_spec (a := t) (b := t) hs ⟨_, rfl, hL.mono hle3⟩ ⟨_, rfl, hL'⟩) ?_); rintro _ w ⟨bb, rfl, hbb, hs⟩
  obtain rfl : bb = true := hbb.2 rfl
  refine .z zg (.nil ?_)
  refine .seq (.draw mix rfl hs ?_); intro w hs
  refine .z 0 rfl zm ?_; refine .z 1 rfl zm ?_
  refine .bif (t' := 24) rfl (fun hb24 => ?_) (fun hb24 => ?_)
  · refine .z 2 rfl (zfa fa_api_Survey_0) ?_; refine .ys 3 rfl hs [_, _, _, _, _, _] Tryz.isAgg34 Tryz.sizeOf34 ?_; refine .z 5 rfl (zfa fa_api_Survey_0) ?_; refine .ys 6 rfl hs [_, _, _, _, _, _] Tryz.isAgg34 Tryz.sizeOf34 ?_
    refine .e1 (i := 4) (by kernel_rfl) rfl rfl (.some rfl rfl) hs ?_
    refine .call Tryz.call41 rfl (offsets_CheckSpace_spec (s := s.sp) hs h1 h2) ?_; rintro _ w ⟨H4, e27, hle4, rfl, q27, hs⟩
    have hle04 := hle03.trans hle4
    refine .go ?_
    refine .e1 (i := 7) (by kernel_rfl) rfl rfl (.some rfl rfl) hs ?_
    refine .call Tryz.call24 rfl (ref03_CheckSpace_spec (s := s.sp) hs (h1.mono hle4) (h2.mono hle4)) ?_; rintro _ w ⟨e30, rfl, q30, hs⟩
    obtain rfl := spc_uniq q27 q30
    refine .go ?_
    refine .z 8 rfl zeql ?_; refine .z 9 rfl zpT ?_; refine .z 10 rfl zm ?_
    refine .bifD (t' := 33) rfl (fun hb33 => ?_) (fun hb33 => ?_)
    · refine .ys 11 rfl hs [_, _, _, _, _, _, _, _] Tryz.isAgg38 Tryz.sizeOf38 ?_; refine .ys 13 rfl hs [_, _, _, _, _, _, _, _] Tryz.isAgg38 Tryz.sizeOf38 ?_
      refine .e1 (i := 12) (by kernel_rfl) rfl rfl (.some rfl rfl) hs ?_
      refine .call Tryz.call42 rfl (offsets_Check_spec (s := s) hs (h1.mono hle4) (h2.mono hle4) (h3.mono hle4) (h4.mono hle4)) ?_; rintro _ w ⟨H5, e35, hle5, rfl, q35, hs⟩
      have hle45 := hle4.trans hle5
      refine .go ?_
      refine .e1 (i := 14) (by kernel_rfl) rfl rfl (.some rfl rfl) hs ?_
      refine .call Tryz.call43 rfl (ref03_Check_spec (s := s) hs (h1.mono hle45) (h2.mono hle45) (h3.mono hle45) (h4.mono hle45)) ?_; rintro _ w ⟨H6, e37, hle6, rfl, q37, hs⟩
      obtain rfl := q35.uniq q37
      refine .go ?_
      refine .z 15 rfl zeql ?_; refine .z 16 rfl zpT ?_; refine .z 17 rfl zm ?_
      refine .bifD (t' := 40) rfl (fun hb40 => ?_) (fun hb40 => ?_)
      · refine .z 18 rfl zm ?_; refine .z 19 rfl zpT ?_; refine .z 20 rfl zm ?_
        refine .bif (t' := 43) rfl (fun hb43 => ?_) (fun hb43 => ?_)
        · refine .z 21 rfl zm ?_; refine .z 22 rfl zm ?_; refine .z 23 rfl zeql ?_; refine .z 24 rfl zpT ?_; refine .z 25 rfl zg ?_; refine .done (by kernel_rfl) hs ?_
          refine .ret (Fin.ret1 Tryz.results7 rfl ?_)
          exact ⟨by simp, H6, hle03.trans (hle45.trans hle6), hs.out⟩
        · refine .qF (i := 21) rfl (by kernel_rfl) rfl rfl ?_
          refine .qF (i := 22) rfl (by kernel_rfl) rfl rfl ?_
          refine .qF (i := 23) rfl (by kernel_rfl) rfl rfl ?_
          refine .z 24 rfl zpF ?_; refine .z 25 rfl zg ?_; refine .done (by kernel_rfl) hs ?_
          refine .ret (Fin.ret1 Tryz.results7 rfl ?_)
          cases hb43
      · refine .qF (i := 18) rfl (by kernel_rfl) rfl rfl ?_
        refine .z 19 rfl zpF ?_; refine .z 20 rfl zm ?_
        refine .qF (i := 21) rfl (by kernel_rfl) rfl rfl ?_
        refine .qF (i := 22) rfl (by kernel_rfl) rfl rfl ?_
        refine .qF (i := 23) rfl (by kernel_rfl) rfl rfl ?_
        refine .z 24 rfl zpF ?_; refine .z 25 rfl zg ?_; refine .done (by kernel_rfl) hs ?_
        refine .ret (Fin.ret1 Tryz.results7 rfl ?_)
        exact (hb40 rfl).elim
    · refine .qF (i := 11) rfl (by kernel_rfl) rfl rfl ?_
      refine .qF (i := 12) rfl (by kernel_rfl) rfl rfl ?_
      refine .qF (i := 13) rfl (by kernel_rfl) rfl rfl ?_
      refine .qF (i := 14) rfl (by kernel_rfl) rfl rfl ?_
      refine .qF (i := 15) rfl (by kernel_rfl) rfl rfl ?_
      refine .z 16 rfl zpF ?_; refine .z 17 rfl zm ?_
      refine .qF (i := 18) rfl (by kernel_rfl) rfl rfl ?_
      refine .z 19 rfl zpF ?_; refine .z 20 rfl zm ?_
      refine .qF (i := 21) rfl (by kernel_rfl) rfl rfl ?_
      refine .qF (i := 22) rfl (by kernel_rfl) rfl rfl ?_
      refine .qF (i := 23) rfl (by kernel_rfl) rfl rfl ?_
      refine .z 24 rfl zpF ?_; refine .z 25 rfl zg ?_; refine .done (by kernel_rfl) hs ?_
      refine .ret (Fin.ret1 Tryz.results7 rfl ?_)
      exact (hb33 rfl).elim
  · refine .qF (i := 2) rfl (by kernel_rfl) rfl rfl ?_
    refine .qF (i := 3) rfl (by kernel_rfl) rfl rfl ?_
    refine .qF (i := 4) rfl (by kernel_rfl) rfl rfl ?_
    refine .qF (i := 5) rfl (by kernel_rfl) rfl rfl ?_
    refine .qF (i := 6) rfl (by kernel_rfl) rfl rfl ?_
    refine .qF (i := 7) rfl (by kernel_rfl) rfl rfl ?_
    refine .qF (i := 8) rfl (by kernel_rfl) rfl rfl ?_
    refine .z 9 rfl zpF ?_; refine .z 10 rfl zm ?_
    refine .qF (i := 11) rfl (by kernel_rfl) rfl rfl ?_
    refine .qF (i := 12) rfl (by kernel_rfl) rfl rfl ?_
    refine .qF (i := 13) rfl (by kernel_rfl) rfl rfl ?_
    refine .qF (i := 14) rfl (by kernel_rfl) rfl rfl ?_
    refine .qF (i := 15) rfl (by kernel_rfl) rfl rfl ?_
    refine .z 16 rfl zpF ?_; refine .z 17 rfl zm ?_
    refine .qF (i := 18) rfl (by kernel_rfl) rfl rfl ?_
    refine .z 19 rfl zpF ?_; refine .z 20 rfl zm ?_
    refine .qF (i := 21) rfl (by kernel_rfl) rfl rfl ?_
    refine .qF (i := 22) rfl (by kernel_rfl) rfl rfl ?_
    refine .qF (i := 23) rfl (by kernel_rfl) rfl rfl ?_
    refine .z 24 rfl zpF ?_; refine .z 25 rfl zg ?_; refine .done (by kernel_rfl) hs ?_
    refine .ret (Fin.ret1 Tryz.results7 rfl ?_)
    cases hb24
end Go.Proofs.YtddaejgfjlneoaaGreat
