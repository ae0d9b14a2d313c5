/-
  Texts of these claims, joined: Yr Ys Yt Yu Yv.
-/
import Derived.Test.YtiiokdeehlfeeaaEe
namespace Go.Proofs.Ytiiokdeehlfeeaa
open Go.MW
theorem RI.one {H : Heap} {a : Option Addr} {len cap k : Nat} {xs : List Int} (h : RI H (.slice a len cap) xs) (hk : k < len) : RI H (.slice (if cap = k then a else a.map (·.add (k * 1))) (k + 1 - k) (cap - k)) [gi xs k] := by
  have hl := (RI.len h).1
  have h1 := RS.part h (lo := k) (hi := k + 1) (by omega) (by omega)
  have e : (((xs.map fun x => [I x]).take (k + 1)).drop k) = [gi xs k].map fun x => [I x] := by
    rw [← List.map_take, ← List.map_drop]
    congr 1
    have hx := gi_get (l := xs) (i := k) (by omega)
    rw [take_snoc hx]
    exact List.drop_left' (by rw [List.length_take]; omega)
  rw [e] at h1
  exact h1
set_option maxHeartbeats 4000000 in
theorem law_BoundConflicts_walk {H : Heap} {w : World} {σ : List Ent} {v vp : Value} {r : Syst} {picks : List Int} (hs : St H w σ) (hr : RSy H v r) (hp : RI H vp picks) :
    Cl Try.prog 13 [v, vp] w fun v w' => v = .bool true ∧ ∃ H', HLe H H' ∧ St H' w' σ := by
  obtain ⟨ul, rfl, hl⟩ := hr
  obtain ⟨al, cl, rfl⟩ := RL.shape hl
  obtain ⟨ap, cp, rfl⟩ := RI.shape hp
  refine Cl.of Try.func13 rfl Try.ntmps13 (by simp) (args_cons (k := 0) rfl (args_cons (k := 1) rfl (args0))) ?_
  refine .regSeq ?_
  refine .o (.box hs rfl rfl ?_); intro b2 w hs
  refine .z zg (.nil (.regSeq (.y hs (zls [_, _] Try.isAgg85 Try.sizeOf85) ?_)))
  refine .o (.call Try.call51 rfl (law02_made_spec (r := r) hs ⟨_, rfl, hl⟩) ?_); rintro _ w ⟨H1, hle1, ⟨u20, rfl, hL⟩, hs⟩
  obtain ⟨a20, c20, rfl⟩ := RL.shape hL
  have hok := madeS_ok r
  generalize madeS r = s at hL hok ⊢
  have hnn : (s.n : Int) = s.many + 1 := by have := hok.m0; simp only [Syst.n]; omega
  have hll := hok.len
  have hm1 := hok.m1
  have hm0 := hok.m0
  refine .o (.alloc hs Try.zeroValue32 rfl ?_); intro b5 w hs
  refine .o (.stores (vs := [_, _]) hs rfl rfl Try.sizeOf32 ?_); intro w hs
  refine .nil (.regSeq (.y hs (zls [_, _] Try.isAgg32 Try.sizeOf32) ?_))
  refine .o (.call Try.call64 rfl (bound_Conflict_spec (s := s) hs ⟨_, rfl, hL⟩) ?_); rintro _ w ⟨H2, v6, bs, e, hle2, rfl, rb, hC, hs⟩
  obtain ⟨a6, c6, rfl⟩ := RI.shape rb
  have hbl := (RI.len rb).2.2
  refine .z zm (.z zex (.z zex (.z zg (.z zg (.nil (.regSeq (.y hs (zls [_, _] Try.isAgg32 Try.sizeOf32) (.z zm ?_))))))))
  refine .o (.call Try.call53 rfl (bound_Point_spec (s := s) hs ⟨_, rfl, hL.mono hle2⟩ (hp.mono (hle1.trans hle2))) ?_); rintro _ w ⟨H3, v8, x, f, hle3, rfl, rx, hP, hs⟩
  have hle13 := hle1.trans (hle2.trans hle3)
  have hcase : (e = 3 ∧ f = 0) ∨ (e = 0 ∧ f = 23 ∧ ConfP s bs ∧ bs ≠ []) := by
    by_cases h0 : e = 0
    · subst h0
      obtain ⟨_, h2, h3, h4⟩ := hC.conf
      exact .inr ⟨rfl, (hP.uniq (.clash hok h2)).2, h3, h4⟩
    · cases hC with
      | bad h => exact (h (s.ok_iff.2 hok)).elim
      | none _ h =>
        cases hP with
        | bad h => exact (h (s.ok_iff.2 hok)).elim
        | clash _ g => exact (g h).elim
        | ok => exact .inl ⟨rfl, rfl⟩
      | ok => exact (h0 rfl).elim
  refine .z zm (.z zex (.z zex (.z zg (.z zg (.nil (.seq (.regSeq (.z zm (.z zeql ?_)))))))))
  refine .nil ?_
  refine (.condD rfl (fun hc33 => ?_) (fun hc33 => ?_))
  · refine .regSeq (.z zm (.z zeql (.z zm ?_)))
    refine .bifD (t' := 36) rfl (fun hb36 => ?_) (fun hb36 => ?_)
    · refine .gT rfl rfl ?_
      refine .o (.call Try.call54 rfl (law02_sane_spec hs) ?_); rintro _ w ⟨rfl, H4, hle4, hs⟩
      refine .z zpT (.z zg (.nil ?_))
      refine .ret (rT (Fin.ret1 Try.results13 rfl ?_))
      exact ⟨rfl, H4, hle13.trans hle4, hs.out⟩
    · refine .gFs 1 2 true rfl rfl rfl ?_
      refine .z zpF (.z zg (.nil ?_))
      refine .ret (rT (Fin.ret1 Try.results13 rfl ?_))
      exfalso; omega
  · refine .skip ?_
    refine nT ?_
    refine .seq (.regSeq ?_)
    obtain ⟨rfl, rfl, hconf, hne⟩ : e = 0 ∧ f = 23 ∧ ConfP s bs ∧ bs ≠ [] := hcase.resolve_left fun h => hc33 h.1
    have hb0 : 0 < bs.length := List.length_pos_iff.2 hne
    refine .z zm (.z zneq (.z zm ?_))
    refine .bifN (t' := 41) rfl (fun hb41 => ?_) (fun hb41 => ?_)
    · refine .gFs 2 2 false rfl rfl rfl ?_
      refine .z zpT (.z zm ?_)
      refine .gFs 4 6 false rfl rfl rfl ?_
      refine .z zpT (.z zm ?_)
      refine .gFs 3 12 false rfl rfl rfl ?_
      refine .z zpT (.nil ?_)
      refine (.condT rfl rfl ?_)
      refine .regSeq (.z zg (.nil ?_))
      refine .ret (rT (Fin.ret1 Try.results13 rfl ?_))
      first | exact ⟨rfl, H12, hle1.trans (hle18.trans (hle9.trans hle12)), hs.out⟩ | contradiction | (exfalso; omega) | (exfalso; simp_all; done)
    · refine .gT rfl rfl ?_
      refine .z zm ?_
      refine .gT rfl rfl ?_
      refine .z zneq (.z zpF (.z zm ?_))
      refine .bifN (t' := 45) rfl (fun hb45 => ?_) (fun hb45 => ?_)
      · refine .gFs 4 6 false rfl rfl rfl ?_
        refine .z zpT (.z zm ?_)
        refine .gFs 3 12 false rfl rfl rfl ?_
        refine .z zpT (.nil ?_)
        refine (.condT rfl rfl ?_)
        refine .regSeq (.z zg (.nil ?_))
        refine .ret (rT (Fin.ret1 Try.results13 rfl ?_))
        first | exact ⟨rfl, H12, hle1.trans (hle18.trans (hle9.trans hle12)), hs.out⟩ | contradiction | (exfalso; omega) | (exfalso; simp_all; done)
      · refine .gT rfl rfl ?_
        refine .y hs (zls [_, _] Try.isAgg32 Try.sizeOf32) ?_
        refine .gT rfl rfl ?_
        refine .z zm ?_
        refine .gT rfl rfl ?_
        refine .o (.call Try.call65 rfl (bound_CheckConflict_spec (s := s) hs ⟨_, rfl, hL.mono (hle2.trans hle3)⟩ (rb.mono hle3)) ?_); rintro _ w ⟨H4, e4, hle4, rfl, hCC, hs⟩
        obtain rfl := hCC.uniq (.ok hok hconf)
        have hle24 := hle3.trans hle4
        have hle14 := hle2.trans hle24
        refine .gT rfl rfl ?_
        refine .z zneq (.z zpF (.z zm ?_))
        refine .bifN (t' := 51) rfl (fun hb51 => ?_) (fun hb51 => ?_)
        · refine .gFs 3 12 false rfl rfl rfl ?_
          refine .z zpT (.nil ?_)
          refine (.condT rfl rfl ?_)
          refine .regSeq (.z zg (.nil ?_))
          refine .ret (rT (Fin.ret1 Try.results13 rfl ?_))
          first | exact ⟨rfl, H12, hle1.trans (hle18.trans (hle9.trans hle12)), hs.out⟩ | contradiction | (exfalso; omega) | (exfalso; simp_all; done)
        · refine .gT rfl rfl ?_
          refine .z zm ?_
          refine .gT rfl rfl ?_
          refine .z (zlen Try.runUnderlying22) ?_
          refine .gT rfl rfl ?_
          refine .z zeql (.z zpF (.nil ?_))
          refine (.condD rfl (fun hc55 => ?_) (fun hc55 => ?_))
          · refine .regSeq (.z zg (.nil ?_))
            refine .ret (rT (Fin.ret1 Try.results13 rfl ?_))
            first | exact ⟨rfl, H12, hle1.trans (hle18.trans (hle9.trans hle12)), hs.out⟩ | contradiction | (exfalso; omega) | (exfalso; simp_all; done)
          · refine .skip ?_
            refine nT ?_
            refine .regSeq (.z zg (.nil (.seq (.regSeq (.y hs (zls [_, _] Try.isAgg32 Try.sizeOf32) ?_)))))
            refine .o (.call Try.call66 rfl (bound_Sources_spec (s := s) hs ⟨_, rfl, hL.mono hle14⟩ (by omega)) ?_); rintro v57 w ⟨L, en, hO, hLl, hRise, hs⟩
            obtain ⟨H5, hle5, rL, hs⟩ := OwnS.publishI hO (by omega) hs .here
            obtain ⟨aL, cL, rfl⟩ := RI.shape rL
            have hle25 := hle24.trans hle5
            have hle15 := hle14.trans hle5
            refine .z (zlen Try.runUnderlying22) (.z zm (.nil ?_))
            refine .for (N := L.length) (J := fun k fr w => ∃ vo en, fr = [(10, vo), (57, .slice aL L.length cL), (6, .slice a6 bs.length c6), (5, .pointer (some ⟨b5, 0, none⟩)), (1, .slice ap picks.length cp)] ∧ OwnS 1 vo (Is ((L.take k).filter fun x => !decide (x ∈ bs))) en ∧ St H5 w (en :: .blk b5 [I s.many, .slice a20 s.lims.length c20] :: .blk b2 [I r.many, .slice al r.lims.length cl] :: σ)) (by omega) ?_ ?_ ?_
            · exact .mk ⟨_, _, rfl, .nil 1 none, hs.nul⟩
            · rintro k fr w hk ⟨vo, en, rfl, hO, hs⟩
              obtain ⟨ao, lo, co, rfl, hlo⟩ := hO.shape
              have hx := gi_get hk
              have hfl := List.length_filter_le (fun x => !decide (x ∈ bs)) (L.take k)
              rw [List.length_take] at hfl
              refine .block (.regSeq ?_)
              refine .ixY hs rL rfl rfl Try.runUnderlying22 Try.sizeOf3 (gi_get (l := L) (i := k) (by omega)) (by first | rfl | assumption | omega) ?_; intro b61 o61 hc61
              refine .q hs (q_loadR rfl Try.isAgg3 hc61) ?_
              refine .z zg (.nil (.regSeq (.z zm (.z zm ?_))))
              refine .o (.call Try.call67 rfl (ref02_Has_spec hs (rb.mono hle25)) ?_); rintro _ w ⟨rfl, hs⟩
              refine .z znot (.nil ?_)
              refine (.cond rfl (fun hc66 => ?_) (fun hc66 => ?_))
              · refine .region (.z zm (.z zm ?_))
                refine .o (.buildSlice (cells := [_]) hs bls_sl_int_1 rfl rfl ?_); intro b69 w hs
                refine .o (.append (ys := Is [gi L k]) hs app_sl_int_int rfl rfl hO (.own .here rfl rfl) (Is_cell _) (fun l' h => by simp at h; omega) ?_); intro v70 en70 w hO2 hs
                rw [show ∀ A : List Int, Is A ++ Is [gi L k] = Is (A ++ [gi L k]) from fun A => by simp [Is]] at hO2
                refine .z zg (.nil ?_)
                refine nB (nT ?_)
                exact .mk ⟨_, _, rfl, by rw [take_snoc hx, List.filter_append, List.filter_cons, if_pos hc66]; exact hO2, hs.sub (by repeat (first | exact Sub.refl _ | constructor | apply Sub.weaken))⟩
              · refine .skip ?_
                refine nB (nT ?_)
                exact .mk ⟨_, _, rfl, by rw [take_snoc hx, List.filter_append, List.filter_cons, if_neg (by simp [hc66])]; simpa using hO, hs.sub (by repeat (first | exact Sub.refl _ | constructor | apply Sub.weaken))⟩
            · rintro fr w ⟨vo, en, rfl, hO, hs⟩
              rw [List.take_length] at hO
              have hfl := List.length_filter_le (fun x => !decide (x ∈ bs)) L
              obtain ⟨H6, hle6, rO, hs⟩ := OwnS.publishI hO (by omega) hs .here
              have hwo := wo_others (bs := bs) (os := L.filter fun x => !decide (x ∈ bs)) hRise (fun x => by simp [List.mem_filter])
              have hle26 := hle25.trans hle6
              have hle16 := hle15.trans hle6
              refine nT ?_
              refine .regSeq (.y hs (zls [_, _] Try.isAgg32 Try.sizeOf32) (.z zm ?_))
              refine .o (.call Try.call68 rfl (bound_Without_spec (s := s) hs ⟨_, rfl, hL.mono hle16⟩ rO (by omega)) ?_); rintro _ w ⟨H7, hle7, hS74, hs⟩
              rw [hwo] at hS74
              obtain ⟨u74, rfl, hL74⟩ := hS74
              obtain ⟨a74, c74, rfl⟩ := RL.shape hL74
              have hle17 := hle16.trans hle7
              refine .o (.alloc hs Try.zeroValue32 rfl ?_); intro b13 w hs
              refine .o (.stores (vs := [_, _]) hs rfl rfl Try.sizeOf32 ?_); intro w hs
              refine .nil (.regSeq (.y hs (zls [_, _] Try.isAgg32 Try.sizeOf32) (.z zm ?_)))
              refine .o (.call Try.call53 rfl (bound_Point_spec (s := s.only bs) hs ⟨_, rfl, hL74⟩ (hp.mono (hle1.trans hle17))) ?_); rintro _ w ⟨H8, v78, x78, f78, hle8, rfl, rx78, hP78, hs⟩
              obtain rfl : f78 = 23 := (hP78.uniq (.clash (hok.only _) hconf.bad)).2
              have hle28 := hle26.trans (hle7.trans hle8)
              have hle18 := hle17.trans hle8
              refine .z zm (.z zex (.z zex (.z zg (.z zg (.nil (.seq (.regSeq (.z zm (.z zneq ?_)))))))))
              refine .nil ?_
              refine (.condN rfl (fun hc82 => ?_) (fun hc82 => ?_))
              · refine .regSeq (.z zg (.nil ?_))
                refine .ret (rT (Fin.ret1 Try.results13 rfl ?_))
                first | exact ⟨rfl, H12, hle1.trans (hle18.trans (hle9.trans hle12)), hs.out⟩ | contradiction | (exfalso; omega) | (exfalso; simp_all; done)
              · refine .skip ?_
                refine nT ?_
                refine .seq (.regSeq (.z zm (.z (zlen Try.runUnderlying22) (.z zm (.nil ?_)))))
                refine .for (N := bs.length) (J := fun k fr w => ∃ H9, fr = [(6, .slice a6 bs.length c6), (13, .pointer (some ⟨b13, 0, none⟩)), (5, .pointer (some ⟨b5, 0, none⟩)), (1, .slice ap picks.length cp)] ∧ HLe H8 H9 ∧ St H9 w (.blk b13 [I s.many, .slice a74 (s.only bs).lims.length c74] :: .blk b5 [I s.many, .slice a20 s.lims.length c20] :: .blk b2 [I r.many, .slice al r.lims.length cl] :: σ)) (by omega) ?_ ?_ ?_
                · exact .mk ⟨H8, rfl, HLe.refl _, hs⟩
                · rintro k fr w hk ⟨H9, rfl, hle9, hs⟩
                  have hx := gi_get hk
                  have hcap := (RI.len rb).2.1
                  have hone := RI.one (rb.mono (hle28.trans hle9)) hk
                  have hsd := hconf.least _ (List.mem_of_getElem? hx)
                  refine .block (.regSeq (.z zm (.z zg (.nil ?_))))
                  refine .seq (.draw mix rfl hs ?_); intro w hs
                  refine .ys 0 rfl hs [_, _] Try.isAgg32 Try.sizeOf32 ?_; refine .z 1 rfl zm ?_; refine .z 2 rfl zm ?_; refine .z 3 rfl zm ?_; refine .z 4 rfl zadd ?_
                  refine .p (i := 5) rfl (by kernel_rfl) .none (q_sliceX (j := k) (k := k + 1) rfl rfl rfl Try.runUnderlying22 Try.sizeOf3 rfl (by omega) (by omega) (by omega)) ?_
                  refine .z 7 rfl zm ?_
                  refine .e1 (i := 6) (by kernel_rfl) rfl rfl .none hs ?_
                  refine .call Try.call68 rfl (bound_Without_spec (s := s.only bs) hs ⟨_, rfl, hL74.mono (hle8.trans hle9)⟩ hone (by have := (hok.only bs).len; omega)) ?_; rintro _ w ⟨H10, hle10, hS95, hs⟩
                  refine .go ?_
                  refine .e1 (i := 8) (by kernel_rfl) rfl rfl .none hs ?_
                  refine .call Try.call53 rfl (bound_Point_spec (s := (s.only bs).wo [gi bs k]) hs hS95 (hp.mono (hle1.trans (hle18.trans (hle9.trans hle10))))) ?_; rintro _ w ⟨H11, v97, x97, f97, hle11, rfl, rx97, hP97, hs⟩
                  obtain ⟨a97, c97, rfl⟩ := RI.shape rx97
                  obtain ⟨rfl, hxl⟩ : f97 = 0 ∧ (x97.length : Int) = s.many + 1 := by
                    cases hP97 with
                    | bad h => exact (h ((Syst.ok_iff _).2 ((hok.only bs).wo _))).elim
                    | clash _ h => exact (h hsd).elim
                    | ok _ _ h =>
                      obtain ⟨T, _, _, h3⟩ := h
                      exact ⟨rfl, by rw [← hnn]; exact congrArg Int.ofNat h3⟩
                  refine .go ?_
                  refine .z 9 rfl zm ?_; refine .z 10 rfl zex ?_; refine .z 11 rfl zex ?_; refine .z 12 rfl zg ?_; refine .z 13 rfl zg ?_; refine .done (by kernel_rfl) hs ?_
                  refine .regSeq (.z zm (.z zneq (.z zm ?_)))
                  refine .bifN (t' := 102) rfl (fun hb102 => ?_) (fun hb102 => ?_)
                  · refine .gFs 6 2 false rfl rfl rfl ?_
                    refine .z zpT (.nil ?_)
                    refine (.condT rfl rfl ?_)
                    refine .regSeq (.z zg (.nil ?_))
                    refine .ret (rB (rT (rB (rT (Fin.ret1 Try.results13 rfl ?_)))))
                    first | exact ⟨rfl, H12, hle1.trans (hle18.trans (hle9.trans hle12)), hs.out⟩ | contradiction | (exfalso; omega) | (exfalso; simp_all; done)
                  · refine .gT rfl rfl ?_
                    refine .z zm ?_
                    refine .gT rfl rfl ?_
                    refine .z (zlen Try.runUnderlying22) ?_
                    refine .gT rfl rfl ?_
                    refine .z (zfa fa_api_System_0) ?_
                    refine .gT rfl rfl ?_
                    refine .y hs (zld Try.isAgg3) ?_
                    refine .gT rfl rfl ?_
                    refine .z zadd ?_
                    refine .gT rfl rfl ?_
                    refine .z zneq (.z zpF (.nil ?_))
                    refine (.condN rfl (fun hc109 => ?_) (fun hc109 => ?_))
                    · refine .regSeq (.z zg (.nil ?_))
                      refine .ret (rB (rT (rB (rT (Fin.ret1 Try.results13 rfl ?_)))))
                      first | exact ⟨rfl, H12, hle1.trans (hle18.trans (hle9.trans hle12)), hs.out⟩ | contradiction | (exfalso; omega) | (exfalso; simp_all; done)
                    · refine .skip ?_
                      refine nB (nT ?_)
                      exact .mk ⟨H11, rfl, hle9.trans (hle10.trans hle11), hs⟩
                · rintro fr w ⟨H9, rfl, hle9, hs⟩
                  refine nT ?_
                  refine .regSeq ?_
                  refine .o (.call Try.call54 rfl (law02_sane_spec hs) ?_); rintro _ w ⟨rfl, H12, hle12, hs⟩
                  refine .z zg (.nil ?_)
                  refine .ret (Fin.ret1 Try.results13 rfl ?_)
                  first | exact ⟨rfl, H12, hle1.trans (hle18.trans (hle9.trans hle12)), hs.out⟩ | contradiction | (exfalso; omega) | (exfalso; simp_all; done)
end Go.Proofs.Ytiiokdeehlfeeaa

namespace Go.Proofs.Ytiiokdeehlfeeaa
open Go.MW
set_option maxHeartbeats 8000000 in
theorem law_BoundIdle_walk {H : Heap} {w : World} {σ : List Ent} {v vn : Value} {r : Syst} {ns : List Int} {z : Int} (hs : St H w σ) (hr : RSy H v r) (hn : RI H vn ns) :
    Cl Try.prog 16 [v, vn, I z] w fun v w' => v = .bool true ∧ ∃ H', HLe H H' ∧ St H' w' σ := by
  obtain ⟨ul, rfl, hl⟩ := hr
  obtain ⟨al, cl, rfl⟩ := RL.shape hl
  obtain ⟨an, cn, rfl⟩ := RI.shape hn
  refine Cl.of Try.func16 rfl Try.ntmps16 (by simp) (args_cons (k := 0) rfl (args_cons (k := 1) rfl (args_cons (k := 2) rfl (args0)))) ?_
  refine .regSeq ?_
  refine .o (.box hs rfl rfl ?_); intro b3 w hs
  refine .z zg (.nil (.regSeq (.y hs (zls [_, _] Try.isAgg85 Try.sizeOf85) ?_)))
  refine .o (.call Try.call51 rfl (law02_made_spec (r := r) hs ⟨_, rfl, hl⟩) ?_); rintro _ w ⟨H1, hle1, ⟨u24, rfl, hL⟩, hs⟩
  obtain ⟨a24, c24, rfl⟩ := RL.shape hL
  have hok := madeS_ok r
  generalize madeS r = s at hL hok ⊢
  have hll := hok.len
  have hcap : s.lims.length ≤ c24 := (RS.len hL).2.1
  refine .o (.alloc hs Try.zeroValue32 rfl ?_); intro b7 w hs
  refine .o (.stores (vs := [_, _]) hs rfl rfl Try.sizeOf32 ?_); intro w hs
  refine .nil (.regSeq (.y hs (zls [_, _] Try.isAgg32 Try.sizeOf32) (.z zm ?_)))
  refine .o (.call Try.call57 rfl (law02_weights_spec (s := s) hs ⟨_, rfl, hL⟩ (hn.mono hle1) ⟨hok.m0, hok.m1⟩) ?_); rintro v27 w ⟨H2, hle2, rw8, hs⟩
  obtain ⟨a8, c8, rfl⟩ := RI.shape rw8
  generalize wOf s.n ns = W at rw8
  refine .z zg (.nil (.regSeq (.y hs (zls [_, _] Try.isAgg32 Try.sizeOf32) ?_)))
  refine .o (.call Try.call77 rfl (bound_Idle_spec (s := s) hs ⟨_, rfl, hL.mono hle2⟩) ?_); rintro _ w ⟨H3, v9, L, e, hle3, rfl, r9, hI, hs⟩
  obtain ⟨a9, c9, rfl⟩ := RI.shape r9
  have hle13 := hle1.trans (hle2.trans hle3)
  have hcase : (e = 23) ∨ (e = 0 ∧ s.Sound ∧ RiseOf (fun x => ∃ i : Nat, x = i ∧ i < s.lims.length ∧ IdleP s i) L) := by
    cases hI with
    | bad h => exact (h (s.ok_iff.2 hok)).elim
    | clash => exact .inl rfl
    | ok _ h1 h2 => exact .inr ⟨rfl, h1, h2⟩
  refine .z zm (.z zex (.z zex (.z zg (.z zg (.nil (.seq (.regSeq (.z zm (.z zneq ?_)))))))))
  refine .nil ?_
  refine (.condN rfl (fun hc34 => ?_) (fun hc34 => ?_))
  · refine .regSeq (.z zm (.z zeql (.z zm ?_)))
    refine .bifD (t' := 37) rfl (fun hb37 => ?_) (fun hb37 => ?_)
    · refine .gT rfl rfl ?_
      refine .o (.call Try.call54 rfl (law02_sane_spec hs) ?_); rintro _ w ⟨rfl, H9, hle9, hs⟩
      have hleF := hle13.trans hle9
      refine .z zpT (.z zg (.nil ?_))
      refine .ret (rT (Fin.ret1 Try.results16 rfl ?_))
      first | exact ⟨rfl, H9, hleF, hs.out⟩ | contradiction | (exfalso; omega) | (exfalso; simp_all; done)
    · refine .gFs 1 2 true rfl rfl rfl ?_
      refine .z zpF (.z zg (.nil ?_))
      refine .ret (rT (Fin.ret1 Try.results16 rfl ?_))
      first | exact ⟨rfl, H9, hleF, hs.out⟩ | contradiction | (exfalso; omega) | (exfalso; simp_all; done)
  · refine .skip ?_
    refine nT ?_
    refine .seq (.regSeq ?_)
    obtain ⟨rfl, hsd, hRise⟩ : e = 0 ∧ s.Sound ∧ RiseOf (fun x => ∃ i : Nat, x = i ∧ i < s.lims.length ∧ IdleP s i) L := hcase.resolve_left (by omega)
    refine .z (zfa fa_api_System_1) (.y hs (zld Try.isAgg30) (.z (zlen Try.runUnderlying30) (.z zeql (.nil ?_))))
    refine (.condD rfl (fun hc43 => ?_) (fun hc43 => ?_))
    · refine .regSeq ?_
      have hL0 : L.length = 0 := by
        rcases L with _ | ⟨x, L⟩
        · rfl
        · obtain ⟨i, _, h, _⟩ := (hRise.mem x).1 (.head _)
          omega
      refine .z zm (.z (zlen Try.runUnderlying22) (.z zeql (.z zm ?_)))
      refine .bifD (t' := 47) rfl (fun hb47 => ?_) (fun hb47 => ?_)
      · refine .gT rfl rfl ?_
        refine .o (.call Try.call54 rfl (law02_sane_spec hs) ?_); rintro _ w ⟨rfl, H9, hle9, hs⟩
        have hleF := hle13.trans hle9
        refine .z zpT (.z zg (.nil ?_))
        refine .ret (rT (Fin.ret1 Try.results16 rfl ?_))
        first | exact ⟨rfl, H9, hleF, hs.out⟩ | contradiction | (exfalso; omega) | (exfalso; simp_all; done)
      · refine .gFs 1 3 true rfl rfl rfl ?_
        refine .z zpF (.z zg (.nil ?_))
        refine .ret (rT (Fin.ret1 Try.results16 rfl ?_))
        first | exact ⟨rfl, H9, hleF, hs.out⟩ | contradiction | (exfalso; omega) | (exfalso; simp_all; done)
    · refine .skip ?_
      refine nT ?_
      refine .regSeq (.z zm (.z (zfa fa_api_System_1) (.y hs (zld Try.isAgg30) (.z (zlen Try.runUnderlying30) ?_))))
      refine .o (.call Try.call55 rfl (law02_mod_spec hs ⟨by omega, by omega⟩) ?_); rintro _ w ⟨rfl, hs⟩
      obtain ⟨k, hk1, hk⟩ : ∃ k : Nat, z % (s.lims.length : Int) = k ∧ k < s.lims.length := by
        have h1 := Int.emod_nonneg z (show (s.lims.length : Int) ≠ 0 by omega)
        have h2 := Int.emod_lt_of_pos z (show 0 < (s.lims.length : Int) by omega)
        exact ⟨(z % (s.lims.length : Int)).toNat, by omega, by omega⟩
      rw [hk1]
      have hle23 := hle2.trans hle3
      have hL3 := hL.mono hle23
      have hH : RL H3 (.slice a24 k c24) (s.lims.take k) := by
        have := RS.head hL3 (k := k) (by omega)
        unfold RL; rwa [List.map_take]
      have hT : RL H3 (.slice (if c24 = k + 1 then a24 else a24.map (·.add ((k + 1) * 4))) (s.lims.length - (k + 1)) (c24 - (k + 1))) (s.lims.drop (k + 1)) := by
        have := RS.tail hL3 (k := k + 1) (by omega)
        unfold RL; rwa [List.map_drop]
      refine .z zg (.nil ?_)
      refine .cut (fun fs w => ∃ b12 u12 Hm, FSub fs ⟨128, [], [(12, .pointer (some ⟨b12, 0, none⟩)), (11, I (k : Int)), (9, .slice a9 L.length c9), (8, .slice a8 W.length c8), (7, .pointer (some ⟨b7, 0, none⟩))]⟩ ∧ HLe H3 Hm ∧ RL Hm u12 (s.but k).lims ∧ St Hm w (.blk b12 [I s.many, u12] :: .blk b7 [I s.many, .slice a24 s.lims.length c24] :: σ)) ?_ ?_
      · refine .draw mix rfl hs ?_; intro w hs
        refine .z 0 rfl (zfa fa_api_System_0) ?_; refine .y 1 rfl hs Try.isAgg3 ?_; refine .z 3 rfl (zfa fa_api_System_1) ?_; refine .y 4 rfl hs Try.isAgg30 ?_; refine .z 5 rfl zm ?_
        refine .p (i := 6) rfl (by kernel_rfl) .none (q_sliceHX (k := k) rfl rfl Try.runUnderlying30 Try.sizeOf100 rfl (by omega)) ?_
        refine .z 8 rfl (zfa fa_api_System_1) ?_; refine .y 9 rfl hs Try.isAgg30 ?_; refine .z 10 rfl zm ?_; refine .z 11 rfl zadd ?_
        refine .p (i := 12) rfl (by kernel_rfl) .none (q_sliceLX (k := k + 1) rfl rfl Try.runUnderlying30 Try.sizeOf100 (by omega) (by omega)) ?_
        refine .e2 (i := 2) (j := 15) (by kernel_rfl) rfl rfl rfl rfl .none .none hs ?_ ?_
        · refine .buildSlice (cells := []) hs bls_sl_api_Limit_0 rfl rfl ?_; intro b57 w hs
          refine .go ?_
          refine .e2 (i := 7) (j := 15) (by kernel_rfl) rfl rfl rfl rfl .none .none hs ?_ ?_
          · refine .append (xs := []) (ys := Lims (s.lims.take k)) hs app_sl_api_Limit_api_Limit rfl rfl (.full (b := b57) (len := 0) rfl) (.rs hH) (Lims_cell _) (fun l' h => by simp at h; rw [List.length_map, List.length_take]; omega) ?_; intro v62 en62 w hO62 hs
            rw [List.nil_append] at hO62
            obtain ⟨a62, l62, c62, rfl, h62⟩ := hO62.shape
            refine .go ?_
            refine .e2 (i := 13) (j := 15) (by kernel_rfl) rfl rfl rfl rfl .none .none hs ?_ ?_
            · refine .append (ys := Lims (s.lims.drop (k + 1))) hs app_sl_api_Limit_api_Limit rfl rfl hO62 (.rs hT) (Lims_cell _) (fun l' h => by rw [Lims_length, List.length_take] at h; rw [List.length_map, List.length_drop]; omega) ?_; intro v68 en68 w hO68 hs
              rw [← Lims_append] at hO68
              obtain ⟨a68, l68, c68, rfl, h68⟩ := hO68.shape
              refine .go ?_
              refine .z 14 rfl (zbd [_, _] bld_api_System) ?_
              refine .e1 (i := 15) (by kernel_rfl) rfl rfl .none hs ?_
              refine .alloc hs Try.zeroValue32 rfl ?_; intro b12 w hs
              refine .go ?_
              refine .e1 (i := 16) (by kernel_rfl) rfl rfl .none hs ?_
              refine .stores (vs := [_, _]) hs rfl rfl Try.sizeOf32 ?_; intro w hs
              refine .go ?_
              refine .done (by kernel_rfl) hs ?_
              obtain ⟨Hp, hlep, rp, hs⟩ := OwnS.publish (m := 4) (cs := (s.but k).lims.map Lim.c) hO68 (fun c hc => by simp only [List.mem_map] at hc; obtain ⟨x, _, rfl⟩ := hc; rfl) (by omega) (by have := but_len s k; simp; omega) hs (by repeat constructor)
              exact nT ⟨b12, _, Hp, by repeat (first | exact .nil rfl rfl | refine .cons rfl ?_), hlep, rp, hs.sub (by repeat (first | exact Sub.refl _ | constructor | apply Sub.weaken))⟩
            · refine .alloc hs Try.zeroValue32 rfl ?_; intro b12 w hs
              refine .go ?_
              refine .e1 (i := 13) (by kernel_rfl) rfl rfl .none hs ?_
              refine .append (ys := Lims (s.lims.drop (k + 1))) hs app_sl_api_Limit_api_Limit rfl rfl hO62 (.rs hT) (Lims_cell _) (fun l' h => by rw [Lims_length, List.length_take] at h; rw [List.length_map, List.length_drop]; omega) ?_; intro v68 en68 w hO68 hs
              rw [← Lims_append] at hO68
              obtain ⟨a68, l68, c68, rfl, h68⟩ := hO68.shape
              refine .go ?_
              refine .z 14 rfl (zbd [_, _] bld_api_System) ?_
              refine .e1 (i := 16) (by kernel_rfl) rfl rfl .none hs ?_
              refine .stores (vs := [_, _]) hs rfl rfl Try.sizeOf32 ?_; intro w hs
              refine .go ?_
              refine .done (by kernel_rfl) hs ?_
              obtain ⟨Hp, hlep, rp, hs⟩ := OwnS.publish (m := 4) (cs := (s.but k).lims.map Lim.c) hO68 (fun c hc => by simp only [List.mem_map] at hc; obtain ⟨x, _, rfl⟩ := hc; rfl) (by omega) (by have := but_len s k; simp; omega) hs (by repeat constructor)
              exact nT ⟨b12, _, Hp, by repeat (first | exact .nil rfl rfl | refine .cons rfl ?_), hlep, rp, hs.sub (by repeat (first | exact Sub.refl _ | constructor | apply Sub.weaken))⟩
          · refine .alloc hs Try.zeroValue32 rfl ?_; intro b12 w hs
            refine .go ?_
            refine .e1 (i := 7) (by kernel_rfl) rfl rfl .none hs ?_
            refine .append (xs := []) (ys := Lims (s.lims.take k)) hs app_sl_api_Limit_api_Limit rfl rfl (.full (b := b57) (len := 0) rfl) (.rs hH) (Lims_cell _) (fun l' h => by simp at h; rw [List.length_map, List.length_take]; omega) ?_; intro v62 en62 w hO62 hs
            rw [List.nil_append] at hO62
            obtain ⟨a62, l62, c62, rfl, h62⟩ := hO62.shape
            refine .go ?_
            refine .e1 (i := 13) (by kernel_rfl) rfl rfl .none hs ?_
            refine .append (ys := Lims (s.lims.drop (k + 1))) hs app_sl_api_Limit_api_Limit rfl rfl hO62 (.rs hT) (Lims_cell _) (fun l' h => by rw [Lims_length, List.length_take] at h; rw [List.length_map, List.length_drop]; omega) ?_; intro v68 en68 w hO68 hs
            rw [← Lims_append] at hO68
            obtain ⟨a68, l68, c68, rfl, h68⟩ := hO68.shape
            refine .go ?_
            refine .z 14 rfl (zbd [_, _] bld_api_System) ?_
            refine .e1 (i := 16) (by kernel_rfl) rfl rfl .none hs ?_
            refine .stores (vs := [_, _]) hs rfl rfl Try.sizeOf32 ?_; intro w hs
            refine .go ?_
            refine .done (by kernel_rfl) hs ?_
            obtain ⟨Hp, hlep, rp, hs⟩ := OwnS.publish (m := 4) (cs := (s.but k).lims.map Lim.c) hO68 (fun c hc => by simp only [List.mem_map] at hc; obtain ⟨x, _, rfl⟩ := hc; rfl) (by omega) (by have := but_len s k; simp; omega) hs (by repeat constructor)
            exact nT ⟨b12, _, Hp, by repeat (first | exact .nil rfl rfl | refine .cons rfl ?_), hlep, rp, hs.sub (by repeat (first | exact Sub.refl _ | constructor | apply Sub.weaken))⟩
        · refine .alloc hs Try.zeroValue32 rfl ?_; intro b12 w hs
          refine .go ?_
          refine .e1 (i := 2) (by kernel_rfl) rfl rfl .none hs ?_
          refine .buildSlice (cells := []) hs bls_sl_api_Limit_0 rfl rfl ?_; intro b57 w hs
          refine .go ?_
          refine .e1 (i := 7) (by kernel_rfl) rfl rfl .none hs ?_
          refine .append (xs := []) (ys := Lims (s.lims.take k)) hs app_sl_api_Limit_api_Limit rfl rfl (.full (b := b57) (len := 0) rfl) (.rs hH) (Lims_cell _) (fun l' h => by simp at h; rw [List.length_map, List.length_take]; omega) ?_; intro v62 en62 w hO62 hs
          rw [List.nil_append] at hO62
          obtain ⟨a62, l62, c62, rfl, h62⟩ := hO62.shape
          refine .go ?_
          refine .e1 (i := 13) (by kernel_rfl) rfl rfl .none hs ?_
          refine .append (ys := Lims (s.lims.drop (k + 1))) hs app_sl_api_Limit_api_Limit rfl rfl hO62 (.rs hT) (Lims_cell _) (fun l' h => by rw [Lims_length, List.length_take] at h; rw [List.length_map, List.length_drop]; omega) ?_; intro v68 en68 w hO68 hs
          rw [← Lims_append] at hO68
          obtain ⟨a68, l68, c68, rfl, h68⟩ := hO68.shape
          refine .go ?_
          refine .z 14 rfl (zbd [_, _] bld_api_System) ?_
          refine .e1 (i := 16) (by kernel_rfl) rfl rfl .none hs ?_
          refine .stores (vs := [_, _]) hs rfl rfl Try.sizeOf32 ?_; intro w hs
          refine .go ?_
          refine .done (by kernel_rfl) hs ?_
          obtain ⟨Hp, hlep, rp, hs⟩ := OwnS.publish (m := 4) (cs := (s.but k).lims.map Lim.c) hO68 (fun c hc => by simp only [List.mem_map] at hc; obtain ⟨x, _, rfl⟩ := hc; rfl) (by omega) (by have := but_len s k; simp; omega) hs (by repeat constructor)
          exact nT ⟨b12, _, Hp, by repeat (first | exact .nil rfl rfl | refine .cons rfl ?_), hlep, rp, hs.sub (by repeat (first | exact Sub.refl _ | constructor | apply Sub.weaken))⟩
      · rintro fs w ⟨b12, u12, H4, hfs, hle4, hL12, hs⟩
        refine WE.sub ?_ hfs
        obtain ⟨a12, c12, rfl⟩ := RL.shape hL12
        have hle24 := hle23.trans hle4
        have hle14 := hle13.trans hle4
        refine .regSeq (.y hs (zls [_, _] Try.isAgg32 Try.sizeOf32) (.z zm ?_))
        refine .o (.call Try.call60 rfl (bound_Range_spec (s := s) hs ⟨_, rfl, hL.mono hle24⟩ (rw8.mono (hle3.trans hle4))) ?_); rintro _ w ⟨H5, lo, hi, f, hle5, rfl, R1, hs⟩
        refine .z zm (.z zex (.z zex (.z zex (.z zg (.z zg (.z zg (.nil (.regSeq (.y hs (zls [_, _] Try.isAgg32 Try.sizeOf32) ?_)))))))))
        refine .z zm ?_
        refine .o (.call Try.call60 rfl (bound_Range_spec (s := s.but k) hs ⟨_, rfl, hL12.mono hle5⟩ (rw8.mono (hle3.trans (hle4.trans hle5)))) ?_); rintro _ w ⟨H6, low, high, g, hle6, rfl, R2, hs⟩
        have hle16 := hle14.trans (hle5.trans hle6)
        refine .z zm (.z zex (.z zex (.z zex (.z zg (.z zg (.z zg (.nil (.seq (.regSeq ?_)))))))))
        refine .z zm (.z zm ?_)
        refine .o (.call Try.call67 rfl (ref02_Has_spec hs (r9.mono (hle4.trans (hle5.trans hle6)))) ?_); rintro _ w ⟨rfl, hs⟩
        refine .nil ?_
        refine (.cond rfl (fun hc86 => ?_) (fun hc86 => ?_))
        · refine .regSeq ?_
          have hid : IdleP s k := by
            obtain ⟨i, h1, _, h3⟩ := (hRise.mem _).1 (of_decide_eq_true hc86)
            obtain rfl : k = i := by omega
            exact h3
          obtain ⟨rfl, rfl, rfl⟩ := (range_same hok (hok.but k) rfl (hid.feas hok) R1).uniq R2
          refine .z zm (.z zm (.z zeql (.z zm ?_)))
          refine .bifD (t' := 90) rfl (fun hb90 => ?_) (fun hb90 => ?_)
          · refine .gT rfl rfl ?_
            refine .z zm ?_
            refine .gT rfl rfl ?_
            refine .z zm ?_
            refine .gT rfl rfl ?_
            refine .z zeql (.z zpT (.z zm ?_))
            refine .bifD (t' := 95) rfl (fun hb95 => ?_) (fun hb95 => ?_)
            · refine .gT rfl rfl ?_
              refine .z zm ?_
              refine .gT rfl rfl ?_
              refine .z zm ?_
              refine .gT rfl rfl ?_
              refine .z zeql (.z zpT (.z zm ?_))
              refine .bifD (t' := 100) rfl (fun hb100 => ?_) (fun hb100 => ?_)
              · refine .gT rfl rfl ?_
                refine .o (.call Try.call54 rfl (law02_sane_spec hs) ?_); rintro _ w ⟨rfl, H9, hle9, hs⟩
                have hleF := hle16.trans hle9
                refine .z zpT (.z zg (.nil ?_))
                refine .ret (rT (Fin.ret1 Try.results16 rfl ?_))
                first | exact ⟨rfl, H9, hleF, hs.out⟩ | contradiction | (exfalso; omega) | (exfalso; simp_all; done)
              · refine .gFs 1 13 true rfl rfl rfl ?_
                refine .z zpF (.z zg (.nil ?_))
                refine .ret (rT (Fin.ret1 Try.results16 rfl ?_))
                first | exact ⟨rfl, H9, hleF, hs.out⟩ | contradiction | (exfalso; omega) | (exfalso; simp_all; done)
            · refine .gFs 3 8 true rfl rfl rfl ?_
              refine .z zpF (.z zm ?_)
              refine .gFs 1 13 true rfl rfl rfl ?_
              refine .z zpF (.z zg (.nil ?_))
              refine .ret (rT (Fin.ret1 Try.results16 rfl ?_))
              first | exact ⟨rfl, H9, hleF, hs.out⟩ | contradiction | (exfalso; omega) | (exfalso; simp_all; done)
          · refine .gFs 3 3 true rfl rfl rfl ?_
            refine .z zpF (.z zm ?_)
            refine .gFs 3 8 true rfl rfl rfl ?_
            refine .z zpF (.z zm ?_)
            refine .gFs 1 13 true rfl rfl rfl ?_
            refine .z zpF (.z zg (.nil ?_))
            refine .ret (rT (Fin.ret1 Try.results16 rfl ?_))
            first | exact ⟨rfl, H9, hleF, hs.out⟩ | contradiction | (exfalso; omega) | (exfalso; simp_all; done)
        · refine .skip ?_
          refine nT ?_
          refine .regSeq (.y hs (zls [_, _] Try.isAgg32 Try.sizeOf32) ?_)
          refine .o (.call Try.call52 rfl (bound_Close_spec (s := s) hs ⟨_, rfl, hL.mono (hle24.trans (hle5.trans hle6))⟩) ?_); rintro _ w ⟨H7, vt, e20, hle7, rfl, hcs1, hs⟩
          obtain ⟨rfl, rs1, T1, q1, W1⟩ : e20 = 0 ∧ ∃ rs, RT H7 vt rs ∧ Sq s.n rs ∧ WaysT s.n s.arcs (gt rs) := by
            rcases hcs1 with ⟨h, _⟩ | ⟨_, h, _⟩ | ⟨_, _, h2, h3⟩
            · exact (h (s.ok_iff.2 hok)).elim
            · exact (h hsd).elim
            · exact ⟨h2, h3⟩
          obtain ⟨at1, ct1, rfl⟩ := T1.shape
          have hsb : (s.but k).Sound := sound_sub hsd fun l hl => but_mem hl
          refine .z zm (.z zex (.z zex (.z zg (.z zg (.nil (.regSeq (.y hs (zls [_, _] Try.isAgg32 Try.sizeOf32) ?_)))))))
          refine .o (.call Try.call52 rfl (bound_Close_spec (s := s.but k) hs ⟨_, rfl, hL12.mono (hle5.trans (hle6.trans hle7))⟩) ?_); rintro _ w ⟨H8, vt2, e22, hle8, rfl, hcs2, hs⟩
          obtain ⟨rfl, rs2, T2, q2, W2⟩ : e22 = 0 ∧ ∃ rs, RT H8 vt2 rs ∧ Sq s.n rs ∧ WaysT s.n (s.but k).arcs (gt rs) := by
            rcases hcs2 with ⟨h, _⟩ | ⟨_, h, _⟩ | ⟨_, _, h2, h3⟩
            · exact (h ((Syst.ok_iff _).2 (hok.but k))).elim
            · exact (h hsb).elim
            · exact ⟨h2, h3⟩
          obtain ⟨at2, ct2, rfl⟩ := T2.shape
          have hne : ¬ rs1 = rs2 := fun h => by
            have hid := (idle_iff hok hsd q1 q2 W1 W2).1 h
            have := (hRise.mem (k : Int)).2 ⟨k, rfl, hk, hid⟩
            simp [this] at hc86
          refine .z zm (.z zex (.z zex (.z zg (.z zg (.nil (.regSeq (.z zm (.z zeql (.z zm ?_)))))))))
          refine .bifD (t' := 115) rfl (fun hb115 => ?_) (fun hb115 => ?_)
          · refine .gT rfl rfl ?_
            refine .z zm ?_
            refine .gT rfl rfl ?_
            refine .z zeql (.z zpT (.z zm ?_))
            refine .bifD (t' := 119) rfl (fun hb119 => ?_) (fun hb119 => ?_)
            · refine .gT rfl rfl ?_
              refine .z zm ?_
              refine .gT rfl rfl ?_
              refine .z zm ?_
              refine .gT rfl rfl ?_
              refine .o (.call Try.call78 rfl (ref02_SameTable_spec hs (T1.mono hle8) T2) ?_); rintro _ w ⟨rfl, hs⟩
              rw [decide_eq_false hne]
              refine .gT rfl rfl ?_
              refine .z znot (.z zpT (.z zm ?_))
              refine .bif (t' := 125) rfl (fun hb125 => ?_) (fun hb125 => ?_)
              · refine .gT rfl rfl ?_
                refine .o (.call Try.call54 rfl (law02_sane_spec hs) ?_); rintro _ w ⟨rfl, H9, hle9, hs⟩
                have hleF := hle16.trans (hle7.trans (hle8.trans hle9))
                refine .z zpT (.z zg (.nil ?_))
                refine .ret (Fin.ret1 Try.results16 rfl ?_)
                first | exact ⟨rfl, H9, hleF, hs.out⟩ | contradiction | (exfalso; omega) | (exfalso; simp_all; done)
              · refine .gFs 1 12 true rfl rfl rfl ?_
                refine .z zpF (.z zg (.nil ?_))
                refine .ret (Fin.ret1 Try.results16 rfl ?_)
                first | exact ⟨rfl, H9, hleF, hs.out⟩ | contradiction | (exfalso; omega) | (exfalso; simp_all; done)
            · refine .gFs 4 6 true rfl rfl rfl ?_
              refine .z zpF (.z zm ?_)
              refine .gFs 1 12 true rfl rfl rfl ?_
              refine .z zpF (.z zg (.nil ?_))
              refine .ret (Fin.ret1 Try.results16 rfl ?_)
              first | exact ⟨rfl, H9, hleF, hs.out⟩ | contradiction | (exfalso; omega) | (exfalso; simp_all; done)
          · refine .gFs 2 2 true rfl rfl rfl ?_
            refine .z zpF (.z zm ?_)
            refine .gFs 4 6 true rfl rfl rfl ?_
            refine .z zpF (.z zm ?_)
            refine .gFs 1 12 true rfl rfl rfl ?_
            refine .z zpF (.z zg (.nil ?_))
            refine .ret (Fin.ret1 Try.results16 rfl ?_)
            first | exact ⟨rfl, H9, hleF, hs.out⟩ | contradiction | (exfalso; omega) | (exfalso; simp_all; done)
end Go.Proofs.Ytiiokdeehlfeeaa

namespace Go.Proofs.Ytiiokdeehlfeeaa
open Go.MW
set_option maxHeartbeats 2000000 in
theorem bound_Between_spec {H : Heap} {w : World} {σ : List Ent} {v vw : Value} {s : Syst} {ws : List Int} {z : Int} (hs : St H w σ) (hr : RSy H v s) (hrw : RI H vw ws) :
    Cl Try.prog 76 [v, vw, I z] w fun u w' => ∃ H1 vx vy x y n d e, HLe H H1 ∧ u = .tuple #[vx, vy, I n, I d, I e] ∧ RI H1 vx x ∧ RI H1 vy y ∧ BetR s ws z x y n d e ∧ St H1 w' σ := by
  obtain ⟨vl, rfl, hr⟩ := hr
  refine Cl.of Try.func76 rfl Try.ntmps76 (by simp) (args_cons (k := 0) rfl (args_cons (k := 1) rfl (args_cons (k := 2) rfl (args0)))) ?_
  refine .regSeq ?_
  refine .o (.box hs rfl rfl ?_); intro b3 w hs
  refine .z zg (.z zg (.z zg (.z zg (.z zg (.nil (.regSeq (.y hs (zls [_, _] Try.isAgg32 Try.sizeOf32) (.z zm ?_))))))))
  refine .o (.call Try.call140 rfl (bound_asked_spec (s := s) hs ⟨_, rfl, hr⟩ hrw) ?_); rintro _ w ⟨H1, e, pf, hle1, rfl, hA, hs, hne, heq⟩
  refine .z zm (.z zex (.z zex (.z zg (.z zg (.nil (.seq (.regSeq (.z zm (.z zneq ?_)))))))))
  refine .nil ?_
  refine (.condN rfl (fun hc22 => ?_) (fun hc22 => ?_))
  · refine .regSeq (.z zm (.z zg (.z zg (.z zg (.z zg (.z zg (.nil ?_)))))))
    refine .ret (rT (Fin.ret5 Try.results76 rfl rfl rfl rfl rfl ?_))
    exact ⟨H1, _, _, [], [], _, _, _, hle1, rfl, RS.nil H1 1 none 0, RS.nil H1 1 none 0, .bad (.first ⟨hA, fun _ => rfl, fun h => (hc22 h).elim⟩ hc22) hc22, hs.tail⟩
  · refine .skip ?_
    refine nT ?_
    refine .seq (.draw mix rfl hs ?_); intro w hs
    refine .ys 0 rfl hs [_, _] Try.isAgg32 Try.sizeOf32 ?_; refine .z 1 rfl zm ?_
    refine .e1 (i := 2) (by kernel_rfl) rfl rfl .none hs ?_
    subst hc22
    obtain ⟨bf, bt, bl, cl, ts, lf, vl', sp, rfl, hF, hFo, hok, hsz⟩ := heq rfl
    have hwl := (askErr_ok hA.zero.1).2.1
    have hbw : ∀ k, -9223372036854775807 ≤ gi ws k ∧ gi ws k ≤ 9223372036854775807 := fun k => by
      simp only [FF] at hsz
      by_cases hk : k < s.n
      · have := sizes_at ws hk; omega
      · have : gi ws k = 0 := by simp [gi, List.getElem?_eq_none (show ws.length ≤ k by omega)]
        omega
    refine .call Try.call146 rfl (bound_turned_spec hs (hrw.mono hle1) (by have := hok.m1; simp only [Syst.n] at hwl; omega) hbw) ?_; rintro v27 w ⟨H2, hle2, hr27, hs⟩
    refine .go ?_
    refine .e1 (i := 3) (by kernel_rfl) rfl rfl .none hs ?_
    refine .call Try.call140 rfl (bound_asked_spec (s := s) hs ⟨_, rfl, hr.mono (hle1.trans hle2)⟩ hr27) ?_; rintro _ w ⟨H3, e2, pg, hle3, rfl, hA2, hs, hne2, heq2⟩
    have hle13 := hle1.trans (hle2.trans hle3)
    refine .go ?_
    refine .z 4 rfl zm ?_; refine .z 5 rfl zex ?_; refine .z 6 rfl zex ?_; refine .z 7 rfl zg ?_; refine .z 8 rfl zg ?_; refine .done (by kernel_rfl) hs ?_
    refine .seq (.regSeq (.z zm (.z zneq (.nil ?_))))
    refine (.condN rfl (fun hc32 => ?_) (fun hc32 => ?_))
    · refine .regSeq (.z zm (.z zg (.z zg (.z zg (.z zg (.z zg (.nil ?_)))))))
      refine .ret (rT (Fin.ret5 Try.results76 rfl rfl rfl rfl rfl ?_))
      obtain ⟨q1, q2, q3, q4⟩ := hFo.value (by simp [Syst.n]) (by have := hok.m0; have := hok.m1; simp only [Syst.n]; omega) hok.arcs hsz
      exact ⟨H3, _, _, [], [], _, _, _, hle13, rfl, RS.nil H3 1 none 0, RS.nil H3 1 none 0, .bad (.second ⟨hA, fun h => (h rfl).elim, fun _ => ⟨q1, q3, q4⟩⟩ ⟨hA2, fun _ => rfl, fun h => (hc32 h).elim⟩ hc32) hc32, hs.tail⟩
    · refine .skip ?_
      refine nT ?_
      refine .regSeq (.z zm ?_)
      subst hc32
      obtain ⟨bf2, bt2, bl2, cl2, ts2, lf2, vl2, sp2, rfl, hF2, hFo2, hok2, hsz2⟩ := heq2 rfl
      refine .o (.call Try.call141 rfl (bound_flow_bound_spec hs hok hF2 hFo2 hsz2) ?_); rintro _ w ⟨rfl, a1, a2, a3, hs⟩
      simp only [BB] at a2 a3
      refine .z zneg (.z zm ?_)
      refine .o (.call Try.call141 rfl (bound_flow_bound_spec hs hok (hF.mono (hle2.trans hle3)) hFo hsz) ?_); rintro _ w ⟨rfl, c1, c2, c3, hs⟩
      have hR : RangeR s ws (-(dot s.arcs ts2 (·.c))) (dot s.arcs ts (·.c)) 0 := .ok ⟨hA, fun h => (h rfl).elim, fun _ => ⟨c1, c2, c3⟩⟩ ⟨hA2, fun h => (h rfl).elim, fun _ => ⟨a1, by simp only [BB]; omega, by simp only [BB]; omega⟩⟩
      simp only [BB] at c2 c3
      have hle02 := hle2.trans hle3
      clear a1 c1
      generalize dot s.arcs ts2 (·.c) = B at hR a2 a3 ⊢
      generalize dot s.arcs ts (·.c) = A at hR c2 c3 ⊢
      refine .z zg (.z zg (.nil (.seq (.block (.regSeq (.z zm (.z zm (.z zm ?_))))))))
      refine .o (.call Try.call160 rfl (bound_within_spec hs) ?_); rintro _ w ⟨rfl, hs⟩
      refine .z znot (.z zg (.nil ?_))
      refine (.cond rfl (fun hc39 => ?_) (fun hc39 => ?_))
      · refine .regSeq (.z zg (.z zg (.z zg (.z zg (.z zg (.nil ?_))))))
        refine .ret (rB (rT (Fin.ret5 Try.results76 rfl rfl rfl rfl rfl ?_)))
        exact ⟨H3, _, _, [], [], _, _, _, hle13, rfl, RS.nil H3 1 none 0, RS.nil H3 1 none 0, .none hR (fun h => by simp [h] at hc39), hs.tail⟩
      · refine .regSeq (.z zm (.z zm (.z zeql (.z zg (.nil ?_)))))
        refine (.condD rfl (fun hc45 => ?_) (fun hc45 => ?_))
        · refine .regSeq (.z zm ?_)
          refine .o (.call Try.call147 rfl (bound_flow_point_spec hs hok hF2 hFo2 hsz2) ?_); rintro v50 w ⟨H4, xs, hle4, hx, hBx, hs⟩
          refine .z zm ?_
          refine .o (.call Try.call147 rfl (bound_flow_point_spec hs hok (hF.mono (hle02.trans hle4)) hFo hsz) ?_); rintro v52 w ⟨H5, ys, hle5, hy, hBy, hs⟩
          refine .z zg (.z zg (.z zg (.z zg (.z zg (.nil ?_)))))
          refine .ret (rB (rT (Fin.ret5 Try.results76 rfl rfl rfl rfl rfl ?_)))
          exact ⟨H5, _, _, xs, ys, _, _, _, hle13.trans (hle4.trans hle5), rfl, hx.mono hle5, hy, .ok hR (by simpa using hc39) hBx hBy (.inl ⟨by omega, rfl, rfl⟩), hs.tail⟩
        · refine .skip ?_
          refine nB (nT ?_)
          refine .regSeq ?_
          have hin : -B ≤ z ∧ z ≤ A := by simpa using hc39
          refine .z zm ?_
          refine .o (.call Try.call147 rfl (bound_flow_point_spec hs hok hF2 hFo2 hsz2) ?_); rintro v54 w ⟨H4, xs, hle4, hx, hBx, hs⟩
          refine .z zm ?_
          refine .o (.call Try.call147 rfl (bound_flow_point_spec hs hok (hF.mono (hle02.trans hle4)) hFo hsz) ?_); rintro v56 w ⟨H5, ys, hle5, hy, hBy, hs⟩
          refine .z zm (.z zm (.z zsub (.z zm (.z zm (.z zsub (.z zg (.z zg (.z zg (.z zg ?_)))))))))
          refine .z zg (.nil ?_)
          refine .ret (Fin.ret5 Try.results76 rfl rfl rfl rfl rfl ?_)
          exact ⟨H5, _, _, xs, ys, _, _, _, hle13.trans (hle4.trans hle5), rfl, hx.mono hle5, hy, .ok hR hin hBx hBy (.inr ⟨by omega, rfl, rfl⟩), hs.tail⟩
set_option maxHeartbeats 8000000 in
theorem law_BoundWhole_walk {H : Heap} {w : World} {σ : List Ent} {v vn : Value} {r : Syst} {ns : List Int} {z : Int} (hs : St H w σ) (hr : RSy H v r) (hn : RI H vn ns) :
    Cl Try.prog 15 [v, vn, I z] w fun v w' => v = .bool true ∧ ∃ H', HLe H H' ∧ St H' w' σ := by
  obtain ⟨ul, rfl, hl⟩ := hr
  obtain ⟨al, cl, rfl⟩ := RL.shape hl
  obtain ⟨an, cn, rfl⟩ := RI.shape hn
  refine Cl.of Try.func15 rfl Try.ntmps15 (by simp) (args_cons (k := 0) rfl (args_cons (k := 1) rfl (args_cons (k := 2) rfl (args0)))) ?_
  refine .regSeq ?_
  refine .o (.box hs rfl rfl ?_); intro b3 w hs
  refine .z zg (.nil (.regSeq (.y hs (zls [_, _] Try.isAgg85 Try.sizeOf85) ?_)))
  refine .o (.call Try.call51 rfl (law02_made_spec (r := r) hs ⟨_, rfl, hl⟩) ?_); rintro _ w ⟨H1, hle1, ⟨u25, rfl, hL⟩, hs⟩
  obtain ⟨a25, c25, rfl⟩ := RL.shape hL
  have hok := madeS_ok r
  have hmade := made_ask r ns
  have hn7 : (madeS r).n ≤ 7 := by have := madeS_n r; have := madeN_bd r; omega
  generalize madeS r = s at hL hok hmade hn7 ⊢
  have hnn : (s.n : Int) = s.many + 1 := by have := hok.m0; simp only [Syst.n]; omega
  have hll := hok.len
  have hnp := s.n_pos
  refine .o (.alloc hs Try.zeroValue32 rfl ?_); intro b7 w hs
  refine .o (.stores (vs := [_, _]) hs rfl rfl Try.sizeOf32 ?_); intro w hs
  refine .nil (.regSeq (.y hs (zls [_, _] Try.isAgg32 Try.sizeOf32) (.z zm ?_)))
  refine .o (.call Try.call57 rfl (law02_weights_spec (s := s) hs ⟨_, rfl, hL⟩ (hn.mono hle1) ⟨hok.m0, hok.m1⟩) ?_); rintro v28 w ⟨H2, hle2, rw8, hs⟩
  obtain ⟨a8, c8, rfl⟩ := RI.shape rw8
  have hWb := wOf_bd s.n ns
  have hWl := wOf_length s.n ns
  generalize wOf s.n ns = W at rw8 hmade hWb hWl
  refine .z zg (.nil (.regSeq (.y hs (zls [_, _] Try.isAgg32 Try.sizeOf32) (.z zm ?_))))
  refine .o (.call Try.call60 rfl (bound_Range_spec (s := s) hs ⟨_, rfl, hL.mono hle2⟩ rw8) ?_); rintro _ w ⟨H3, lo, hi, e, hle3, rfl, R, hs⟩
  have hcase := small_range hmade hn7 hWb R
  have hle13 := hle1.trans (hle2.trans hle3)
  refine .z zm (.z zex (.z zex (.z zex (.z zg (.z zg (.z zg (.nil (.seq (.regSeq ?_)))))))))
  refine .z zm (.z zneq (.nil ?_))
  refine (.condN rfl (fun hc37 => ?_) (fun hc37 => ?_))
  · refine .regSeq (.z zm (.z zeql (.z zm ?_)))
    refine .bifD (t' := 40) rfl (fun hb40 => ?_) (fun hb40 => ?_)
    · refine .gFs 2 2 false rfl rfl rfl ?_
      refine .z zpT (.z zm ?_)
      refine .gT rfl rfl ?_
      refine .o (.call Try.call54 rfl (law02_sane_spec hs) ?_); rintro _ w ⟨rfl, H9, hle9, hs⟩
      have hleF := hle13.trans hle9
      refine .z zpT (.z zg (.nil ?_))
      refine .ret (rT (Fin.ret1 Try.results15 rfl ?_))
      first | exact ⟨rfl, H9, hleF, hs.out⟩ | contradiction | (exfalso; omega) | (exfalso; simp_all; done)
    · refine .gT rfl rfl ?_
      refine .z zm ?_
      refine .gT rfl rfl ?_
      refine .z zeql (.z zpF (.z zm ?_))
      refine .bifD (t' := 44) rfl (fun hb44 => ?_) (fun hb44 => ?_)
      · refine .gT rfl rfl ?_
        refine .o (.call Try.call54 rfl (law02_sane_spec hs) ?_); rintro _ w ⟨rfl, H9, hle9, hs⟩
        have hleF := hle13.trans hle9
        refine .z zpT (.z zg (.nil ?_))
        refine .ret (rT (Fin.ret1 Try.results15 rfl ?_))
        first | exact ⟨rfl, H9, hleF, hs.out⟩ | contradiction | (exfalso; omega) | (exfalso; simp_all; done)
      · refine .gFs 1 6 true rfl rfl rfl ?_
        refine .z zpF (.z zg (.nil ?_))
        refine .ret (rT (Fin.ret1 Try.results15 rfl ?_))
        first | exact ⟨rfl, H9, hleF, hs.out⟩ | contradiction | (exfalso; omega) | (exfalso; simp_all; done)
  · refine .skip ?_
    refine nT ?_
    refine .seq (.regSeq ?_)
    obtain ⟨rfl, hlo, hlh, hhi⟩ : e = 0 ∧ -268800000 ≤ lo ∧ lo ≤ hi ∧ hi ≤ 268800000 := by omega
    refine .z zm (.z zm (.z zgtr (.nil ?_)))
    refine (.condD rfl (fun hc49 => ?_) (fun hc49 => ?_))
    · refine .regSeq (.z zg (.nil ?_))
      refine .ret (rT (Fin.ret1 Try.results15 rfl ?_))
      first | exact ⟨rfl, H9, hleF, hs.out⟩ | contradiction | (exfalso; omega) | (exfalso; simp_all; done)
    · refine .skip ?_
      refine nT ?_
      refine .regSeq (.z zm (.z zm (.z zm (.z zm (.z zsub (.z zadd ?_))))))
      refine .o (.call Try.call55 rfl (law02_mod_spec hs ⟨by omega, by omega⟩) ?_); rintro _ w ⟨rfl, hs⟩
      obtain ⟨q, hq1, hq2, hq3⟩ : ∃ q, z % (hi - lo + 1) = q ∧ 0 ≤ q ∧ q ≤ hi - lo := by
        have h1 := Int.emod_nonneg z (show hi - lo + 1 ≠ 0 by omega)
        have h2 := Int.emod_lt_of_pos z (show 0 < hi - lo + 1 by omega)
        exact ⟨_, rfl, h1, by omega⟩
      rw [hq1]
      clear hq1
      refine .z zadd (.z zg (.nil (.regSeq (.y hs (zls [_, _] Try.isAgg32 Try.sizeOf32) (.z zm (.z zm ?_))))))
      refine .o (.call Try.call76 rfl (bound_Between_spec (s := s) (z := lo + q) hs ⟨_, rfl, hL.mono (hle2.trans hle3)⟩ (rw8.mono hle3)) ?_); rintro _ w ⟨H4, vx, vy, x, y, m, d, e5, hle4, rfl, rx, ry, hB, hs⟩
      obtain ⟨rfl, hBx, hBy, hmd⟩ : e5 = 0 ∧ BestR s (negW W) x ∧ BestR s W y ∧ ((lo = hi ∧ m = 0 ∧ d = 1) ∨ (lo ≠ hi ∧ m = q ∧ d = hi - lo)) := by
        cases hB with
        | bad h he => exact (he (R.uniq h).2.2.symm).elim
        | none h h1 =>
          obtain ⟨rfl, rfl, _⟩ := R.uniq h
          exact (h1 ⟨by omega, by omega⟩).elim
        | ok h h1 hx hy hn =>
          obtain ⟨rfl, rfl, _⟩ := R.uniq h
          exact ⟨rfl, hx, hy, by omega⟩
      obtain ⟨ax, cx, rfl⟩ := RI.shape rx
      obtain ⟨ay, cy, rfl⟩ := RI.shape ry
      have hxl := hBx.len
      have hyl := hBy.len
      have hx0 := hBx.zero
      have hy0 := hBy.zero
      have hvx := best_lo R hBx
      have hvy := best_hi R hBy
      have hle14 := hle13.trans hle4
      have hL4 := hL.mono (hle2.trans (hle3.trans hle4))
      have rw4 := rw8.mono (hle3.trans hle4)
      have hd1 : 1 ≤ d ∧ d ≤ 537600000 := by omega
      have hm1 : 0 ≤ m ∧ m ≤ d := by omega
      have key : ∀ v < s.n, -688128000000000 ≤ d * gi x v ∧ d * gi x v ≤ 688128000000000 ∧ -1376256000000000 ≤ m * (gi y v - gi x v) ∧ m * (gi y v - gi x v) ≤ 1376256000000000 := fun v hv => by
        have h1 := hBx.low v hv
        have h2 := hBy.low v hv
        have h3 := mul_bd (a := d) (b := gi x v) (A := 537600000) (B := 1280000) (by omega) (by omega)
        have h4 := mul_bd (a := m) (b := gi y v - gi x v) (A := 537600000) (B := 2560000) (by omega) (by omega)
        omega
      have keyw : ∀ v < s.n, -61931520000000000 ≤ gi W v * (d * gi x v + m * (gi y v - gi x v)) ∧ gi W v * (d * gi x v + m * (gi y v - gi x v)) ≤ 61931520000000000 := fun v hv => by
        have h1 := key v hv
        have h2 := mul_bd (a := gi W v) (b := d * gi x v + m * (gi y v - gi x v)) (A := 30) (B := 2064384000000000) (hWb v) (by omega)
        omega
      have htot : sumTo (fun v => gi W v * (d * gi x v + m * (gi y v - gi x v))) s.n = d * (lo + q) := by
        rw [between_sum, hvx, hvy]
        rcases hmd with ⟨rfl, rfl, rfl⟩ | ⟨_, rfl, rfl⟩
        · omega
        · simp only [Int.mul_add, Int.sub_mul, Int.mul_comm m]
      refine .z zm (.z zex (.z zex (.z zex (.z zex (.z zex (.z zg (.z zg (.z zg (.z zg ?_)))))))))
      refine .z zg (.nil (.seq (.regSeq (.z zm (.z zneq (.z zm ?_))))))
      refine .bifN (t' := 70) rfl (fun hb70 => ?_) (fun hb70 => ?_)
      · refine .gFs 6 2 false rfl rfl rfl ?_
        refine .z zpT (.z zm ?_)
        refine .gFs 5 10 false rfl rfl rfl ?_
        refine .z zpT (.z zm ?_)
        refine .gFs 2 17 false rfl rfl rfl ?_
        refine .z zpT (.z zm ?_)
        refine .gFs 2 21 false rfl rfl rfl ?_
        refine .z zpT (.z zm ?_)
        refine .gFs 3 25 false rfl rfl rfl ?_
        refine .z zpT (.nil ?_)
        refine (.condT rfl rfl ?_)
        refine .regSeq (.z zg (.nil ?_))
        refine .ret (rT (Fin.ret1 Try.results15 rfl ?_))
        first | exact ⟨rfl, H9, hleF, hs.out⟩ | contradiction | (exfalso; omega) | (exfalso; simp_all; done)
      · refine .gT rfl rfl ?_
        refine .z zm ?_
        refine .gT rfl rfl ?_
        refine .z (zlen Try.runUnderlying22) ?_
        refine .gT rfl rfl ?_
        refine .z (zfa fa_api_System_0) ?_
        refine .gT rfl rfl ?_
        refine .y hs (zld Try.isAgg3) ?_
        refine .gT rfl rfl ?_
        refine .z zadd ?_
        refine .gT rfl rfl ?_
        refine .z zneq (.z zpF (.z zm ?_))
        refine .bifN (t' := 78) rfl (fun hb78 => ?_) (fun hb78 => ?_)
        · refine .gFs 5 10 false rfl rfl rfl ?_
          refine .z zpT (.z zm ?_)
          refine .gFs 2 17 false rfl rfl rfl ?_
          refine .z zpT (.z zm ?_)
          refine .gFs 2 21 false rfl rfl rfl ?_
          refine .z zpT (.z zm ?_)
          refine .gFs 3 25 false rfl rfl rfl ?_
          refine .z zpT (.nil ?_)
          refine (.condT rfl rfl ?_)
          refine .regSeq (.z zg (.nil ?_))
          refine .ret (rT (Fin.ret1 Try.results15 rfl ?_))
          first | exact ⟨rfl, H9, hleF, hs.out⟩ | contradiction | (exfalso; omega) | (exfalso; simp_all; done)
        · refine .gT rfl rfl ?_
          refine .z zm ?_
          refine .gT rfl rfl ?_
          refine .z (zlen Try.runUnderlying22) ?_
          refine .gT rfl rfl ?_
          refine .z zm ?_
          refine .gT rfl rfl ?_
          refine .z (zlen Try.runUnderlying22) ?_
          refine .gT rfl rfl ?_
          refine .z zneq (.z zpF (.z zm ?_))
          refine .bifN (t' := 85) rfl (fun hb85 => ?_) (fun hb85 => ?_)
          · refine .gFs 2 17 false rfl rfl rfl ?_
            refine .z zpT (.z zm ?_)
            refine .gFs 2 21 false rfl rfl rfl ?_
            refine .z zpT (.z zm ?_)
            refine .gFs 3 25 false rfl rfl rfl ?_
            refine .z zpT (.nil ?_)
            refine (.condT rfl rfl ?_)
            refine .regSeq (.z zg (.nil ?_))
            refine .ret (rT (Fin.ret1 Try.results15 rfl ?_))
            first | exact ⟨rfl, H9, hleF, hs.out⟩ | contradiction | (exfalso; omega) | (exfalso; simp_all; done)
          · refine .gT rfl rfl ?_
            refine .z zm ?_
            refine .gT rfl rfl ?_
            refine .z zlss (.z zpF (.z zm ?_))
            refine .bifD (t' := 89) rfl (fun hb89 => ?_) (fun hb89 => ?_)
            · refine .gFs 2 21 false rfl rfl rfl ?_
              refine .z zpT (.z zm ?_)
              refine .gFs 3 25 false rfl rfl rfl ?_
              refine .z zpT (.nil ?_)
              refine (.condT rfl rfl ?_)
              refine .regSeq (.z zg (.nil ?_))
              refine .ret (rT (Fin.ret1 Try.results15 rfl ?_))
              first | exact ⟨rfl, H9, hleF, hs.out⟩ | contradiction | (exfalso; omega) | (exfalso; simp_all; done)
            · refine .gT rfl rfl ?_
              refine .z zm ?_
              refine .gT rfl rfl ?_
              refine .z zlss (.z zpF (.z zm ?_))
              refine .bifD (t' := 93) rfl (fun hb93 => ?_) (fun hb93 => ?_)
              · refine .gFs 3 25 false rfl rfl rfl ?_
                refine .z zpT (.nil ?_)
                refine (.condT rfl rfl ?_)
                refine .regSeq (.z zg (.nil ?_))
                refine .ret (rT (Fin.ret1 Try.results15 rfl ?_))
                first | exact ⟨rfl, H9, hleF, hs.out⟩ | contradiction | (exfalso; omega) | (exfalso; simp_all; done)
              · refine .gT rfl rfl ?_
                refine .z zm ?_
                refine .gT rfl rfl ?_
                refine .z zm ?_
                refine .gT rfl rfl ?_
                refine .z zgtr (.z zpF (.nil ?_))
                refine (.condD rfl (fun hc97 => ?_) (fun hc97 => ?_))
                · refine .regSeq (.z zg (.nil ?_))
                  refine .ret (rT (Fin.ret1 Try.results15 rfl ?_))
                  first | exact ⟨rfl, H9, hleF, hs.out⟩ | contradiction | (exfalso; omega) | (exfalso; simp_all; done)
                · refine .skip ?_
                  refine nT ?_
                  refine .seq (.regSeq (.z (zfa fa_api_System_1) (.y hs (zld Try.isAgg30) (.z (zlen Try.runUnderlying30) (.z zm (.nil ?_))))))
                  refine .for (N := s.lims.length) (J := fun k fr w => fr = [(99, .slice a25 s.lims.length c25), (16, I d), (15, I m), (13, .slice ax x.length cx), (14, .slice ay y.length cy), (12, I (lo + q)), (8, .slice a8 W.length c8)] ∧ St H4 w (.blk b7 [I s.many, .slice a25 s.lims.length c25] :: .blk b3 [I r.many, .slice al r.lims.length cl] :: σ)) (by omega) ?_ ?_ ?_
                  · exact .mk ⟨rfl, hs⟩
                  · rintro k fr w hk ⟨rfl, hs⟩
                    have hx := gl_get hk
                    obtain ⟨⟨hA1, hA2⟩, ⟨hB1, hB2⟩, _, ⟨hM1, hM2⟩, _⟩ := hok.lim _ (gl_mem hk)
                    have hfx := feas_iff.1 hBx.feas _ (gl_mem hk)
                    have hfy := feas_iff.1 hBy.feas _ (gl_mem hk)
                    generalize gl s.lims k = l at hx hA1 hA2 hB1 hB2 hM1 hM2 hfx hfy
                    have kA := key l.A.toNat (by omega)
                    have kB := key l.B.toNat (by omega)
                    have kbx := hBx.low l.A.toNat (by omega)
                    have kby := hBy.low l.A.toNat (by omega)
                    have kcx := hBx.low l.B.toNat (by omega)
                    have kcy := hBy.low l.B.toNat (by omega)
                    have kM := mul_bd (a := d) (b := l.M) (A := 537600000) (B := 20000) (by omega) (by omega)
                    have hkeep := between_keep (d := d) hm1.1 hm1.2 hfx hfy
                    refine .block (.regSeq ?_)
                    refine .ixX (enc := Lim.c) hs hL4 rfl rfl Try.runUnderlying30 Try.sizeOf100 hx (by first | rfl | assumption | omega) ?_; intro b103 o103 hc103
                    refine .q hs (q_loadsR (vs := (Lim.c l)) rfl Try.isAgg100 Try.sizeOf100 hc103) ?_
                    refine .o (.alloc hs Try.zeroValue100 rfl ?_); intro b19 w hs
                    refine .o (.stores (vs := l.c) hs rfl rfl Try.sizeOf100 ?_); intro w hs
                    change St _ _ (.blk b19 [I l.A, I l.B, I l.M, I l.S] :: _) at hs
                    refine .nil ?_
                    refine .seq (.draw mix rfl hs ?_); intro w hs
                    refine .z 0 rfl zm ?_; refine .z 1 rfl zm ?_; refine .z 2 rfl (zfa fa_api_Limit_0) ?_; refine .y 3 rfl hs Try.isAgg3 ?_
                    refine .ixX (enc := fun x => [I x]) (i := 4) hs rfl (by kernel_rfl) .none rx rfl rfl Try.runUnderlying22 Try.sizeOf3 (gi_get (l := x) (i := l.A.toNat) (by omega)) (by first | rfl | assumption | omega) ?_; intro b109 o109 hc109; replace hc109 := CellsAt.one hc109
                    refine .r (i := 5) hs rfl (by kernel_rfl) .none (q_loadR rfl Try.isAgg3 hc109) ?_
                    refine .z 6 rfl zmul ?_; refine .z 7 rfl zm ?_; refine .z 8 rfl zm ?_; refine .z 9 rfl (zfa fa_api_Limit_0) ?_; refine .y 10 rfl hs Try.isAgg3 ?_
                    refine .ixX (enc := fun x => [I x]) (i := 11) hs rfl (by kernel_rfl) .none ry rfl rfl Try.runUnderlying22 Try.sizeOf3 (gi_get (l := y) (i := l.A.toNat) (by omega)) (by first | rfl | assumption | omega) ?_; intro b116 o116 hc116; replace hc116 := CellsAt.one hc116
                    refine .r (i := 12) hs rfl (by kernel_rfl) .none (q_loadR rfl Try.isAgg3 hc116) ?_
                    refine .z 13 rfl zm ?_; refine .z 14 rfl (zfa fa_api_Limit_0) ?_; refine .y 15 rfl hs Try.isAgg3 ?_
                    refine .ixX (enc := fun x => [I x]) (i := 16) hs rfl (by kernel_rfl) .none rx rfl rfl Try.runUnderlying22 Try.sizeOf3 (gi_get (l := x) (i := l.A.toNat) (by omega)) (by first | rfl | assumption | omega) ?_; intro b121 o121 hc121; replace hc121 := CellsAt.one hc121
                    refine .r (i := 17) hs rfl (by kernel_rfl) .none (q_loadR rfl Try.isAgg3 hc121) ?_
                    refine .z 18 rfl zsub ?_; refine .z 19 rfl zmul ?_; refine .z 20 rfl zadd ?_; refine .z 21 rfl zg ?_; refine .done (by kernel_rfl) hs ?_
                    refine .seq (.draw mix rfl hs ?_); intro w hs
                    refine .z 0 rfl zm ?_; refine .z 1 rfl zm ?_; refine .z 2 rfl (zfa fa_api_Limit_1) ?_; refine .y 3 rfl hs Try.isAgg3 ?_
                    refine .ixX (enc := fun x => [I x]) (i := 4) hs rfl (by kernel_rfl) .none rx rfl rfl Try.runUnderlying22 Try.sizeOf3 (gi_get (l := x) (i := l.B.toNat) (by omega)) (by first | rfl | assumption | omega) ?_; intro b130 o130 hc130; replace hc130 := CellsAt.one hc130
                    refine .r (i := 5) hs rfl (by kernel_rfl) .none (q_loadR rfl Try.isAgg3 hc130) ?_
                    refine .z 6 rfl zmul ?_; refine .z 7 rfl zm ?_; refine .z 8 rfl zm ?_; refine .z 9 rfl (zfa fa_api_Limit_1) ?_; refine .y 10 rfl hs Try.isAgg3 ?_
                    refine .ixX (enc := fun x => [I x]) (i := 11) hs rfl (by kernel_rfl) .none ry rfl rfl Try.runUnderlying22 Try.sizeOf3 (gi_get (l := y) (i := l.B.toNat) (by omega)) (by first | rfl | assumption | omega) ?_; intro b137 o137 hc137; replace hc137 := CellsAt.one hc137
                    refine .r (i := 12) hs rfl (by kernel_rfl) .none (q_loadR rfl Try.isAgg3 hc137) ?_
                    refine .z 13 rfl zm ?_; refine .z 14 rfl (zfa fa_api_Limit_1) ?_; refine .y 15 rfl hs Try.isAgg3 ?_
                    refine .ixX (enc := fun x => [I x]) (i := 16) hs rfl (by kernel_rfl) .none rx rfl rfl Try.runUnderlying22 Try.sizeOf3 (gi_get (l := x) (i := l.B.toNat) (by omega)) (by first | rfl | assumption | omega) ?_; intro b142 o142 hc142; replace hc142 := CellsAt.one hc142
                    refine .r (i := 17) hs rfl (by kernel_rfl) .none (q_loadR rfl Try.isAgg3 hc142) ?_
                    refine .z 18 rfl zsub ?_; refine .z 19 rfl zmul ?_; refine .z 20 rfl zadd ?_; refine .z 21 rfl zg ?_; refine .done (by kernel_rfl) hs ?_
                    refine .regSeq (.z zm (.z zm (.z zsub (.z zm (.z (zfa fa_api_Limit_2) (.y hs (zld Try.isAgg3) (.z zmul (.z zgtr (.nil ?_)))))))))
                    refine (.condD rfl (fun hc154 => ?_) (fun hc154 => ?_))
                    · refine .regSeq (.z zg (.nil ?_))
                      refine .ret (rB (rT (rB (rT (Fin.ret1 Try.results15 rfl ?_)))))
                      first | exact ⟨rfl, H9, hleF, hs.out⟩ | contradiction | (exfalso; omega) | (exfalso; simp_all; done)
                    · refine .skip ?_
                      refine nB (nT ?_)
                      exact .mk ⟨rfl, hs.out⟩
                  · rintro fr w ⟨rfl, hs⟩
                    refine nT ?_
                    refine .regSeq (.z zg (.nil (.seq (.regSeq (.z zm (.z (zlen Try.runUnderlying22) (.z zm (.nil ?_))))))))
                    refine .for (N := x.length) (J := fun k fr w => ∃ t : Int, fr = [(22, I t), (16, I d), (15, I m), (13, .slice ax x.length cx), (14, .slice ay y.length cy), (12, I (lo + q)), (8, .slice a8 W.length c8)] ∧ t = sumTo (fun v => gi W v * (d * gi x v + m * (gi y v - gi x v))) k ∧ St H4 w (.blk b7 [I s.many, .slice a25 s.lims.length c25] :: .blk b3 [I r.many, .slice al r.lims.length cl] :: σ)) (by omega) ?_ ?_ ?_
                    · exact .mk ⟨0, rfl, rfl, hs⟩
                    · rintro k fr w hk ⟨t, rfl, ht, hs⟩
                      have kA := key k (by omega)
                      have kW := keyw k (by omega)
                      have kbx := hBx.low k (by omega)
                      have kby := hBy.low k (by omega)
                      have kt := sumTo_abs (f := fun v => gi W v * (d * gi x v + m * (gi y v - gi x v))) (B := 61931520000000000) (n := k) (fun v hv => keyw v (by omega))
                      rw [← ht] at kt
                      refine .block (.regSeq (.z zm (.z zg (.nil ?_))))
                      refine .draw mix rfl hs ?_; intro w hs
                      refine .z 0 rfl zm ?_; refine .z 1 rfl zm ?_; refine .z 2 rfl zm ?_
                      refine .ixX (enc := fun x => [I x]) (i := 3) hs rfl (by kernel_rfl) .none rw4 rfl rfl Try.runUnderlying22 Try.sizeOf3 (gi_get (l := W) (i := k) (by omega)) (by first | rfl | assumption | omega) ?_; intro b164 o164 hc164; replace hc164 := CellsAt.one hc164
                      refine .r (i := 4) hs rfl (by kernel_rfl) .none (q_loadR rfl Try.isAgg3 hc164) ?_
                      refine .z 5 rfl zm ?_; refine .z 6 rfl zm ?_; refine .z 7 rfl zm ?_
                      refine .ixX (enc := fun x => [I x]) (i := 8) hs rfl (by kernel_rfl) .none rx rfl rfl Try.runUnderlying22 Try.sizeOf3 (gi_get (l := x) (i := k) (by omega)) (by first | rfl | assumption | omega) ?_; intro b169 o169 hc169; replace hc169 := CellsAt.one hc169
                      refine .r (i := 9) hs rfl (by kernel_rfl) .none (q_loadR rfl Try.isAgg3 hc169) ?_
                      refine .z 10 rfl zmul ?_; refine .z 11 rfl zm ?_; refine .z 12 rfl zm ?_; refine .z 13 rfl zm ?_
                      refine .ixX (enc := fun x => [I x]) (i := 14) hs rfl (by kernel_rfl) .none ry rfl rfl Try.runUnderlying22 Try.sizeOf3 (gi_get (l := y) (i := k) (by omega)) (by first | rfl | assumption | omega) ?_; intro b175 o175 hc175; replace hc175 := CellsAt.one hc175
                      refine .r (i := 15) hs rfl (by kernel_rfl) .none (q_loadR rfl Try.isAgg3 hc175) ?_
                      refine .z 16 rfl zm ?_; refine .z 17 rfl zm ?_
                      refine .ixX (enc := fun x => [I x]) (i := 18) hs rfl (by kernel_rfl) .none rx rfl rfl Try.runUnderlying22 Try.sizeOf3 (gi_get (l := x) (i := k) (by omega)) (by first | rfl | assumption | omega) ?_; intro b179 o179 hc179; replace hc179 := CellsAt.one hc179
                      refine .r (i := 19) hs rfl (by kernel_rfl) .none (q_loadR rfl Try.isAgg3 hc179) ?_
                      refine .z 20 rfl zsub ?_; refine .z 21 rfl zmul ?_; refine .z 22 rfl zadd ?_; refine .z 23 rfl zmul ?_; refine .z 24 rfl zadd ?_; refine .z 25 rfl zg ?_; refine .done (by kernel_rfl) hs ?_
                      refine nB (nT ?_)
                      exact .mk ⟨t + gi W k * (d * gi x k + m * (gi y k - gi x k)), rfl, by rw [ht]; rfl, hs⟩
                    · rintro fr w ⟨t, rfl, ht, hs⟩
                      rw [hxl, htot] at ht
                      have kt := mul_bd (a := d) (b := lo + q) (A := 537600000) (B := 268800000) (by omega) (by omega)
                      refine nT ?_
                      refine .regSeq (.z zm (.z zm (.z zm (.z zmul (.z zeql (.z zm ?_))))))
                      refine .bifD (t' := 192) rfl (fun hb192 => ?_) (fun hb192 => ?_)
                      · refine .gT rfl rfl ?_
                        refine .z zm ?_
                        refine .gT rfl rfl ?_
                        refine .ixY hs rx rfl rfl Try.runUnderlying22 Try.sizeOf3 (gi_get (l := x) (i := 0) (by omega)) (by first | rfl | assumption | omega) ?_; intro b194 o194 hc194
                        refine .gT rfl rfl ?_
                        refine .q hs (q_loadR rfl Try.isAgg3 hc194) ?_
                        refine .gT rfl rfl ?_
                        refine .z zeql (.z zpT (.z zm ?_))
                        refine .bifD (t' := 198) rfl (fun hb198 => ?_) (fun hb198 => ?_)
                        · refine .gT rfl rfl ?_
                          refine .z zm ?_
                          refine .gT rfl rfl ?_
                          refine .ixY hs ry rfl rfl Try.runUnderlying22 Try.sizeOf3 (gi_get (l := y) (i := 0) (by omega)) (by first | rfl | assumption | omega) ?_; intro b200 o200 hc200
                          refine .gT rfl rfl ?_
                          refine .q hs (q_loadR rfl Try.isAgg3 hc200) ?_
                          refine .gT rfl rfl ?_
                          refine .z zeql (.z zpT (.z zm ?_))
                          refine .bifD (t' := 204) rfl (fun hb204 => ?_) (fun hb204 => ?_)
                          · refine .gT rfl rfl ?_
                            refine .o (.call Try.call54 rfl (law02_sane_spec hs) ?_); rintro _ w ⟨rfl, H9, hle9, hs⟩
                            have hleF := hle14.trans hle9
                            refine .z zpT (.z zg (.nil ?_))
                            refine .ret (Fin.ret1 Try.results15 rfl ?_)
                            first | exact ⟨rfl, H9, hleF, hs.out⟩ | contradiction | (exfalso; omega) | (exfalso; simp_all; done)
                          · refine .gFs 1 17 true rfl rfl rfl ?_
                            refine .z zpF (.z zg (.nil ?_))
                            refine .ret (Fin.ret1 Try.results15 rfl ?_)
                            first | exact ⟨rfl, H9, hleF, hs.out⟩ | contradiction | (exfalso; omega) | (exfalso; simp_all; done)
                        · refine .gFs 4 11 true rfl rfl rfl ?_
                          refine .z zpF (.z zm ?_)
                          refine .gFs 1 17 true rfl rfl rfl ?_
                          refine .z zpF (.z zg (.nil ?_))
                          refine .ret (Fin.ret1 Try.results15 rfl ?_)
                          first | exact ⟨rfl, H9, hleF, hs.out⟩ | contradiction | (exfalso; omega) | (exfalso; simp_all; done)
                      · refine .gFs 4 5 true rfl rfl rfl ?_
                        refine .z zpF (.z zm ?_)
                        refine .gFs 4 11 true rfl rfl rfl ?_
                        refine .z zpF (.z zm ?_)
                        refine .gFs 1 17 true rfl rfl rfl ?_
                        refine .z zpF (.z zg (.nil ?_))
                        refine .ret (Fin.ret1 Try.results15 rfl ?_)
                        first | exact ⟨rfl, H9, hleF, hs.out⟩ | contradiction | (exfalso; omega) | (exfalso; simp_all; done)
end Go.Proofs.Ytiiokdeehlfeeaa

namespace Go.Proofs.Ytiiokdeehlfeeaa
open Go.MW
set_option maxHeartbeats 8000000 in
theorem law_BoundTaken_walk {H : Heap} {w : World} {σ : List Ent} {v vn vb : Value} {r : Syst} {ns bs : List Int} (hs : St H w σ) (hr : RSy H v r) (hn : RI H vn ns) (hb : RI H vb bs) (hbl : bs.length ≤ 17592186043904) :
    Cl Try.prog 20 [v, vn, vb] w fun v w' => v = .bool true ∧ ∃ H', HLe H H' ∧ St H' w' σ := by
  obtain ⟨ul, rfl, hl⟩ := hr
  obtain ⟨al, cl, rfl⟩ := RL.shape hl
  obtain ⟨an, cn, rfl⟩ := RI.shape hn
  obtain ⟨ab, cb, rfl⟩ := RI.shape hb
  refine Cl.of Try.func20 rfl Try.ntmps20 (by simp) (args_cons (k := 0) rfl (args_cons (k := 1) rfl (args_cons (k := 2) rfl (args0)))) ?_
  refine .regSeq ?_
  refine .o (.box hs rfl rfl ?_); intro b3 w hs
  refine .z zg (.nil (.regSeq (.y hs (zls [_, _] Try.isAgg85 Try.sizeOf85) ?_)))
  refine .o (.call Try.call51 rfl (law02_made_spec (r := r) hs ⟨_, rfl, hl⟩) ?_); rintro _ w ⟨H1, hle1, ⟨u31, rfl, hL⟩, hs⟩
  obtain ⟨a31, c31, rfl⟩ := RL.shape hL
  have hok := madeS_ok r
  have hmade := made_ask r ns
  generalize madeS r = s at hL hok hmade ⊢
  have hll := hok.len
  refine .o (.alloc hs Try.zeroValue32 rfl ?_); intro b7 w hs
  refine .o (.stores (vs := [_, _]) hs rfl rfl Try.sizeOf32 ?_); intro w hs
  refine .nil (.regSeq (.y hs (zls [_, _] Try.isAgg32 Try.sizeOf32) (.z zm ?_)))
  refine .o (.call Try.call57 rfl (law02_weights_spec (s := s) hs ⟨_, rfl, hL⟩ (hn.mono hle1) ⟨hok.m0, hok.m1⟩) ?_); rintro v34 w ⟨H2, hle2, rw8, hs⟩
  obtain ⟨a8, c8, rfl⟩ := RI.shape rw8
  generalize wOf s.n ns = W at rw8 hmade
  have hle12 := hle1.trans hle2
  have hL2 := hL.mono hle2
  refine .z zg (.nil (.regSeq (.z zg (.nil (.seq (.regSeq (.z zm (.z (zlen Try.runUnderlying22) (.z zm ?_)))))))))
  refine .nil ?_
  refine .for (N := bs.length) (J := fun k fr w => ∃ vo en, fr = [(9, vo), (35, .slice ab bs.length cb), (8, .slice a8 W.length c8), (7, .pointer (some ⟨b7, 0, none⟩))] ∧ OwnS 1 vo (Is ((bs.take k).map fun x => 1 + x % 6)) en ∧ St H2 w (en :: .blk b7 [I s.many, .slice a31 s.lims.length c31] :: .blk b3 [I r.many, .slice al r.lims.length cl] :: σ)) (by omega) ?_ ?_ ?_
  · exact .mk ⟨_, _, rfl, .nil 1 none, hs.nul⟩
  · rintro k fr w hk ⟨vo, en, rfl, hO, hs⟩
    obtain ⟨ao, lo, co, rfl, hlo⟩ := hO.shape
    have hx := gi_get hk
    refine .block (.regSeq ?_)
    refine .ixY hs (hb.mono hle12) rfl rfl Try.runUnderlying22 Try.sizeOf3 (gi_get (l := bs) (i := k) (by omega)) (by first | rfl | assumption | omega) ?_; intro b39 o39 hc39
    refine .q hs (q_loadR rfl Try.isAgg3 hc39) ?_
    refine .z zg (.nil (.region (.z zm (.z zm ?_))))
    refine .o (.call Try.call55 rfl (law02_mod_spec hs ⟨by omega, by omega⟩) ?_); rintro _ w ⟨rfl, hs⟩
    refine .z zadd ?_
    refine .o (.buildSlice (cells := [_]) hs bls_sl_int_1 rfl rfl ?_); intro b45 w hs
    refine .o (.append (ys := Is [1 + gi bs k % 6]) hs app_sl_int_int rfl rfl hO (.own .here rfl rfl) (Is_cell _) (fun l' h => by simp at h; omega) ?_); intro v46 en46 w hO2 hs
    rw [show ∀ A : List Int, Is A ++ Is [1 + gi bs k % 6] = Is (A ++ [1 + gi bs k % 6]) from fun A => by simp [Is]] at hO2
    refine .z zg (.nil ?_)
    refine nB (nT ?_)
    exact .mk ⟨_, _, rfl, by rw [take_snoc hx, List.map_append]; exact hO2, hs.sub (by repeat (first | exact Sub.refl _ | constructor | apply Sub.weaken))⟩
  · rintro fr w ⟨vo, en, rfl, hO, hs⟩
    rw [List.take_length] at hO
    obtain ⟨H3, hle3, rO, hs⟩ := OwnS.publishI hO (by rw [List.length_map]; omega) hs .here
    generalize bs.map (fun x => 1 + x % 6) = os at rO
    obtain ⟨ao, co, rfl⟩ := RI.shape rO
    have hL3 := hL2.mono hle3
    have rw3 := rw8.mono hle3
    have hle13 := hle12.trans hle3
    have htk : (s.wo os).Ok := hok.wo os
    have htA : askErr (s.wo os) W = 0 := askErr_wo hmade
    have htl := htk.len
    have hsub : ∀ l ∈ (s.wo os).lims, l ∈ s.lims := fun l hl => (List.mem_filter.1 hl).1
    refine nT ?_
    refine .regSeq (.y hs (zls [_, _] Try.isAgg32 Try.sizeOf32) (.z zm ?_))
    refine .o (.call Try.call68 rfl (bound_Without_spec (s := s) hs ⟨_, rfl, hL3⟩ rO (by omega)) ?_); rintro _ w ⟨H4, hle4, ⟨u50, rfl, hL50⟩, hs⟩
    obtain ⟨a50, c50, rfl⟩ := RL.shape hL50
    refine .o (.alloc hs Try.zeroValue32 rfl ?_); intro b12 w hs
    refine .o (.stores (vs := [_, _]) hs rfl rfl Try.sizeOf32 ?_); intro w hs
    refine .nil (.regSeq (.y hs (zls [_, _] Try.isAgg32 Try.sizeOf32) (.z zm ?_)))
    refine .o (.call Try.call62 rfl (bound_Prove_spec (s := s) hs ⟨_, rfl, hL3.mono hle4⟩ (rw3.mono hle4)) ?_); rintro _ w ⟨H5, vp, pn, us, e14, hle5, rfl, hM, ⟨up, rfl, hU⟩, -, hPok, hs⟩
    obtain ⟨au, cu, rfl⟩ := RU.shape hU
    have hle35 := hle4.trans hle5
    refine .z zm (.z zex (.z zex ?_))
    refine .o (.alloc hs Try.zeroValue40 rfl ?_); intro b13 w hs
    refine .o (.stores (vs := [_, _]) hs rfl rfl Try.sizeOf40 ?_); intro w hs
    refine .z zg (.nil (.regSeq (.y hs (zls [_, _] Try.isAgg32 Try.sizeOf32) (.z zm ?_))))
    refine .o (.call Try.call60 rfl (bound_Range_spec (s := s) hs ⟨_, rfl, hL3.mono hle35⟩ (rw3.mono hle35)) ?_); rintro _ w ⟨H6, lo, hi, f, hle6, rfl, R, hs⟩
    have hle36 := hle35.trans hle6
    refine .z zm (.z zex (.z zex (.z zex (.z zg (.z zg (.z zg (.nil (.regSeq (.y hs (zls [_, _] Try.isAgg32 Try.sizeOf32) ?_)))))))))
    refine .z zm ?_
    refine .o (.call Try.call60 rfl (bound_Range_spec (s := s.wo os) hs ⟨_, rfl, hL50.mono (hle5.trans hle6)⟩ (rw3.mono hle36)) ?_); rintro _ w ⟨H7, low, high, g, hle7, rfl, R2, hs⟩
    have hle37 := hle36.trans hle7
    have hle17 := hle13.trans hle37
    have hcmp := range_sub (s := s) htk rfl hsub hmade R R2
    refine .z zm (.z zex (.z zex (.z zex (.z zg (.z zg (.z zg (.nil ?_)))))))
    refine .cut (fun fs w => ∃ H8, FSub fs ⟨179, [], [(20, I g), (19, I high), (18, I low), (17, I f), (16, I hi), (15, I lo), (8, .slice a8 W.length c8), (7, .pointer (some ⟨b7, 0, none⟩))]⟩ ∧ HLe H7 H8 ∧ St H8 w (.blk b7 [I s.many, .slice a31 s.lims.length c31] :: .blk b3 [I r.many, .slice al r.lims.length cl] :: σ)) ?_ ?_
    · refine .regSeq (.z zm (.z zeql (.nil ?_)))
      refine (.condD rfl (fun hc72 => ?_) (fun hc72 => ?_))
      · refine .regSeq (.y hs (zls [_, _] Try.isAgg32 Try.sizeOf32) (.z zm (.y hs (zls [_, _] Try.isAgg40 Try.sizeOf40) (.z zm ?_))))
        refine .o (.call Try.call89 rfl (bound_Carry_spec (s := s) hs ⟨_, rfl, hL3.mono hle37⟩ (rw3.mono hle37) ⟨_, rfl, hU.mono (hle6.trans hle7)⟩ (rO.mono hle37)) ?_); rintro _ w ⟨H8, vq, qa, qA, e22, hle8, rfl, ⟨uq, rfl, hq⟩, hC, hs⟩
        obtain ⟨aq, cq, rfl⟩ := RU.shape hq
        have hcar : e22 = 3 ∨ (e22 = 0 ∧ qa = pn ∧ ProofR (s.wo os) W pn qA 0) := by
          subst hc72
          obtain ⟨h1, h2, ts, h3, h4, h5⟩ := hPok rfl
          have hP := flow_proof h1 h3
          rw [← h4, ← h5] at hP
          cases hC with
          | bad h he => exact (he (h.uniq (.ok hmade hP))).elim
          | none => exact .inl rfl
          | ok _ h => exact .inr ⟨rfl, rfl, .ok htA (carry_ok hP h)⟩
        refine .z zm (.z zex (.z zex ?_))
        refine .o (.alloc hs Try.zeroValue40 rfl ?_); intro b21 w hs
        refine .o (.stores (vs := [_, _]) hs rfl rfl Try.sizeOf40 ?_); intro w hs
        refine .z zg (.nil (.regSeq (.z zm (.z zneq (.z zm ?_)))))
        refine .bifN (t' := 83) rfl (fun hb83 => ?_) (fun hb83 => ?_)
        · refine .gT rfl rfl ?_
          refine .z zm ?_
          refine .gT rfl rfl ?_
          refine .z zneq (.z zpT (.z zm ?_))
          refine .bifN (t' := 87) rfl (fun hb87 => ?_) (fun hb87 => ?_)
          · refine .gFs 3 6 false rfl rfl rfl ?_
            refine .gFs 6 9 true rfl rfl rfl ?_
            refine .gFs 5 15 false rfl rfl rfl ?_
            refine .gFs 1 9 true rfl rfl rfl ?_
            refine .gFs 1 6 false rfl rfl rfl ?_
            refine .z zpT (.nil ?_)
            refine (.condT rfl rfl ?_)
            refine .regSeq (.z zg (.nil ?_))
            refine .ret (rT (Fin.ret1 Try.results20 rfl ?_))
            first | exact ⟨rfl, H12, hleF, hs.out⟩ | contradiction | (exfalso; omega) | (exfalso; simp_all; done) | (exfalso; rw [hmov] at *; simp_all; done)
          · refine .gT rfl rfl ?_
            refine .z zm ?_
            refine .gT rfl rfl ?_
            refine .z zeql ?_
            refine .gT rfl rfl ?_
            refine .z zm ?_
            refine .bifD (t' := 90) rfl (fun hb90 => ?_) (fun hb90 => ?_)
            · refine .gT rfl rfl ?_
              refine .y hs (zls [_, _] Try.isAgg32 Try.sizeOf32) ?_
              refine .gT rfl rfl ?_
              refine .z zm ?_
              refine .gT rfl rfl ?_
              refine .y hs (zls [_, _] Try.isAgg40 Try.sizeOf40) ?_
              refine .gT rfl rfl ?_
              refine .o (.call Try.call91 rfl (bound_CheckProof_spec (s := s.wo os) (n := qa) (us := qA) hs ⟨_, rfl, hL50.mono (hle5.trans (hle6.trans (hle7.trans hle8)))⟩ (rw3.mono (hle37.trans hle8)) ⟨_, rfl, hq⟩) ?_); rintro _ w ⟨H9, e94, hle9, rfl, hP94, hs⟩
              obtain ⟨rfl, rfl⟩ : e94 = 0 ∧ qa = pn := by
                rcases hcar with h | ⟨_, h2, h3⟩
                · omega
                · subst h2; exact ⟨hP94.uniq h3, rfl⟩
              refine .gT rfl rfl ?_
              refine .z zneq ?_
              refine .gT rfl rfl ?_
              refine .z zm ?_
              refine .bifN (t' := 96) rfl (fun hb96 => ?_) (fun hb96 => ?_)
              · refine .gFs 5 15 false rfl rfl rfl ?_
                refine .gT rfl rfl ?_
                refine .z zpT ?_
                refine .gT rfl rfl ?_
                refine .z zpT (.z zpF (.nil ?_))
                refine (.condT rfl rfl ?_)
                refine .regSeq (.z zg (.nil ?_))
                refine .ret (rT (Fin.ret1 Try.results20 rfl ?_))
                first | exact ⟨rfl, H12, hleF, hs.out⟩ | contradiction | (exfalso; omega) | (exfalso; simp_all; done) | (exfalso; rw [hmov] at *; simp_all; done)
              · refine .gT rfl rfl ?_
                refine .z (zfa fa_api_Proof_0) ?_
                refine .gT rfl rfl ?_
                refine .y hs (zld Try.isAgg3) ?_
                refine .gT rfl rfl ?_
                refine .z (zfa fa_api_Proof_0) ?_
                refine .gT rfl rfl ?_
                refine .y hs (zld Try.isAgg3) ?_
                refine .gT rfl rfl ?_
                refine .z zneq ?_
                refine .gT rfl rfl ?_
                refine .z zpF ?_
                refine .gT rfl rfl ?_
                refine .z zpT (.z zpF (.nil ?_))
                refine (.condN rfl (fun hc104 => ?_) (fun hc104 => ?_))
                · refine .regSeq (.z zg (.nil ?_))
                  refine .ret (rT (Fin.ret1 Try.results20 rfl ?_))
                  first | exact ⟨rfl, H12, hleF, hs.out⟩ | contradiction | (exfalso; omega) | (exfalso; simp_all; done) | (exfalso; rw [hmov] at *; simp_all; done)
                · refine .skip ?_
                  refine nT ?_
                  first | exact nT ⟨H9, by repeat (first | exact .nil rfl rfl | refine .cons rfl ?_), hle8.trans hle9, hs.sub (by repeat (first | exact Sub.refl _ | constructor | apply Sub.weaken))⟩ | exact nT ⟨H8, by repeat (first | exact .nil rfl rfl | refine .cons rfl ?_), hle8, hs.sub (by repeat (first | exact Sub.refl _ | constructor | apply Sub.weaken))⟩ | exact nT ⟨H7, by repeat (first | exact .nil rfl rfl | refine .cons rfl ?_), HLe.refl _, hs.sub (by repeat (first | exact Sub.refl _ | constructor | apply Sub.weaken))⟩ | exact ⟨H9, by repeat (first | exact .nil rfl rfl | refine .cons rfl ?_), hle8.trans hle9, hs.sub (by repeat (first | exact Sub.refl _ | constructor | apply Sub.weaken))⟩ | exact ⟨H8, by repeat (first | exact .nil rfl rfl | refine .cons rfl ?_), hle8, hs.sub (by repeat (first | exact Sub.refl _ | constructor | apply Sub.weaken))⟩ | exact ⟨H7, by repeat (first | exact .nil rfl rfl | refine .cons rfl ?_), HLe.refl _, hs.sub (by repeat (first | exact Sub.refl _ | constructor | apply Sub.weaken))⟩
            · refine .gFs 6 9 true rfl rfl rfl ?_
              refine .gFs 5 15 false rfl rfl rfl ?_
              refine .gFs 1 9 true rfl rfl rfl ?_
              refine .gT rfl rfl ?_
              refine .z zpF (.z zpF (.nil ?_))
              refine (.condF rfl rfl ?_)
              refine .skip ?_
              refine nT ?_
              first | exact nT ⟨H9, by repeat (first | exact .nil rfl rfl | refine .cons rfl ?_), hle8.trans hle9, hs.sub (by repeat (first | exact Sub.refl _ | constructor | apply Sub.weaken))⟩ | exact nT ⟨H8, by repeat (first | exact .nil rfl rfl | refine .cons rfl ?_), hle8, hs.sub (by repeat (first | exact Sub.refl _ | constructor | apply Sub.weaken))⟩ | exact nT ⟨H7, by repeat (first | exact .nil rfl rfl | refine .cons rfl ?_), HLe.refl _, hs.sub (by repeat (first | exact Sub.refl _ | constructor | apply Sub.weaken))⟩ | exact ⟨H9, by repeat (first | exact .nil rfl rfl | refine .cons rfl ?_), hle8.trans hle9, hs.sub (by repeat (first | exact Sub.refl _ | constructor | apply Sub.weaken))⟩ | exact ⟨H8, by repeat (first | exact .nil rfl rfl | refine .cons rfl ?_), hle8, hs.sub (by repeat (first | exact Sub.refl _ | constructor | apply Sub.weaken))⟩ | exact ⟨H7, by repeat (first | exact .nil rfl rfl | refine .cons rfl ?_), HLe.refl _, hs.sub (by repeat (first | exact Sub.refl _ | constructor | apply Sub.weaken))⟩
        · refine .gFs 2 2 true rfl rfl rfl ?_
          refine .z zpF (.z zm ?_)
          refine .gT rfl rfl ?_
          refine .z zm ?_
          refine .gT rfl rfl ?_
          refine .z zeql ?_
          refine .gT rfl rfl ?_
          refine .z zm ?_
          refine .bifD (t' := 90) rfl (fun hb90 => ?_) (fun hb90 => ?_)
          · refine .gT rfl rfl ?_
            refine .y hs (zls [_, _] Try.isAgg32 Try.sizeOf32) ?_
            refine .gT rfl rfl ?_
            refine .z zm ?_
            refine .gT rfl rfl ?_
            refine .y hs (zls [_, _] Try.isAgg40 Try.sizeOf40) ?_
            refine .gT rfl rfl ?_
            refine .o (.call Try.call91 rfl (bound_CheckProof_spec (s := s.wo os) (n := qa) (us := qA) hs ⟨_, rfl, hL50.mono (hle5.trans (hle6.trans (hle7.trans hle8)))⟩ (rw3.mono (hle37.trans hle8)) ⟨_, rfl, hq⟩) ?_); rintro _ w ⟨H9, e94, hle9, rfl, hP94, hs⟩
            obtain ⟨rfl, rfl⟩ : e94 = 0 ∧ qa = pn := by
              rcases hcar with h | ⟨_, h2, h3⟩
              · omega
              · subst h2; exact ⟨hP94.uniq h3, rfl⟩
            refine .gT rfl rfl ?_
            refine .z zneq ?_
            refine .gT rfl rfl ?_
            refine .z zm ?_
            refine .bifN (t' := 96) rfl (fun hb96 => ?_) (fun hb96 => ?_)
            · refine .gFs 5 15 false rfl rfl rfl ?_
              refine .gT rfl rfl ?_
              refine .z zpT ?_
              refine .gT rfl rfl ?_
              refine .z zpT (.z zpF (.nil ?_))
              refine (.condT rfl rfl ?_)
              refine .regSeq (.z zg (.nil ?_))
              refine .ret (rT (Fin.ret1 Try.results20 rfl ?_))
              first | exact ⟨rfl, H12, hleF, hs.out⟩ | contradiction | (exfalso; omega) | (exfalso; simp_all; done) | (exfalso; rw [hmov] at *; simp_all; done)
            · refine .gT rfl rfl ?_
              refine .z (zfa fa_api_Proof_0) ?_
              refine .gT rfl rfl ?_
              refine .y hs (zld Try.isAgg3) ?_
              refine .gT rfl rfl ?_
              refine .z (zfa fa_api_Proof_0) ?_
              refine .gT rfl rfl ?_
              refine .y hs (zld Try.isAgg3) ?_
              refine .gT rfl rfl ?_
              refine .z zneq ?_
              refine .gT rfl rfl ?_
              refine .z zpF ?_
              refine .gT rfl rfl ?_
              refine .z zpT (.z zpF (.nil ?_))
              refine (.condN rfl (fun hc104 => ?_) (fun hc104 => ?_))
              · refine .regSeq (.z zg (.nil ?_))
                refine .ret (rT (Fin.ret1 Try.results20 rfl ?_))
                first | exact ⟨rfl, H12, hleF, hs.out⟩ | contradiction | (exfalso; omega) | (exfalso; simp_all; done) | (exfalso; rw [hmov] at *; simp_all; done)
              · refine .skip ?_
                refine nT ?_
                first | exact nT ⟨H9, by repeat (first | exact .nil rfl rfl | refine .cons rfl ?_), hle8.trans hle9, hs.sub (by repeat (first | exact Sub.refl _ | constructor | apply Sub.weaken))⟩ | exact nT ⟨H8, by repeat (first | exact .nil rfl rfl | refine .cons rfl ?_), hle8, hs.sub (by repeat (first | exact Sub.refl _ | constructor | apply Sub.weaken))⟩ | exact nT ⟨H7, by repeat (first | exact .nil rfl rfl | refine .cons rfl ?_), HLe.refl _, hs.sub (by repeat (first | exact Sub.refl _ | constructor | apply Sub.weaken))⟩ | exact ⟨H9, by repeat (first | exact .nil rfl rfl | refine .cons rfl ?_), hle8.trans hle9, hs.sub (by repeat (first | exact Sub.refl _ | constructor | apply Sub.weaken))⟩ | exact ⟨H8, by repeat (first | exact .nil rfl rfl | refine .cons rfl ?_), hle8, hs.sub (by repeat (first | exact Sub.refl _ | constructor | apply Sub.weaken))⟩ | exact ⟨H7, by repeat (first | exact .nil rfl rfl | refine .cons rfl ?_), HLe.refl _, hs.sub (by repeat (first | exact Sub.refl _ | constructor | apply Sub.weaken))⟩
          · refine .gFs 6 9 true rfl rfl rfl ?_
            refine .gFs 5 15 false rfl rfl rfl ?_
            refine .gFs 1 9 true rfl rfl rfl ?_
            refine .gT rfl rfl ?_
            refine .z zpF (.z zpF (.nil ?_))
            refine (.condF rfl rfl ?_)
            refine .skip ?_
            refine nT ?_
            first | exact nT ⟨H9, by repeat (first | exact .nil rfl rfl | refine .cons rfl ?_), hle8.trans hle9, hs.sub (by repeat (first | exact Sub.refl _ | constructor | apply Sub.weaken))⟩ | exact nT ⟨H8, by repeat (first | exact .nil rfl rfl | refine .cons rfl ?_), hle8, hs.sub (by repeat (first | exact Sub.refl _ | constructor | apply Sub.weaken))⟩ | exact nT ⟨H7, by repeat (first | exact .nil rfl rfl | refine .cons rfl ?_), HLe.refl _, hs.sub (by repeat (first | exact Sub.refl _ | constructor | apply Sub.weaken))⟩ | exact ⟨H9, by repeat (first | exact .nil rfl rfl | refine .cons rfl ?_), hle8.trans hle9, hs.sub (by repeat (first | exact Sub.refl _ | constructor | apply Sub.weaken))⟩ | exact ⟨H8, by repeat (first | exact .nil rfl rfl | refine .cons rfl ?_), hle8, hs.sub (by repeat (first | exact Sub.refl _ | constructor | apply Sub.weaken))⟩ | exact ⟨H7, by repeat (first | exact .nil rfl rfl | refine .cons rfl ?_), HLe.refl _, hs.sub (by repeat (first | exact Sub.refl _ | constructor | apply Sub.weaken))⟩
      · refine .skip ?_
        refine nT ?_
        first | exact nT ⟨H9, by repeat (first | exact .nil rfl rfl | refine .cons rfl ?_), hle8.trans hle9, hs.sub (by repeat (first | exact Sub.refl _ | constructor | apply Sub.weaken))⟩ | exact nT ⟨H8, by repeat (first | exact .nil rfl rfl | refine .cons rfl ?_), hle8, hs.sub (by repeat (first | exact Sub.refl _ | constructor | apply Sub.weaken))⟩ | exact nT ⟨H7, by repeat (first | exact .nil rfl rfl | refine .cons rfl ?_), HLe.refl _, hs.sub (by repeat (first | exact Sub.refl _ | constructor | apply Sub.weaken))⟩ | exact ⟨H9, by repeat (first | exact .nil rfl rfl | refine .cons rfl ?_), hle8.trans hle9, hs.sub (by repeat (first | exact Sub.refl _ | constructor | apply Sub.weaken))⟩ | exact ⟨H8, by repeat (first | exact .nil rfl rfl | refine .cons rfl ?_), hle8, hs.sub (by repeat (first | exact Sub.refl _ | constructor | apply Sub.weaken))⟩ | exact ⟨H7, by repeat (first | exact .nil rfl rfl | refine .cons rfl ?_), HLe.refl _, hs.sub (by repeat (first | exact Sub.refl _ | constructor | apply Sub.weaken))⟩
    · rintro fs w ⟨H8, hfs, hle8, hs⟩
      refine WE.sub ?_ hfs
      have hle38 := hle37.trans hle8
      have hle18 := hle17.trans hle8
      refine .seq (.regSeq (.z zm (.z zneq (.nil ?_))))
      refine (.condN rfl (fun hc106 => ?_) (fun hc106 => ?_))
      · refine .regSeq (.z zm (.z zeql (.z zm ?_)))
        refine .bifD (t' := 109) rfl (fun hb109 => ?_) (fun hb109 => ?_)
        · refine .gFs 2 2 false rfl rfl rfl ?_
          refine .z zpT (.z zm ?_)
          refine .gT rfl rfl ?_
          refine .o (.call Try.call54 rfl (law02_sane_spec hs) ?_); rintro _ w ⟨rfl, H12, hle12', hs⟩
          have hleF := hle18.trans hle12'
          refine .z zpT (.z zg (.nil ?_))
          refine .ret (rT (Fin.ret1 Try.results20 rfl ?_))
          first | exact ⟨rfl, H12, hleF, hs.out⟩ | contradiction | (exfalso; omega) | (exfalso; simp_all; done) | (exfalso; rw [hmov] at *; simp_all; done)
        · refine .gT rfl rfl ?_
          refine .z zm ?_
          refine .gT rfl rfl ?_
          refine .z zeql (.z zpF (.z zm ?_))
          refine .bifD (t' := 113) rfl (fun hb113 => ?_) (fun hb113 => ?_)
          · refine .gT rfl rfl ?_
            refine .o (.call Try.call54 rfl (law02_sane_spec hs) ?_); rintro _ w ⟨rfl, H12, hle12', hs⟩
            have hleF := hle18.trans hle12'
            refine .z zpT (.z zg (.nil ?_))
            refine .ret (rT (Fin.ret1 Try.results20 rfl ?_))
            first | exact ⟨rfl, H12, hleF, hs.out⟩ | contradiction | (exfalso; omega) | (exfalso; simp_all; done) | (exfalso; rw [hmov] at *; simp_all; done)
          · refine .gFs 1 6 true rfl rfl rfl ?_
            refine .z zpF (.z zg (.nil ?_))
            refine .ret (rT (Fin.ret1 Try.results20 rfl ?_))
            first | exact ⟨rfl, H12, hleF, hs.out⟩ | contradiction | (exfalso; omega) | (exfalso; simp_all; done) | (exfalso; rw [hmov] at *; simp_all; done)
      · refine .skip ?_
        refine nT ?_
        refine .cut (fun fs w => FSub fs ⟨179, [], [(16, I hi), (15, I lo), (8, .slice a8 W.length c8), (7, .pointer (some ⟨b7, 0, none⟩))]⟩ ∧ f = 0 ∧ St H8 w (.blk b7 [I s.many, .slice a31 s.lims.length c31] :: .blk b3 [I r.many, .slice al r.lims.length cl] :: σ)) ?_ ?_
        · refine .regSeq ?_
          obtain ⟨hf0, hcmp⟩ : f = 0 ∧ ((g = 0 ∧ low ≤ lo ∧ hi ≤ high) ∨ g = 22) := by omega
          refine .z zm (.z zeql (.z zm ?_))
          refine .bifD (t' := 118) rfl (fun hb118 => ?_) (fun hb118 => ?_)
          · refine .gT rfl rfl ?_
            refine .z zm ?_
            refine .gT rfl rfl ?_
            refine .z zm ?_
            refine .gT rfl rfl ?_
            refine .z zgtr ?_
            refine .gT rfl rfl ?_
            refine .z zm ?_
            refine .bifD (t' := 122) rfl (fun hb122 => ?_) (fun hb122 => ?_)
            · refine .gFs 3 6 false rfl rfl rfl ?_
              refine .gT rfl rfl ?_
              refine .z zpT (.z zpT (.z zm ?_))
              refine .gFs 3 12 false rfl rfl rfl ?_
              refine .gFs 2 15 true rfl rfl rfl ?_
              refine .gFs 1 12 false rfl rfl rfl ?_
              refine .z zpT (.nil ?_)
              refine (.condT rfl rfl ?_)
              refine .regSeq (.z zg (.nil ?_))
              refine .ret (rT (Fin.ret1 Try.results20 rfl ?_))
              first | exact ⟨rfl, H12, hleF, hs.out⟩ | contradiction | (exfalso; omega) | (exfalso; simp_all; done) | (exfalso; rw [hmov] at *; simp_all; done)
            · refine .gT rfl rfl ?_
              refine .z zm ?_
              refine .gT rfl rfl ?_
              refine .z zm ?_
              refine .gT rfl rfl ?_
              refine .z zlss ?_
              refine .gT rfl rfl ?_
              refine .z zpF (.z zpT (.z zm ?_))
              refine .bifD (t' := 128) rfl (fun hb128 => ?_) (fun hb128 => ?_)
              · refine .gFs 3 12 false rfl rfl rfl ?_
                refine .gFs 2 15 true rfl rfl rfl ?_
                refine .gFs 1 12 false rfl rfl rfl ?_
                refine .z zpT (.nil ?_)
                refine (.condT rfl rfl ?_)
                refine .regSeq (.z zg (.nil ?_))
                refine .ret (rT (Fin.ret1 Try.results20 rfl ?_))
                first | exact ⟨rfl, H12, hleF, hs.out⟩ | contradiction | (exfalso; omega) | (exfalso; simp_all; done) | (exfalso; rw [hmov] at *; simp_all; done)
              · refine .gT rfl rfl ?_
                refine .z zm ?_
                refine .gT rfl rfl ?_
                refine .z zneq ?_
                refine .gT rfl rfl ?_
                refine .z zm ?_
                refine .bifN (t' := 131) rfl (fun hb131 => ?_) (fun hb131 => ?_)
                · refine .gT rfl rfl ?_
                  refine .z zm ?_
                  refine .gT rfl rfl ?_
                  refine .z zneq ?_
                  refine .gT rfl rfl ?_
                  refine .z zpT (.z zpF (.nil ?_))
                  refine (.condN rfl (fun hc135 => ?_) (fun hc135 => ?_))
                  · refine .regSeq (.z zg (.nil ?_))
                    refine .ret (rT (Fin.ret1 Try.results20 rfl ?_))
                    first | exact ⟨rfl, H12, hleF, hs.out⟩ | contradiction | (exfalso; omega) | (exfalso; simp_all; done) | (exfalso; rw [hmov] at *; simp_all; done)
                  · refine .skip ?_
                    refine nT ?_
                    exact ⟨by repeat (first | exact .nil rfl rfl | refine .cons rfl ?_), hf0, hs.sub (by repeat (first | exact Sub.refl _ | constructor | apply Sub.weaken))⟩
                · refine .gFs 2 15 true rfl rfl rfl ?_
                  refine .gT rfl rfl ?_
                  refine .z zpF (.z zpF (.nil ?_))
                  refine (.condF rfl rfl ?_)
                  refine .skip ?_
                  refine nT ?_
                  exact ⟨by repeat (first | exact .nil rfl rfl | refine .cons rfl ?_), hf0, hs.sub (by repeat (first | exact Sub.refl _ | constructor | apply Sub.weaken))⟩
          · refine .gFs 4 2 true rfl rfl rfl ?_
            refine .gFs 3 6 false rfl rfl rfl ?_
            refine .gFs 1 2 true rfl rfl rfl ?_
            refine .z zpF (.z zm ?_)
            refine .gT rfl rfl ?_
            refine .z zm ?_
            refine .gT rfl rfl ?_
            refine .z zneq ?_
            refine .gT rfl rfl ?_
            refine .z zm ?_
            refine .bifN (t' := 131) rfl (fun hb131 => ?_) (fun hb131 => ?_)
            · refine .gT rfl rfl ?_
              refine .z zm ?_
              refine .gT rfl rfl ?_
              refine .z zneq ?_
              refine .gT rfl rfl ?_
              refine .z zpT (.z zpF (.nil ?_))
              refine (.condN rfl (fun hc135 => ?_) (fun hc135 => ?_))
              · refine .regSeq (.z zg (.nil ?_))
                refine .ret (rT (Fin.ret1 Try.results20 rfl ?_))
                first | exact ⟨rfl, H12, hleF, hs.out⟩ | contradiction | (exfalso; omega) | (exfalso; simp_all; done) | (exfalso; rw [hmov] at *; simp_all; done)
              · refine .skip ?_
                refine nT ?_
                exact ⟨by repeat (first | exact .nil rfl rfl | refine .cons rfl ?_), hf0, hs.sub (by repeat (first | exact Sub.refl _ | constructor | apply Sub.weaken))⟩
            · refine .gFs 2 15 true rfl rfl rfl ?_
              refine .gT rfl rfl ?_
              refine .z zpF (.z zpF (.nil ?_))
              refine (.condF rfl rfl ?_)
              refine .skip ?_
              refine nT ?_
              exact ⟨by repeat (first | exact .nil rfl rfl | refine .cons rfl ?_), hf0, hs.sub (by repeat (first | exact Sub.refl _ | constructor | apply Sub.weaken))⟩
        · rintro fs2 w2 ⟨hfs2, hf0, hs2⟩
          subst hf0
          have hs := hs2
          refine WE.sub ?_ hfs2
          refine .regSeq (.y hs (zls [_, _] Try.isAgg32 Try.sizeOf32) (.z zm ?_))
          refine .o (.call Try.call93 rfl (bound_Moves_spec (s := s) hs ⟨_, rfl, hL3.mono hle38⟩ (rw3.mono hle38)) ?_); rintro _ w ⟨H9, v23, Ms, e24, hle9, rfl, rM, hMv, hs⟩
          obtain ⟨a23, c23, rfl⟩ := RI.shape rM
          obtain ⟨rfl, hMs⟩ : e24 = 0 ∧ RiseOf (fun x => SrcS s.lims x ∧ ¬ RangeR (s.wo [x]) W lo hi 0) Ms := by
            cases hMv with
            | bad h he => exact (he (R.uniq h).2.2.symm).elim
            | ok h h1 =>
              obtain ⟨rfl, rfl, _⟩ := R.uniq h
              exact ⟨rfl, h1⟩
          have hle39 := hle38.trans hle9
          refine .z zm (.z zex (.z zex (.z zg (.z zg (.nil (.seq (.regSeq (.z zm (.z zneq ?_)))))))))
          refine .nil ?_
          refine (.condN rfl (fun hc143 => ?_) (fun hc143 => ?_))
          · refine .regSeq (.z zg (.nil ?_))
            refine .ret (rT (Fin.ret1 Try.results20 rfl ?_))
            first | exact ⟨rfl, H12, hleF, hs.out⟩ | contradiction | (exfalso; omega) | (exfalso; simp_all; done) | (exfalso; rw [hmov] at *; simp_all; done)
          · refine .skip ?_
            refine nT ?_
            refine .seq (.regSeq (.y hs (zls [_, _] Try.isAgg32 Try.sizeOf32) ?_))
            refine .o (.call Try.call66 rfl (bound_Sources_spec (s := s) hs ⟨_, rfl, hL3.mono hle39⟩ (by omega)) ?_); rintro v145 w ⟨L, en, hO, hLl, hRise, hs⟩
            obtain ⟨H10, hle10, rL, hs⟩ := OwnS.publishI hO (by omega) hs .here
            obtain ⟨aL, cL, rfl⟩ := RI.shape rL
            refine .z (zlen Try.runUnderlying22) (.z zm (.nil ?_))
            refine .for (N := L.length) (J := fun k fr w => ∃ H11, fr = [(145, .slice aL L.length cL), (23, .slice a23 Ms.length c23), (16, I hi), (15, I lo), (8, .slice a8 W.length c8), (7, .pointer (some ⟨b7, 0, none⟩))] ∧ HLe H10 H11 ∧ St H11 w (.blk b7 [I s.many, .slice a31 s.lims.length c31] :: .blk b3 [I r.many, .slice al r.lims.length cl] :: σ)) (by omega) ?_ ?_ ?_
            · exact .mk ⟨H10, rfl, HLe.refl _, hs⟩
            · rintro k fr w hk ⟨H11, rfl, hle11, hs⟩
              have hx := (hRise.mem _).1 (List.mem_of_getElem? (gi_get hk))
              have hmem := hMs.mem (gi L k)
              have hle3b := hle39.trans (hle10.trans hle11)
              refine .block (.regSeq ?_)
              refine .ixY hs (rL.mono hle11) rfl rfl Try.runUnderlying22 Try.sizeOf3 (gi_get (l := L) (i := k) (by omega)) (by first | rfl | assumption | omega) ?_; intro b149 o149 hc149
              refine .q hs (q_loadR rfl Try.isAgg3 hc149) ?_
              refine .z zg (.nil (.regSeq (.y hs (zls [_, _] Try.isAgg32 Try.sizeOf32) (.z zm ?_))))
              refine .o (.buildSlice (cells := [_]) hs bls_sl_int_1 rfl rfl ?_); intro b154 w hs
              obtain ⟨H12, hle12', r154, hs⟩ := OwnS.publishI (xs := [gi L k]) (v := .slice (some ⟨b154, 0, none⟩) 1 1) (.full (len := 1) rfl) (by simp) hs (by repeat constructor)
              refine .o (.call Try.call68 rfl (bound_Without_spec (s := s) hs ⟨_, rfl, hL3.mono (hle3b.trans hle12')⟩ r154 (by omega)) ?_); rintro _ w ⟨H13, hle13', hS155, hs⟩
              have hle3d := hle3b.trans (hle12'.trans hle13')
              refine .z zm ?_
              refine .o (.call Try.call60 rfl (bound_Range_spec (s := s.wo [gi L k]) hs hS155 (rw3.mono hle3d)) ?_); rintro _ w ⟨H14, a, b, i, hle14, rfl, R3, hs⟩
              have hR3 : (a = lo ∧ b = hi ∧ i = 0) ↔ RangeR (s.wo [gi L k]) W lo hi 0 := RangeR.told R3
              have hmov : gi L k ∈ Ms ↔ ¬ (a = lo ∧ b = hi ∧ i = 0) := by rw [hR3, hmem]; exact ⟨fun h => h.2, fun h => ⟨hx, h⟩⟩
              refine .z zm (.z zex (.z zex (.z zex (.z zg (.z zg (.z zg (.nil (.regSeq (.z zm ?_)))))))))
              refine .z zm ?_
              refine .o (.call Try.call67 rfl (ref02_Has_spec hs (rM.mono (hle10.trans (hle11.trans (hle12'.trans (hle13'.trans hle14)))))) ?_); rintro _ w ⟨rfl, hs⟩
              refine .z zm (.z zeql (.z zm ?_))
              refine .bifD (t' := 166) rfl (fun hb166 => ?_) (fun hb166 => ?_)
              · refine .gT rfl rfl ?_
                refine .z zm ?_
                refine .gT rfl rfl ?_
                refine .z zm ?_
                refine .gT rfl rfl ?_
                refine .z zeql (.z zpT (.z zm ?_))
                refine .bifD (t' := 171) rfl (fun hb171 => ?_) (fun hb171 => ?_)
                · refine .gT rfl rfl ?_
                  refine .z zm ?_
                  refine .gT rfl rfl ?_
                  refine .z zm ?_
                  refine .gT rfl rfl ?_
                  refine .z zeql (.z zpT ?_)
                  refine .q hs (q_eqB rfl rfl Try.runUnderlying4) ?_
                  refine .nil ?_
                  refine (.cond rfl (fun hc176 => ?_) (fun hc176 => ?_))
                  · refine .regSeq (.z zg (.nil ?_))
                    refine .ret (rB (rT (rB (rT (Fin.ret1 Try.results20 rfl ?_)))))
                    first | exact ⟨rfl, H12, hleF, hs.out⟩ | contradiction | (exfalso; omega) | (exfalso; simp_all; done) | (exfalso; rw [hmov] at *; simp_all; done)
                  · refine .skip ?_
                    refine nB (nT ?_)
                    exact .mk ⟨H14, rfl, hle11.trans (hle12'.trans (hle13'.trans hle14)), hs.sub (by repeat (first | exact Sub.refl _ | constructor | apply Sub.weaken))⟩
                · refine .gFs 3 10 true rfl rfl rfl ?_
                  refine .z zpF ?_
                  refine .q hs (q_eqB rfl rfl Try.runUnderlying4) ?_
                  refine .nil ?_
                  refine (.cond rfl (fun hc176 => ?_) (fun hc176 => ?_))
                  · refine .regSeq (.z zg (.nil ?_))
                    refine .ret (rB (rT (rB (rT (Fin.ret1 Try.results20 rfl ?_)))))
                    first | exact ⟨rfl, H12, hleF, hs.out⟩ | contradiction | (exfalso; omega) | (exfalso; simp_all; done) | (exfalso; rw [hmov] at *; simp_all; done)
                  · refine .skip ?_
                    refine nB (nT ?_)
                    exact .mk ⟨H14, rfl, hle11.trans (hle12'.trans (hle13'.trans hle14)), hs.sub (by repeat (first | exact Sub.refl _ | constructor | apply Sub.weaken))⟩
              · refine .gFs 3 5 true rfl rfl rfl ?_
                refine .z zpF (.z zm ?_)
                refine .gFs 3 10 true rfl rfl rfl ?_
                refine .z zpF ?_
                refine .q hs (q_eqB rfl rfl Try.runUnderlying4) ?_
                refine .nil ?_
                refine (.cond rfl (fun hc176 => ?_) (fun hc176 => ?_))
                · refine .regSeq (.z zg (.nil ?_))
                  refine .ret (rB (rT (rB (rT (Fin.ret1 Try.results20 rfl ?_)))))
                  first | exact ⟨rfl, H12, hleF, hs.out⟩ | contradiction | (exfalso; omega) | (exfalso; simp_all; done) | (exfalso; rw [hmov] at *; simp_all; done)
                · refine .skip ?_
                  refine nB (nT ?_)
                  exact .mk ⟨H14, rfl, hle11.trans (hle12'.trans (hle13'.trans hle14)), hs.sub (by repeat (first | exact Sub.refl _ | constructor | apply Sub.weaken))⟩
            · rintro fr w ⟨H11, rfl, hle11, hs⟩
              refine nT ?_
              refine .regSeq ?_
              refine .o (.call Try.call54 rfl (law02_sane_spec hs) ?_); rintro _ w ⟨rfl, H12, hle12', hs⟩
              have hleF := hle18.trans (hle9.trans (hle10.trans (hle11.trans hle12')))
              refine .z zg (.nil ?_)
              refine .ret (Fin.ret1 Try.results20 rfl ?_)
              first | exact ⟨rfl, H12, hleF, hs.out⟩ | contradiction | (exfalso; omega) | (exfalso; simp_all; done) | (exfalso; rw [hmov] at *; simp_all; done)
end Go.Proofs.Ytiiokdeehlfeeaa

namespace Go.Proofs.Ytiiokdeehlfeeaa
open Go.MW
set_option maxHeartbeats 8000000 in
theorem law_BoundGreatest_walk {H : Heap} {w : World} {σ : List Ent} {v va vb vq : Value} {r : Syst} {ns ps : List Int} {qn : Int} {qs : List Use} (hs : St H w σ) (hr : RSy H v r) (ha : RI H va ns) (hb : RI H vb ps) (hq : RPf H vq qn qs) :
    Cl Try.prog 21 [v, .agg #[va, vb], vq] w fun v w' => v = .bool true ∧ ∃ H', HLe H H' ∧ St H' w' σ := by
  obtain ⟨ul, rfl, hl⟩ := hr
  obtain ⟨al, cl, rfl⟩ := RL.shape hl
  obtain ⟨aa, ca, rfl⟩ := RI.shape ha
  obtain ⟨ab, cb, rfl⟩ := RI.shape hb
  obtain ⟨uq, rfl, hqu⟩ := hq
  obtain ⟨aq, cq, rfl⟩ := RU.shape hqu
  refine Cl.of Try.func21 rfl Try.ntmps21 (by simp) (args_cons (k := 0) rfl (args_cons (k := 1) rfl (args_cons (k := 2) rfl (args0)))) ?_
  refine .regSeq ?_
  refine .o (.box hs rfl rfl ?_); intro b3 w hs
  refine .o (.box hs rfl rfl ?_); intro b4 w hs
  refine .o (.box hs rfl rfl ?_); intro b5 w hs
  refine .z zg (.nil (.regSeq (.y hs (zls [_, _] Try.isAgg85 Try.sizeOf85) ?_)))
  refine .o (.call Try.call51 rfl (law02_made_spec (r := r) hs ⟨_, rfl, hl⟩) ?_); rintro _ w ⟨H1, hle1, ⟨u23, rfl, hL⟩, hs⟩
  obtain ⟨a23, c23, rfl⟩ := RL.shape hL
  have hok := madeS_ok r
  have hmade := made_ask r ns
  have hpt := fun (h : (madeS r).Sound) (x : List Int) (g : PointP (madeS r) ps x) => made_point h g
  generalize madeS r = s at hL hok hmade hpt ⊢
  have hWl := wOf_length s.n ns
  have hn65 := hok.n65
  refine .o (.alloc hs Try.zeroValue32 rfl ?_); intro b7 w hs
  refine .o (.stores (vs := [_, _]) hs rfl rfl Try.sizeOf32 ?_); intro w hs
  refine .nil (.regSeq (.y hs (zls [_, _] Try.isAgg32 Try.sizeOf32) (.z (q_ixA0 (k := 0) rfl rfl Try.runUnderlying126 Try.sizeOf22 rfl (by decide)) (.y hs (zld Try.isAgg22) ?_))))
  refine .o (.call Try.call57 rfl (law02_weights_spec (s := s) hs ⟨_, rfl, hL⟩ (ha.mono hle1) ⟨hok.m0, hok.m1⟩) ?_); rintro v27 w ⟨H2, hle2, rw8, hs⟩
  obtain ⟨a8, c8, rfl⟩ := RI.shape rw8
  generalize wOf s.n ns = W at rw8 hmade hWl
  have hle12 := hle1.trans hle2
  have hL2 := hL.mono hle2
  obtain ⟨_, _, hWz⟩ := askErr_ok hmade
  refine .z zg (.nil (.regSeq (.y hs (zls [_, _] Try.isAgg32 Try.sizeOf32) (.z (q_ixA0 (k := 1) rfl rfl Try.runUnderlying126 Try.sizeOf22 rfl (by decide)) (.y hs (zld Try.isAgg22) ?_)))))
  refine .o (.call Try.call53 rfl (bound_Point_spec (s := s) hs ⟨_, rfl, hL2⟩ (hb.mono hle12)) ?_); rintro _ w ⟨H3, v9, x, e, hle3, rfl, rx, hP, hs⟩
  obtain ⟨ax, cx, rfl⟩ := RI.shape rx
  refine .z zm (.z zex (.z zex (.z zg (.z zg (.nil (.regSeq (.y hs (zls [_, _] Try.isAgg32 Try.sizeOf32) (.z zm ?_))))))))
  refine .o (.call Try.call56 rfl (bound_Most_spec (s := s) hs ⟨_, rfl, hL2.mono hle3⟩ (rw8.mono hle3)) ?_); rintro _ w ⟨H4, n1, f, hle4, rfl, hM, hs⟩
  have hle24 := hle3.trans hle4
  refine .z zm (.z zex (.z zex (.z zg (.z zg (.nil (.regSeq (.y hs (zls [_, _] Try.isAgg32 Try.sizeOf32) (.z zm ?_))))))))
  refine .o (.call Try.call61 rfl (bound_Best_spec (s := s) hs ⟨_, rfl, hL2.mono hle24⟩ (rw8.mono hle24)) ?_); rintro _ w ⟨H5, v13, y, g, hle5, rfl, hAg, ry, -, hB, hs⟩
  obtain rfl := hM.1.uniq hAg
  obtain ⟨ay, cy, rfl⟩ := RI.shape ry
  have hle25 := hle24.trans hle5
  refine .z zm (.z zex (.z zex (.z zg (.z zg (.nil (.regSeq (.y hs (zls [_, _] Try.isAgg32 Try.sizeOf32) (.z zm ?_))))))))
  refine .o (.call Try.call62 rfl (bound_Prove_spec (s := s) hs ⟨_, rfl, hL2.mono hle25⟩ (rw8.mono hle25)) ?_); rintro _ w ⟨H6, vp, pn, us, h, hle6, rfl, hM3, ⟨up, rfl, hU⟩, -, hPok, hs⟩
  obtain ⟨rfl, rfl⟩ := hM.uniq hM3
  obtain ⟨au, cu, rfl⟩ := RU.shape hU
  have hle26 := hle25.trans hle6
  refine .z zm (.z zex (.z zex ?_))
  refine .o (.alloc hs Try.zeroValue40 rfl ?_); intro b15 w hs
  refine .o (.stores (vs := [_, _]) hs rfl rfl Try.sizeOf40 ?_); intro w hs
  refine .z zg (.nil (.regSeq (.y hs (zls [_, _] Try.isAgg32 Try.sizeOf32) (.z zm (.y hs (zls [_, _] Try.isAgg40 Try.sizeOf40) ?_)))))
  refine .o (.call Try.call91 rfl (bound_CheckProof_spec (s := s) (n := qn) (us := qs) hs ⟨_, rfl, hL2.mono hle26⟩ (rw8.mono hle26) ⟨_, rfl, hqu.mono (hle12.trans hle26)⟩) ?_); rintro _ w ⟨H7, e56, hle7, rfl, hP56, hs⟩
  have hle27 := hle26.trans hle7
  have hle17 := hle12.trans hle27
  have hacc : e56 = 0 → ProofOk s W qn qs := fun h => by
    subst h
    generalize hz : (0 : Int) = z at hP56
    cases hP56 with
    | ask h => exact (h hz.symm).elim
    | bad => omega
    | ok _ h => exact h
  have hcase : (e = 23 ∧ f = 23) ∨ (e = 0 ∧ s.Sound ∧ PointP s ps x ∧ (f = 22 ∨ f = 0)) := by
    cases hP with
    | bad h => exact (h (s.ok_iff.2 hok)).elim
    | clash _ h => exact .inl ⟨rfl, ((mostR_clash hmade h).uniq hM).2.symm⟩
    | ok _ h1 h2 =>
      refine .inr ⟨rfl, h1, h2, ?_⟩
      rcases ask_sound hmade h1 hM.1 with h | h
      · exact .inl h.1
      · exact .inr h.1
  refine .z zeql (.z zg (.nil (.seq (.regSeq (.z zm (.z zneq (.nil ?_)))))))
  refine (.condN rfl (fun hc59 => ?_) (fun hc59 => ?_))
  · refine .regSeq (.z zm (.z zm (.z zeql (.z zm ?_))))
    refine .bifD (t' := 63) rfl (fun hb63 => ?_) (fun hb63 => ?_)
    · refine .gT rfl rfl ?_
      refine .z zm ?_
      refine .gT rfl rfl ?_
      refine .z zm ?_
      refine .gT rfl rfl ?_
      refine .z zeql (.z zpT (.z zm ?_))
      refine .bifD (t' := 68) rfl (fun hb68 => ?_) (fun hb68 => ?_)
      · refine .gT rfl rfl ?_
        refine .z zm ?_
        refine .gT rfl rfl ?_
        refine .z zm ?_
        refine .gT rfl rfl ?_
        refine .z zeql (.z zpT (.z zm ?_))
        refine .bifD (t' := 73) rfl (fun hb73 => ?_) (fun hb73 => ?_)
        · refine .gT rfl rfl ?_
          refine .o (.call Try.call54 rfl (law02_sane_spec hs) ?_); rintro _ w ⟨rfl, H12, hle12', hs⟩
          have hleF := hle17.trans hle12'
          refine .z zpT (.z zg (.nil ?_))
          refine .ret (rT (Fin.ret1 Try.results21 rfl ?_))
          first | exact ⟨rfl, H12, hleF, hs.out⟩ | contradiction | (exfalso; omega) | (exfalso; simp_all; done) | (exfalso; simp_all; omega)
        · refine .gFs 1 13 true rfl rfl rfl ?_
          refine .z zpF (.z zg (.nil ?_))
          refine .ret (rT (Fin.ret1 Try.results21 rfl ?_))
          first | exact ⟨rfl, H12, hleF, hs.out⟩ | contradiction | (exfalso; omega) | (exfalso; simp_all; done) | (exfalso; simp_all; omega)
      · refine .gFs 3 8 true rfl rfl rfl ?_
        refine .z zpF (.z zm ?_)
        refine .gFs 1 13 true rfl rfl rfl ?_
        refine .z zpF (.z zg (.nil ?_))
        refine .ret (rT (Fin.ret1 Try.results21 rfl ?_))
        first | exact ⟨rfl, H12, hleF, hs.out⟩ | contradiction | (exfalso; omega) | (exfalso; simp_all; done) | (exfalso; simp_all; omega)
    · refine .gFs 3 3 true rfl rfl rfl ?_
      refine .z zpF (.z zm ?_)
      refine .gFs 3 8 true rfl rfl rfl ?_
      refine .z zpF (.z zm ?_)
      refine .gFs 1 13 true rfl rfl rfl ?_
      refine .z zpF (.z zg (.nil ?_))
      refine .ret (rT (Fin.ret1 Try.results21 rfl ?_))
      first | exact ⟨rfl, H12, hleF, hs.out⟩ | contradiction | (exfalso; omega) | (exfalso; simp_all; done) | (exfalso; simp_all; omega)
  · refine .skip ?_
    refine nT ?_
    refine .regSeq ?_
    obtain ⟨rfl, hsd, hPP, hf⟩ : e = 0 ∧ s.Sound ∧ PointP s ps x ∧ (f = 22 ∨ f = 0) := hcase.resolve_left (by omega)
    obtain ⟨hxl, hx0, hxf, hxb⟩ := hpt hsd x hPP
    refine .z zm (.z zm ?_)
    refine .o (.call Try.call81 rfl (bound_Value_spec hs (rw8.mono hle27) (rx.mono (hle4.trans (hle5.trans (hle6.trans hle7))))) ?_); rintro _ w ⟨v18, i, rfl, hV, hs⟩
    obtain ⟨rfl, rfl⟩ := hV.uniq (.ok ⟨by omega, hWz⟩ ⟨by omega, inReach_iff.2 fun v hv => by have := hxb v hv; omega⟩)
    rw [dotL_val hWl hx0]
    have hweak : e56 = 0 → valw W s.n (gi x) ≤ qn := fun h => proof_weak hok (hacc h) hxf
    have hopen : f = 22 → e56 ≠ 0 := fun h h0 => by
      rcases ask_sound hmade hsd hM.1 with ⟨_, g⟩ | ⟨g, _⟩
      · exact g.no hxf fun p hp => by rw [wt_val']; exact proof_weak hok (hacc h0) hp
      · omega
    have hgood : f = 0 → valw W s.n (gi x) ≤ n1 ∧ (e56 = 0 → n1 ≤ qn) := fun h => by
      have ho := opt_val.1 (hM.2.2 h).1
      refine ⟨ho.2 _ hxf, fun h0 => ?_⟩
      obtain ⟨⟨p, hp, hv⟩, _⟩ := ho
      have := proof_weak hok (hacc h0) hp
      omega
    generalize valw W s.n (gi x) = vx at hweak hgood ⊢
    refine .z zm (.z zex (.z zex (.z zg (.z zg (.nil (.seq (.regSeq (.z zm (.z zneq ?_)))))))))
    refine .z zm ?_
    refine .bifN (t' := 84) rfl (fun hb84 => ?_) (fun hb84 => ?_)
    · refine .gFs 2 2 false rfl rfl rfl ?_
      refine .gFs 4 4 true rfl rfl rfl ?_
      refine .gFs 1 2 false rfl rfl rfl ?_
      refine .z zpT (.nil ?_)
      refine (.condT rfl rfl ?_)
      refine .regSeq (.z zg (.nil ?_))
      refine .ret (rT (Fin.ret1 Try.results21 rfl ?_))
      first | exact ⟨rfl, H12, hleF, hs.out⟩ | contradiction | (exfalso; omega) | (exfalso; simp_all; done) | (exfalso; simp_all; omega)
    · refine .gT rfl rfl ?_
      refine .z zm ?_
      refine .gT rfl rfl ?_
      refine .z zm ?_
      refine .bifD (t' := 86) rfl (fun hb86 => ?_) (fun hb86 => ?_)
      · refine .gT rfl rfl ?_
        refine .z zm ?_
        refine .gT rfl rfl ?_
        refine .z (zfa fa_api_Proof_0) ?_
        refine .gT rfl rfl ?_
        refine .y hs (zld Try.isAgg3) ?_
        refine .gT rfl rfl ?_
        refine .z zgtr ?_
        refine .gT rfl rfl ?_
        refine .z zpT (.z zpF (.nil ?_))
        refine (.condD rfl (fun hc92 => ?_) (fun hc92 => ?_))
        · refine .regSeq (.z zg (.nil ?_))
          refine .ret (rT (Fin.ret1 Try.results21 rfl ?_))
          first | exact ⟨rfl, H12, hleF, hs.out⟩ | contradiction | (exfalso; omega) | (exfalso; simp_all; done) | (exfalso; simp_all; omega)
        · refine .skip ?_
          refine nT ?_
          refine .seq (.regSeq (.z zm (.z zneq (.nil ?_))))
          refine (.condN rfl (fun hc94 => ?_) (fun hc94 => ?_))
          · refine .regSeq (.z zm (.z zeql (.z zm ?_)))
            refine .bifD (t' := 97) rfl (fun hb97 => ?_) (fun hb97 => ?_)
            · refine .gT rfl rfl ?_
              refine .z zm ?_
              refine .gT rfl rfl ?_
              refine .z zm ?_
              refine .gT rfl rfl ?_
              refine .z zeql (.z zpT (.z zm ?_))
              refine .bifD (t' := 102) rfl (fun hb102 => ?_) (fun hb102 => ?_)
              · refine .gT rfl rfl ?_
                refine .z zm ?_
                refine .gT rfl rfl ?_
                refine .z zm ?_
                refine .gT rfl rfl ?_
                refine .z zeql (.z zpT (.z zm ?_))
                refine .bifD (t' := 107) rfl (fun hb107 => ?_) (fun hb107 => ?_)
                · refine .gT rfl rfl ?_
                  refine .z zm ?_
                  refine .gT rfl rfl ?_
                  refine .z znot (.z zpT (.z zm ?_))
                  refine .bifN (t' := 111) rfl (fun hb111 => ?_) (fun hb111 => ?_)
                  · refine .gT rfl rfl ?_
                    refine .o (.call Try.call54 rfl (law02_sane_spec hs) ?_); rintro _ w ⟨rfl, H12, hle12', hs⟩
                    have hleF := hle17.trans hle12'
                    refine .z zpT (.z zg (.nil ?_))
                    refine .ret (rT (Fin.ret1 Try.results21 rfl ?_))
                    first | exact ⟨rfl, H12, hleF, hs.out⟩ | contradiction | (exfalso; omega) | (exfalso; simp_all; done) | (exfalso; simp_all; omega)
                  · refine .gFs 1 16 true rfl rfl rfl ?_
                    refine .z zpF (.z zg (.nil ?_))
                    refine .ret (rT (Fin.ret1 Try.results21 rfl ?_))
                    first | exact ⟨rfl, H12, hleF, hs.out⟩ | contradiction | (exfalso; omega) | (exfalso; simp_all; done) | (exfalso; simp_all; omega)
                · refine .gFs 2 12 true rfl rfl rfl ?_
                  refine .z zpF (.z zm ?_)
                  refine .gFs 1 16 true rfl rfl rfl ?_
                  refine .z zpF (.z zg (.nil ?_))
                  refine .ret (rT (Fin.ret1 Try.results21 rfl ?_))
                  first | exact ⟨rfl, H12, hleF, hs.out⟩ | contradiction | (exfalso; omega) | (exfalso; simp_all; done) | (exfalso; simp_all; omega)
              · refine .gFs 3 7 true rfl rfl rfl ?_
                refine .z zpF (.z zm ?_)
                refine .gFs 2 12 true rfl rfl rfl ?_
                refine .z zpF (.z zm ?_)
                refine .gFs 1 16 true rfl rfl rfl ?_
                refine .z zpF (.z zg (.nil ?_))
                refine .ret (rT (Fin.ret1 Try.results21 rfl ?_))
                first | exact ⟨rfl, H12, hleF, hs.out⟩ | contradiction | (exfalso; omega) | (exfalso; simp_all; done) | (exfalso; simp_all; omega)
            · refine .gFs 3 2 true rfl rfl rfl ?_
              refine .z zpF (.z zm ?_)
              refine .gFs 3 7 true rfl rfl rfl ?_
              refine .z zpF (.z zm ?_)
              refine .gFs 2 12 true rfl rfl rfl ?_
              refine .z zpF (.z zm ?_)
              refine .gFs 1 16 true rfl rfl rfl ?_
              refine .z zpF (.z zg (.nil ?_))
              refine .ret (rT (Fin.ret1 Try.results21 rfl ?_))
              first | exact ⟨rfl, H12, hleF, hs.out⟩ | contradiction | (exfalso; omega) | (exfalso; simp_all; done) | (exfalso; simp_all; omega)
          · refine .skip ?_
            refine nT ?_
            refine .regSeq (.z zm (.z zm ?_))
            have hf0 : f = 0 := hc94
            subst hf0
            obtain ⟨hVy, _, hyl, hy0, hyb, hyf⟩ := (hB rfl).value hM
            obtain ⟨hg1, hg2⟩ := hgood rfl
            obtain ⟨p1, p2, ts, p3, p4, p5⟩ := hPok rfl
            have hPr := flow_proof p1 p3
            rw [← p4, ← p5] at hPr
            refine .o (.call Try.call81 rfl (bound_Value_spec hs (rw8.mono hle27) (ry.mono (hle6.trans hle7))) ?_); rintro _ w ⟨v20, j, rfl, hV2, hs⟩
            obtain ⟨rfl, rfl⟩ := hV2.uniq hVy
            refine .z zm (.z zex (.z zex (.z zg (.z zg (.nil (.seq (.regSeq (.z zm (.z zneq ?_)))))))))
            refine .z zm ?_
            refine .bifN (t' := 122) rfl (fun hb122 => ?_) (fun hb122 => ?_)
            · refine .gFs 2 2 false rfl rfl rfl ?_
              refine .z zpT (.z zm ?_)
              refine .gFs 2 6 false rfl rfl rfl ?_
              refine .z zpT (.z zm ?_)
              refine .gFs 3 10 false rfl rfl rfl ?_
              refine .z zpT (.z zm ?_)
              refine .gFs 3 15 false rfl rfl rfl ?_
              refine .z zpT (.z zm ?_)
              refine .gFs 4 20 false rfl rfl rfl ?_
              refine .z zpT (.nil ?_)
              refine (.condT rfl rfl ?_)
              refine .regSeq (.z zg (.nil ?_))
              refine .ret (rT (Fin.ret1 Try.results21 rfl ?_))
              first | exact ⟨rfl, H12, hleF, hs.out⟩ | contradiction | (exfalso; omega) | (exfalso; simp_all; done) | (exfalso; simp_all; omega)
            · refine .gT rfl rfl ?_
              refine .z zm ?_
              refine .gT rfl rfl ?_
              refine .z zneq (.z zpF (.z zm ?_))
              refine .bifN (t' := 126) rfl (fun hb126 => ?_) (fun hb126 => ?_)
              · refine .gFs 2 6 false rfl rfl rfl ?_
                refine .z zpT (.z zm ?_)
                refine .gFs 3 10 false rfl rfl rfl ?_
                refine .z zpT (.z zm ?_)
                refine .gFs 3 15 false rfl rfl rfl ?_
                refine .z zpT (.z zm ?_)
                refine .gFs 4 20 false rfl rfl rfl ?_
                refine .z zpT (.nil ?_)
                refine (.condT rfl rfl ?_)
                refine .regSeq (.z zg (.nil ?_))
                refine .ret (rT (Fin.ret1 Try.results21 rfl ?_))
                first | exact ⟨rfl, H12, hleF, hs.out⟩ | contradiction | (exfalso; omega) | (exfalso; simp_all; done) | (exfalso; simp_all; omega)
              · refine .gT rfl rfl ?_
                refine .z zm ?_
                refine .gT rfl rfl ?_
                refine .z zneq (.z zpF (.z zm ?_))
                refine .bifN (t' := 130) rfl (fun hb130 => ?_) (fun hb130 => ?_)
                · refine .gFs 3 10 false rfl rfl rfl ?_
                  refine .z zpT (.z zm ?_)
                  refine .gFs 3 15 false rfl rfl rfl ?_
                  refine .z zpT (.z zm ?_)
                  refine .gFs 4 20 false rfl rfl rfl ?_
                  refine .z zpT (.nil ?_)
                  refine (.condT rfl rfl ?_)
                  refine .regSeq (.z zg (.nil ?_))
                  refine .ret (rT (Fin.ret1 Try.results21 rfl ?_))
                  first | exact ⟨rfl, H12, hleF, hs.out⟩ | contradiction | (exfalso; omega) | (exfalso; simp_all; done) | (exfalso; simp_all; omega)
                · refine .gT rfl rfl ?_
                  refine .z zm ?_
                  refine .gT rfl rfl ?_
                  refine .z zm ?_
                  refine .gT rfl rfl ?_
                  refine .z zgtr (.z zpF (.z zm ?_))
                  refine .bifD (t' := 135) rfl (fun hb135 => ?_) (fun hb135 => ?_)
                  · refine .gFs 3 15 false rfl rfl rfl ?_
                    refine .z zpT (.z zm ?_)
                    refine .gFs 4 20 false rfl rfl rfl ?_
                    refine .z zpT (.nil ?_)
                    refine (.condT rfl rfl ?_)
                    refine .regSeq (.z zg (.nil ?_))
                    refine .ret (rT (Fin.ret1 Try.results21 rfl ?_))
                    first | exact ⟨rfl, H12, hleF, hs.out⟩ | contradiction | (exfalso; omega) | (exfalso; simp_all; done) | (exfalso; simp_all; omega)
                  · refine .gT rfl rfl ?_
                    refine .z zm ?_
                    refine .gT rfl rfl ?_
                    refine .z zm ?_
                    refine .gT rfl rfl ?_
                    refine .z zneq (.z zpF (.z zm ?_))
                    refine .bifN (t' := 140) rfl (fun hb140 => ?_) (fun hb140 => ?_)
                    · refine .gFs 4 20 false rfl rfl rfl ?_
                      refine .z zpT (.nil ?_)
                      refine (.condT rfl rfl ?_)
                      refine .regSeq (.z zg (.nil ?_))
                      refine .ret (rT (Fin.ret1 Try.results21 rfl ?_))
                      first | exact ⟨rfl, H12, hleF, hs.out⟩ | contradiction | (exfalso; omega) | (exfalso; simp_all; done) | (exfalso; simp_all; omega)
                    · refine .gT rfl rfl ?_
                      refine .y hs (zls [_, _] Try.isAgg32 Try.sizeOf32) ?_
                      refine .gT rfl rfl ?_
                      refine .z zm ?_
                      refine .gT rfl rfl ?_
                      refine .o (.call Try.call85 rfl (bound_CheckPoint_spec (s := s) hs ⟨_, rfl, hL2.mono hle27⟩ (ry.mono (hle6.trans hle7))) ?_); rintro _ w ⟨e143, rfl, hCP, hs⟩
                      obtain rfl := hCP.uniq (.ok hok ⟨hyl, hy0, fun v hv => by have := hyb v hv; omega, hyf⟩)
                      refine .gT rfl rfl ?_
                      refine .z zneq (.z zpF (.nil ?_))
                      refine (.condN rfl (fun hc145 => ?_) (fun hc145 => ?_))
                      · refine .regSeq (.z zg (.nil ?_))
                        refine .ret (rT (Fin.ret1 Try.results21 rfl ?_))
                        first | exact ⟨rfl, H12, hleF, hs.out⟩ | contradiction | (exfalso; omega) | (exfalso; simp_all; done) | (exfalso; simp_all; omega)
                      · refine .skip ?_
                        refine nT ?_
                        refine .regSeq (.y hs (zls [_, _] Try.isAgg32 Try.sizeOf32) (.z zm (.y hs (zls [_, _] Try.isAgg40 Try.sizeOf40) ?_)))
                        refine .o (.call Try.call91 rfl (bound_CheckProof_spec (s := s) (us := us) hs ⟨_, rfl, hL2.mono hle27⟩ (rw8.mono hle27) ⟨_, rfl, hU.mono hle7⟩) ?_); rintro _ w ⟨H8, e149, hle8, rfl, hP149, hs⟩
                        obtain rfl := hP149.uniq (.ok hmade hPr)
                        refine .z zeql (.z zm ?_)
                        refine .bifD (t' := 151) rfl (fun hb151 => ?_) (fun hb151 => ?_)
                        · refine .gT rfl rfl ?_
                          refine .z (zfa fa_api_Proof_0) ?_
                          refine .gT rfl rfl ?_
                          refine .y hs (zld Try.isAgg3) ?_
                          refine .gT rfl rfl ?_
                          refine .z zm ?_
                          refine .gT rfl rfl ?_
                          refine .z zeql (.z zpT (.z zm ?_))
                          refine .bifD (t' := 157) rfl (fun hb157 => ?_) (fun hb157 => ?_)
                          · refine .gT rfl rfl ?_
                            refine .z zm ?_
                            refine .gT rfl rfl ?_
                            refine .z znot ?_
                            refine .gT rfl rfl ?_
                            refine .z zm ?_
                            refine .bifN (t' := 160) rfl (fun hb160 => ?_) (fun hb160 => ?_)
                            · refine .gFs 4 14 false rfl rfl rfl ?_
                              refine .gT rfl rfl ?_
                              refine .z zpT (.z zpT (.z zm ?_))
                              refine .gT rfl rfl ?_
                              refine .o (.call Try.call54 rfl (law02_sane_spec hs) ?_); rintro _ w ⟨rfl, H12, hle12', hs⟩
                              have hleF := hle17.trans (hle8.trans hle12')
                              refine .z zpT (.z zg (.nil ?_))
                              refine .ret (Fin.ret1 Try.results21 rfl ?_)
                              first | exact ⟨rfl, H12, hleF, hs.out⟩ | contradiction | (exfalso; omega) | (exfalso; simp_all; done) | (exfalso; simp_all; omega)
                            · refine .gT rfl rfl ?_
                              refine .z (zfa fa_api_Proof_0) ?_
                              refine .gT rfl rfl ?_
                              refine .y hs (zld Try.isAgg3) ?_
                              refine .gT rfl rfl ?_
                              refine .z zm ?_
                              refine .gT rfl rfl ?_
                              refine .z zgeq ?_
                              refine .gT rfl rfl ?_
                              refine .z zpF (.z zpT (.z zm ?_))
                              refine .bifD (t' := 167) rfl (fun hb167 => ?_) (fun hb167 => ?_)
                              · refine .gT rfl rfl ?_
                                refine .o (.call Try.call54 rfl (law02_sane_spec hs) ?_); rintro _ w ⟨rfl, H12, hle12', hs⟩
                                have hleF := hle17.trans (hle8.trans hle12')
                                refine .z zpT (.z zg (.nil ?_))
                                refine .ret (Fin.ret1 Try.results21 rfl ?_)
                                first | exact ⟨rfl, H12, hleF, hs.out⟩ | contradiction | (exfalso; omega) | (exfalso; simp_all; done) | (exfalso; simp_all; omega)
                              · refine .gFs 1 21 true rfl rfl rfl ?_
                                refine .z zpF (.z zg (.nil ?_))
                                refine .ret (Fin.ret1 Try.results21 rfl ?_)
                                first | exact ⟨rfl, H12, hleF, hs.out⟩ | contradiction | (exfalso; omega) | (exfalso; simp_all; done) | (exfalso; simp_all; omega)
                          · refine .gFs 3 11 true rfl rfl rfl ?_
                            refine .gFs 4 14 false rfl rfl rfl ?_
                            refine .gFs 1 11 true rfl rfl rfl ?_
                            refine .z zpF (.z zm ?_)
                            refine .gFs 1 21 true rfl rfl rfl ?_
                            refine .z zpF (.z zg (.nil ?_))
                            refine .ret (Fin.ret1 Try.results21 rfl ?_)
                            first | exact ⟨rfl, H12, hleF, hs.out⟩ | contradiction | (exfalso; omega) | (exfalso; simp_all; done) | (exfalso; simp_all; omega)
                        · refine .gFs 4 5 true rfl rfl rfl ?_
                          refine .z zpF (.z zm ?_)
                          refine .gFs 3 11 true rfl rfl rfl ?_
                          refine .gFs 4 14 false rfl rfl rfl ?_
                          refine .gFs 1 11 true rfl rfl rfl ?_
                          refine .z zpF (.z zm ?_)
                          refine .gFs 1 21 true rfl rfl rfl ?_
                          refine .z zpF (.z zg (.nil ?_))
                          refine .ret (Fin.ret1 Try.results21 rfl ?_)
                          first | exact ⟨rfl, H12, hleF, hs.out⟩ | contradiction | (exfalso; omega) | (exfalso; simp_all; done) | (exfalso; simp_all; omega)
      · refine .gFs 4 4 true rfl rfl rfl ?_
        refine .gT rfl rfl ?_
        refine .z zpF (.z zpF (.nil ?_))
        refine (.condF rfl rfl ?_)
        refine .skip ?_
        refine nT ?_
        refine .seq (.regSeq (.z zm (.z zneq (.nil ?_))))
        refine (.condN rfl (fun hc94 => ?_) (fun hc94 => ?_))
        · refine .regSeq (.z zm (.z zeql (.z zm ?_)))
          refine .bifD (t' := 97) rfl (fun hb97 => ?_) (fun hb97 => ?_)
          · refine .gT rfl rfl ?_
            refine .z zm ?_
            refine .gT rfl rfl ?_
            refine .z zm ?_
            refine .gT rfl rfl ?_
            refine .z zeql (.z zpT (.z zm ?_))
            refine .bifD (t' := 102) rfl (fun hb102 => ?_) (fun hb102 => ?_)
            · refine .gT rfl rfl ?_
              refine .z zm ?_
              refine .gT rfl rfl ?_
              refine .z zm ?_
              refine .gT rfl rfl ?_
              refine .z zeql (.z zpT (.z zm ?_))
              refine .bifD (t' := 107) rfl (fun hb107 => ?_) (fun hb107 => ?_)
              · refine .gT rfl rfl ?_
                refine .z zm ?_
                refine .gT rfl rfl ?_
                refine .z znot (.z zpT (.z zm ?_))
                refine .bifN (t' := 111) rfl (fun hb111 => ?_) (fun hb111 => ?_)
                · refine .gT rfl rfl ?_
                  refine .o (.call Try.call54 rfl (law02_sane_spec hs) ?_); rintro _ w ⟨rfl, H12, hle12', hs⟩
                  have hleF := hle17.trans hle12'
                  refine .z zpT (.z zg (.nil ?_))
                  refine .ret (rT (Fin.ret1 Try.results21 rfl ?_))
                  first | exact ⟨rfl, H12, hleF, hs.out⟩ | contradiction | (exfalso; omega) | (exfalso; simp_all; done) | (exfalso; simp_all; omega)
                · refine .gFs 1 16 true rfl rfl rfl ?_
                  refine .z zpF (.z zg (.nil ?_))
                  refine .ret (rT (Fin.ret1 Try.results21 rfl ?_))
                  first | exact ⟨rfl, H12, hleF, hs.out⟩ | contradiction | (exfalso; omega) | (exfalso; simp_all; done) | (exfalso; simp_all; omega)
              · refine .gFs 2 12 true rfl rfl rfl ?_
                refine .z zpF (.z zm ?_)
                refine .gFs 1 16 true rfl rfl rfl ?_
                refine .z zpF (.z zg (.nil ?_))
                refine .ret (rT (Fin.ret1 Try.results21 rfl ?_))
                first | exact ⟨rfl, H12, hleF, hs.out⟩ | contradiction | (exfalso; omega) | (exfalso; simp_all; done) | (exfalso; simp_all; omega)
            · refine .gFs 3 7 true rfl rfl rfl ?_
              refine .z zpF (.z zm ?_)
              refine .gFs 2 12 true rfl rfl rfl ?_
              refine .z zpF (.z zm ?_)
              refine .gFs 1 16 true rfl rfl rfl ?_
              refine .z zpF (.z zg (.nil ?_))
              refine .ret (rT (Fin.ret1 Try.results21 rfl ?_))
              first | exact ⟨rfl, H12, hleF, hs.out⟩ | contradiction | (exfalso; omega) | (exfalso; simp_all; done) | (exfalso; simp_all; omega)
          · refine .gFs 3 2 true rfl rfl rfl ?_
            refine .z zpF (.z zm ?_)
            refine .gFs 3 7 true rfl rfl rfl ?_
            refine .z zpF (.z zm ?_)
            refine .gFs 2 12 true rfl rfl rfl ?_
            refine .z zpF (.z zm ?_)
            refine .gFs 1 16 true rfl rfl rfl ?_
            refine .z zpF (.z zg (.nil ?_))
            refine .ret (rT (Fin.ret1 Try.results21 rfl ?_))
            first | exact ⟨rfl, H12, hleF, hs.out⟩ | contradiction | (exfalso; omega) | (exfalso; simp_all; done) | (exfalso; simp_all; omega)
        · refine .skip ?_
          refine nT ?_
          refine .regSeq (.z zm (.z zm ?_))
          have hf0 : f = 0 := hc94
          subst hf0
          obtain ⟨hVy, _, hyl, hy0, hyb, hyf⟩ := (hB rfl).value hM
          obtain ⟨hg1, hg2⟩ := hgood rfl
          obtain ⟨p1, p2, ts, p3, p4, p5⟩ := hPok rfl
          have hPr := flow_proof p1 p3
          rw [← p4, ← p5] at hPr
          refine .o (.call Try.call81 rfl (bound_Value_spec hs (rw8.mono hle27) (ry.mono (hle6.trans hle7))) ?_); rintro _ w ⟨v20, j, rfl, hV2, hs⟩
          obtain ⟨rfl, rfl⟩ := hV2.uniq hVy
          refine .z zm (.z zex (.z zex (.z zg (.z zg (.nil (.seq (.regSeq (.z zm (.z zneq ?_)))))))))
          refine .z zm ?_
          refine .bifN (t' := 122) rfl (fun hb122 => ?_) (fun hb122 => ?_)
          · refine .gFs 2 2 false rfl rfl rfl ?_
            refine .z zpT (.z zm ?_)
            refine .gFs 2 6 false rfl rfl rfl ?_
            refine .z zpT (.z zm ?_)
            refine .gFs 3 10 false rfl rfl rfl ?_
            refine .z zpT (.z zm ?_)
            refine .gFs 3 15 false rfl rfl rfl ?_
            refine .z zpT (.z zm ?_)
            refine .gFs 4 20 false rfl rfl rfl ?_
            refine .z zpT (.nil ?_)
            refine (.condT rfl rfl ?_)
            refine .regSeq (.z zg (.nil ?_))
            refine .ret (rT (Fin.ret1 Try.results21 rfl ?_))
            first | exact ⟨rfl, H12, hleF, hs.out⟩ | contradiction | (exfalso; omega) | (exfalso; simp_all; done) | (exfalso; simp_all; omega)
          · refine .gT rfl rfl ?_
            refine .z zm ?_
            refine .gT rfl rfl ?_
            refine .z zneq (.z zpF (.z zm ?_))
            refine .bifN (t' := 126) rfl (fun hb126 => ?_) (fun hb126 => ?_)
            · refine .gFs 2 6 false rfl rfl rfl ?_
              refine .z zpT (.z zm ?_)
              refine .gFs 3 10 false rfl rfl rfl ?_
              refine .z zpT (.z zm ?_)
              refine .gFs 3 15 false rfl rfl rfl ?_
              refine .z zpT (.z zm ?_)
              refine .gFs 4 20 false rfl rfl rfl ?_
              refine .z zpT (.nil ?_)
              refine (.condT rfl rfl ?_)
              refine .regSeq (.z zg (.nil ?_))
              refine .ret (rT (Fin.ret1 Try.results21 rfl ?_))
              first | exact ⟨rfl, H12, hleF, hs.out⟩ | contradiction | (exfalso; omega) | (exfalso; simp_all; done) | (exfalso; simp_all; omega)
            · refine .gT rfl rfl ?_
              refine .z zm ?_
              refine .gT rfl rfl ?_
              refine .z zneq (.z zpF (.z zm ?_))
              refine .bifN (t' := 130) rfl (fun hb130 => ?_) (fun hb130 => ?_)
              · refine .gFs 3 10 false rfl rfl rfl ?_
                refine .z zpT (.z zm ?_)
                refine .gFs 3 15 false rfl rfl rfl ?_
                refine .z zpT (.z zm ?_)
                refine .gFs 4 20 false rfl rfl rfl ?_
                refine .z zpT (.nil ?_)
                refine (.condT rfl rfl ?_)
                refine .regSeq (.z zg (.nil ?_))
                refine .ret (rT (Fin.ret1 Try.results21 rfl ?_))
                first | exact ⟨rfl, H12, hleF, hs.out⟩ | contradiction | (exfalso; omega) | (exfalso; simp_all; done) | (exfalso; simp_all; omega)
              · refine .gT rfl rfl ?_
                refine .z zm ?_
                refine .gT rfl rfl ?_
                refine .z zm ?_
                refine .gT rfl rfl ?_
                refine .z zgtr (.z zpF (.z zm ?_))
                refine .bifD (t' := 135) rfl (fun hb135 => ?_) (fun hb135 => ?_)
                · refine .gFs 3 15 false rfl rfl rfl ?_
                  refine .z zpT (.z zm ?_)
                  refine .gFs 4 20 false rfl rfl rfl ?_
                  refine .z zpT (.nil ?_)
                  refine (.condT rfl rfl ?_)
                  refine .regSeq (.z zg (.nil ?_))
                  refine .ret (rT (Fin.ret1 Try.results21 rfl ?_))
                  first | exact ⟨rfl, H12, hleF, hs.out⟩ | contradiction | (exfalso; omega) | (exfalso; simp_all; done) | (exfalso; simp_all; omega)
                · refine .gT rfl rfl ?_
                  refine .z zm ?_
                  refine .gT rfl rfl ?_
                  refine .z zm ?_
                  refine .gT rfl rfl ?_
                  refine .z zneq (.z zpF (.z zm ?_))
                  refine .bifN (t' := 140) rfl (fun hb140 => ?_) (fun hb140 => ?_)
                  · refine .gFs 4 20 false rfl rfl rfl ?_
                    refine .z zpT (.nil ?_)
                    refine (.condT rfl rfl ?_)
                    refine .regSeq (.z zg (.nil ?_))
                    refine .ret (rT (Fin.ret1 Try.results21 rfl ?_))
                    first | exact ⟨rfl, H12, hleF, hs.out⟩ | contradiction | (exfalso; omega) | (exfalso; simp_all; done) | (exfalso; simp_all; omega)
                  · refine .gT rfl rfl ?_
                    refine .y hs (zls [_, _] Try.isAgg32 Try.sizeOf32) ?_
                    refine .gT rfl rfl ?_
                    refine .z zm ?_
                    refine .gT rfl rfl ?_
                    refine .o (.call Try.call85 rfl (bound_CheckPoint_spec (s := s) hs ⟨_, rfl, hL2.mono hle27⟩ (ry.mono (hle6.trans hle7))) ?_); rintro _ w ⟨e143, rfl, hCP, hs⟩
                    obtain rfl := hCP.uniq (.ok hok ⟨hyl, hy0, fun v hv => by have := hyb v hv; omega, hyf⟩)
                    refine .gT rfl rfl ?_
                    refine .z zneq (.z zpF (.nil ?_))
                    refine (.condN rfl (fun hc145 => ?_) (fun hc145 => ?_))
                    · refine .regSeq (.z zg (.nil ?_))
                      refine .ret (rT (Fin.ret1 Try.results21 rfl ?_))
                      first | exact ⟨rfl, H12, hleF, hs.out⟩ | contradiction | (exfalso; omega) | (exfalso; simp_all; done) | (exfalso; simp_all; omega)
                    · refine .skip ?_
                      refine nT ?_
                      refine .regSeq (.y hs (zls [_, _] Try.isAgg32 Try.sizeOf32) (.z zm (.y hs (zls [_, _] Try.isAgg40 Try.sizeOf40) ?_)))
                      refine .o (.call Try.call91 rfl (bound_CheckProof_spec (s := s) (us := us) hs ⟨_, rfl, hL2.mono hle27⟩ (rw8.mono hle27) ⟨_, rfl, hU.mono hle7⟩) ?_); rintro _ w ⟨H8, e149, hle8, rfl, hP149, hs⟩
                      obtain rfl := hP149.uniq (.ok hmade hPr)
                      refine .z zeql (.z zm ?_)
                      refine .bifD (t' := 151) rfl (fun hb151 => ?_) (fun hb151 => ?_)
                      · refine .gT rfl rfl ?_
                        refine .z (zfa fa_api_Proof_0) ?_
                        refine .gT rfl rfl ?_
                        refine .y hs (zld Try.isAgg3) ?_
                        refine .gT rfl rfl ?_
                        refine .z zm ?_
                        refine .gT rfl rfl ?_
                        refine .z zeql (.z zpT (.z zm ?_))
                        refine .bifD (t' := 157) rfl (fun hb157 => ?_) (fun hb157 => ?_)
                        · refine .gT rfl rfl ?_
                          refine .z zm ?_
                          refine .gT rfl rfl ?_
                          refine .z znot ?_
                          refine .gT rfl rfl ?_
                          refine .z zm ?_
                          refine .bifN (t' := 160) rfl (fun hb160 => ?_) (fun hb160 => ?_)
                          · refine .gFs 4 14 false rfl rfl rfl ?_
                            refine .gT rfl rfl ?_
                            refine .z zpT (.z zpT (.z zm ?_))
                            refine .gT rfl rfl ?_
                            refine .o (.call Try.call54 rfl (law02_sane_spec hs) ?_); rintro _ w ⟨rfl, H12, hle12', hs⟩
                            have hleF := hle17.trans (hle8.trans hle12')
                            refine .z zpT (.z zg (.nil ?_))
                            refine .ret (Fin.ret1 Try.results21 rfl ?_)
                            first | exact ⟨rfl, H12, hleF, hs.out⟩ | contradiction | (exfalso; omega) | (exfalso; simp_all; done) | (exfalso; simp_all; omega)
                          · refine .gT rfl rfl ?_
                            refine .z (zfa fa_api_Proof_0) ?_
                            refine .gT rfl rfl ?_
                            refine .y hs (zld Try.isAgg3) ?_
                            refine .gT rfl rfl ?_
                            refine .z zm ?_
                            refine .gT rfl rfl ?_
                            refine .z zgeq ?_
                            refine .gT rfl rfl ?_
                            refine .z zpF (.z zpT (.z zm ?_))
                            refine .bifD (t' := 167) rfl (fun hb167 => ?_) (fun hb167 => ?_)
                            · refine .gT rfl rfl ?_
                              refine .o (.call Try.call54 rfl (law02_sane_spec hs) ?_); rintro _ w ⟨rfl, H12, hle12', hs⟩
                              have hleF := hle17.trans (hle8.trans hle12')
                              refine .z zpT (.z zg (.nil ?_))
                              refine .ret (Fin.ret1 Try.results21 rfl ?_)
                              first | exact ⟨rfl, H12, hleF, hs.out⟩ | contradiction | (exfalso; omega) | (exfalso; simp_all; done) | (exfalso; simp_all; omega)
                            · refine .gFs 1 21 true rfl rfl rfl ?_
                              refine .z zpF (.z zg (.nil ?_))
                              refine .ret (Fin.ret1 Try.results21 rfl ?_)
                              first | exact ⟨rfl, H12, hleF, hs.out⟩ | contradiction | (exfalso; omega) | (exfalso; simp_all; done) | (exfalso; simp_all; omega)
                        · refine .gFs 3 11 true rfl rfl rfl ?_
                          refine .gFs 4 14 false rfl rfl rfl ?_
                          refine .gFs 1 11 true rfl rfl rfl ?_
                          refine .z zpF (.z zm ?_)
                          refine .gFs 1 21 true rfl rfl rfl ?_
                          refine .z zpF (.z zg (.nil ?_))
                          refine .ret (Fin.ret1 Try.results21 rfl ?_)
                          first | exact ⟨rfl, H12, hleF, hs.out⟩ | contradiction | (exfalso; omega) | (exfalso; simp_all; done) | (exfalso; simp_all; omega)
                      · refine .gFs 4 5 true rfl rfl rfl ?_
                        refine .z zpF (.z zm ?_)
                        refine .gFs 3 11 true rfl rfl rfl ?_
                        refine .gFs 4 14 false rfl rfl rfl ?_
                        refine .gFs 1 11 true rfl rfl rfl ?_
                        refine .z zpF (.z zm ?_)
                        refine .gFs 1 21 true rfl rfl rfl ?_
                        refine .z zpF (.z zg (.nil ?_))
                        refine .ret (Fin.ret1 Try.results21 rfl ?_)
                        first | exact ⟨rfl, H12, hleF, hs.out⟩ | contradiction | (exfalso; omega) | (exfalso; simp_all; done) | (exfalso; simp_all; omega)
end Go.Proofs.Ytiiokdeehlfeeaa
