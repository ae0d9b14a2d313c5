/-
  ProbePicks holds for every input: CheckPick agrees with the reference for each question, the first five probes and each pick; Fewest fails with the reference's error, or returns a pick that the reference calls good and CheckPick accepts; the statement's function returns true and never panics.
-/
import Derived.Test.YtiiokdeehlfeeaaGreatUe
import Derived.Test.YtiiokdeehlfeeaaGreatRows
import Derived.OpenShut
import Derived.ProofKit
import Derived.ShutString
import Derived.ChangeOld
namespace Go.Proofs.YtiiokdeehlfeeaaGreat
open Go.MW Go.ChangeShapes Go.WideShapes Go.ChangeAt Go.RowKit
theorem RPick.mono {H H' : Heap} {v : Value} {p : Pck} (h : RPick H v p) (hle : HLe H H') : RPick H' v p := by
  obtain ⟨vp, vu, vf, css, e, h1, h2, h3, h4, h5⟩ := h
  exact ⟨vp, vu, vf, css, e, h1.mono hle, RU.mono h2 hle, RS.mono h3 hle, h4, fun j c t g1 g2 => (h5 j c t g1 g2).mono hle⟩
theorem few_agree {a : Quest} {l : List Prb} {p1 : Pck} {e1 e2 i2 n2 : Int} (hF1 : (CPrbR a l e1 ∧ e1 ≠ 0 ∧ p1 = .none) ∨ (CPrbR a l 0 ∧ FewP a l p1 e1)) (hF2 : FewR a l i2 n2 e2) :
    e2 = e1 ∧ ((e1 ≠ 0 ∧ p1 = .none) ∨ (e1 = 0 ∧ CPrbR a l 0 ∧ FewP a l p1 0)) := by
  rcases hF1 with ⟨h1, h2, h3⟩ | ⟨h1, h2⟩
  · rcases hF2 with ⟨g1, g2, _⟩ | ⟨g1, _⟩ | ⟨g1, _⟩
    · exact ⟨g1.uniq h1, .inl ⟨h2, h3⟩⟩
    · exact (h2 (h1.uniq g1)).elim
    · exact (h2 (h1.uniq g1)).elim
  · rcases hF2 with ⟨g1, g2, _⟩ | ⟨_, g2, _, _, g5⟩ | ⟨_, g2, k, c, g3, g4, g5, g6, g7⟩
    · exact (g2 (g1.uniq h1)).elim
    · rcases h2 with ⟨q1, q2, q3⟩ | ⟨q1, k, q2, q3, q4, q5, _⟩
      · exact ⟨by omega, .inl ⟨by omega, q2⟩⟩
      · have := g5 _ (List.mem_of_getElem? q2) _ q3.1; omega
    · rcases h2 with ⟨q1, q2, q3⟩ | ⟨q1, h2⟩
      · have := q3 _ (List.mem_of_getElem? g4) _ g5; omega
      · exact ⟨by omega, .inr ⟨q1, h1, .inr ⟨rfl, h2⟩⟩⟩
theorem few_sure {a : Quest} {l : List Prb} {p1 : Pck} {e1 : Int} (h : (e1 ≠ 0 ∧ p1 = .none) ∨ (e1 = 0 ∧ CPrbR a l 0 ∧ FewP a l p1 0)) (he : e1 = 0) : CPrbR a l 0 ∧ FewP a l p1 0 := by
  rcases h with ⟨h1, _⟩ | ⟨_, h⟩
  · exact (h1 he).elim
  · exact h
theorem few_good {a : Quest} {l : List Prb} {p : Pck} (hC : CPrbR a l 0) (hF : FewP a l p 0) : PickR a l p 0 := by
  obtain ⟨hok, hlen, hin0⟩ := hC.zero
  rcases hF with ⟨h, _⟩ | ⟨_, k, h1, h2, h3, h4, h5, h6⟩
  · omega
  · exact .inr ⟨hC, .inl ⟨rfl, k, FewP.good hok hin0 h1 h2 h3 h4 h5 h6⟩⟩
theorem few_fail {a : Quest} {l : List Prb} {p1 : Pck} {e1 : Int} (h : (e1 ≠ 0 ∧ p1 = .none) ∨ (e1 = 0 ∧ CPrbR a l 0 ∧ FewP a l p1 0)) (he : e1 ≠ 0) : p1.probes.length = 0 ∧ p1.fails.length = 0 ∧ p1.width = 0 := by
  rcases h with ⟨_, h⟩ | ⟨h1, _⟩
  · subst h; exact ⟨rfl, rfl, rfl⟩
  · exact (he h1).elim
set_option maxHeartbeats 4000000 in
theorem law_ProbePicks_walk {H : Heap} {w : World} {σ : List Ent} {v vl vk : Value} {a : Quest} {l0 : List Prb} {p : Pck} (hs : St H w σ) (hr : RAsk H v a) (hp0 : RPs H vl l0) (hk : RPick H vk p) :
    Cl Tryz.prog 6 [v, vl, vk] w fun v w' => v = .bool true ∧ ∃ H', HLe H H' ∧ St H' w' σ := by
  obtain ⟨ul, uw, rfl, hl, hw⟩ := hr
  obtain ⟨al, cpl, rfl⟩ := RPs.shape hp0
  obtain ⟨vp, vu, vf, css, rfl, hkp, hku, hkf, hkl, hkt⟩ := hk
  obtain ⟨akp, ckp, rfl⟩ := RI.shape hkp
  obtain ⟨aku, cku, rfl⟩ := RU.shape hku
  obtain ⟨akf, ckf, rfl⟩ := RS.shape hkf
  refine Cl.of Tryz.func6 rfl Tryz.ntmps6 (by simp) (args_cons (k := 0) rfl (args_cons (k := 1) rfl (args_cons (k := 2) rfl (args0)))) ?_
  refine .regSeq ?_
  refine .o (.box hs rfl rfl ?_); intro b3 w hs
  refine .o (.box hs rfl rfl ?_); intro b5 w hs
  refine .z zg (.nil (.regSeq (.z zm (.z zm (.z (zlen Tryz.runUnderlying28) (.z zmin ?_))))))
  obtain ⟨l, hl0⟩ : ∃ l, l = l0.take (min l0.length 5) := ⟨_, rfl⟩
  have hln : min l0.length 5 = l.length := by rw [hl0, List.length_take]; omega
  have hcap := (RPs.len hp0).2.1
  refine .q hs (q_sliceHX (k := l.length) rfl rfl Tryz.runUnderlying28 Tryz.sizeOf54 (by push_cast; omega) (by omega)) ?_
  have hp : RPs H (.slice al l.length cpl) l := by
    have := RS.head (k := min l0.length 5) hp0 (by omega)
    rw [← List.map_take, ← hl0, hln] at this
    exact this
  refine .z zg (.nil (.regSeq (.y hs (zls [_, _, _, _] Tryz.isAgg27 Tryz.sizeOf27) (.z zm ?_))))
  refine .o (.call Tryz.call30 rfl (probe_Fewest_spec (a := a) hs ⟨_, _, rfl, hl, hw⟩ hp) ?_); rintro _ w ⟨H1, vk1, p1, e1, hle1, rfl, hk1, hF1, hs⟩
  have hk1' := hk1
  obtain ⟨vp1, vu1, vf1, css1, rfl, hkp1, hku1, hkf1, hkl1, hkt1⟩ := hk1
  obtain ⟨akp1, ckp1, rfl⟩ := RI.shape hkp1
  obtain ⟨aku1, cku1, rfl⟩ := RU.shape hku1
  obtain ⟨akf1, ckf1, rfl⟩ := RS.shape hkf1
  refine .z zm (.z zex (.z zex ?_))
  refine .o (.alloc hs Tryz.zeroValue66 rfl ?_); intro b7 w hs
  refine .o (.stores (vs := [_, _, _, _, _]) hs rfl rfl Tryz.sizeOf66 ?_); intro w hs
  refine .z zg (.nil (.regSeq (.y hs (zls [_, _, _, _] Tryz.isAgg27 Tryz.sizeOf27) (.z zm ?_))))
  refine .o (.call Tryz.call31 rfl (ref09_Fewest_spec (a := a) hs ⟨_, _, rfl, hl.mono hle1, hw.mono hle1⟩ (hp.mono hle1)) ?_); rintro _ w ⟨H2, i2, n2, e2, hle2, rfl, hF2, hs⟩
  have hle12 := hle1.trans hle2
  obtain ⟨rfl, hcase⟩ : e2 = e1 ∧ ((e1 ≠ 0 ∧ p1 = .none) ∨ (e1 = 0 ∧ CPrbR a l 0 ∧ FewP a l p1 0)) := few_agree hF1 hF2
  refine .z zm (.z zex (.z zex (.z zex (.z zg (.z zg (.z zg (.nil (.seq ?_))))))))
  refine .seq (.draw mix rfl hs ?_); intro w hs
  refine .z 0 rfl zm ?_; refine .z 1 rfl zm ?_; refine .z 2 rfl zneq ?_; refine .z 3 rfl zm ?_
  refine .bifN (t' := 33) rfl (fun hb33 => ?_) (fun hb33 => ?_)
  · refine .qF (i := 4) rfl (by kernel_rfl) rfl rfl ?_
    refine .qF (i := 5) rfl (by kernel_rfl) rfl rfl ?_
    refine .qF (i := 6) rfl (by kernel_rfl) rfl rfl ?_
    refine .qF (i := 7) rfl (by kernel_rfl) rfl rfl ?_
    refine .qF (i := 8) rfl (by kernel_rfl) rfl rfl ?_
    refine .qF (i := 9) rfl (by kernel_rfl) rfl rfl ?_
    refine .qF (i := 10) rfl (by kernel_rfl) rfl rfl ?_
    refine .qF (i := 11) rfl (by kernel_rfl) rfl rfl ?_
    refine .qF (i := 12) rfl (by kernel_rfl) rfl rfl ?_
    refine .z 13 rfl zpT ?_; refine .done (by kernel_rfl) hs ?_
    refine (.condT rfl rfl ?_)
    refine .regSeq (.z zg (.nil ?_))
    refine .ret (rT (Fin.ret1 Tryz.results6 rfl ?_))
    first
      | exact ⟨rfl, H9, hle19, hs.out⟩
      | (exfalso; first | omega | (simp at hb33; done) | (simp at hc43; done) | (simp_all; done))
  · refine .ys 4 rfl hs [_, _, _, _] Tryz.isAgg27 Tryz.sizeOf27 ?_; refine .z 5 rfl zm ?_; refine .ys 6 rfl hs [_, _, _, _, _] Tryz.isAgg66 Tryz.sizeOf66 ?_; refine .ys 8 rfl hs [_, _, _, _] Tryz.isAgg27 Tryz.sizeOf27 ?_; refine .z 9 rfl zm ?_; refine .ys 10 rfl hs [_, _, _, _, _] Tryz.isAgg66 Tryz.sizeOf66 ?_
    refine .e1 (i := 7) (by kernel_rfl) rfl rfl (.some rfl rfl) hs ?_
    refine .call Tryz.call32 rfl (probe_CheckPick_spec (a := a) (l := l) (p := p) hs ⟨_, _, rfl, hl.mono hle12, hw.mono hle12⟩ (hp.mono hle12) ⟨_, _, _, css, rfl, hkp.mono hle12, RU.mono hku hle12, RS.mono hkf hle12, hkl, fun j c t g1 g2 => (hkt j c t g1 g2).mono hle12⟩) ?_; rintro _ w ⟨H3, e3, hle3, rfl, hP3, hs⟩
    have hle13 := hle12.trans hle3
    refine .go ?_
    refine .e1 (i := 11) (by kernel_rfl) rfl rfl (.some rfl rfl) hs ?_
    refine .call Tryz.call33 rfl (ref09_CheckPick_spec (a := a) (l := l) (p := p) hs ⟨_, _, rfl, hl.mono hle13, hw.mono hle13⟩ (hp.mono hle13) ⟨_, _, _, css, rfl, hkp.mono hle13, RU.mono hku hle13, RS.mono hkf hle13, hkl, fun j c t g1 g2 => (hkt j c t g1 g2).mono hle13⟩) ?_; rintro _ w ⟨H4, e4, hle4, rfl, hP4, hs⟩
    obtain rfl : e4 = e3 := hP4.uniq hP3
    have hle14 := hle13.trans hle4
    refine .go ?_
    refine .z 12 rfl zneq ?_; refine .z 13 rfl zpF ?_; refine .done (by kernel_rfl) hs ?_
    refine (.condN rfl (fun hc43 => ?_) (fun hc43 => ?_))
    · refine .regSeq (.z zg (.nil ?_))
      refine .ret (rT (Fin.ret1 Tryz.results6 rfl ?_))
      first
        | exact ⟨rfl, H9, hle19, hs.out⟩
        | (exfalso; first | omega | (simp at hb33; done) | (simp at hc43; done) | (simp_all; done))
    · refine .skip ?_
      refine nT ?_
      refine .seq (.regSeq (.z zm (.z zneq (.nil ?_))))
      refine (.condN rfl (fun hc45 => ?_) (fun hc45 => ?_))
      · refine .regSeq (.z (zfa fa_api_Pick_0) (.y hs (zld Tryz.isAgg25) (.z (zlen Tryz.runUnderlying25) (.z zeql (.z zm ?_)))))
        refine .bifD (t' := 50) rfl (fun hb50 => ?_) (fun hb50 => ?_)
        · refine .gT rfl rfl ?_
          refine .z (zfa fa_api_Pick_3) ?_
          refine .gT rfl rfl ?_
          refine .y hs (zld Tryz.isAgg64) ?_
          refine .gT rfl rfl ?_
          refine .z (zlen Tryz.runUnderlying64) ?_
          refine .gT rfl rfl ?_
          refine .z zeql (.z zpT (.z zm ?_))
          refine .bifD (t' := 56) rfl (fun hb56 => ?_) (fun hb56 => ?_)
          · refine .gT rfl rfl ?_
            refine .z (zfa fa_api_Pick_1) ?_
            refine .gT rfl rfl ?_
            refine .y hs (zld Tryz.isAgg3) ?_
            refine .gT rfl rfl ?_
            refine .z zeql (.z zpT (.z zm ?_))
            refine .bifD (t' := 61) rfl (fun hb61 => ?_) (fun hb61 => ?_)
            · refine .gT rfl rfl ?_
              obtain ⟨z1, z2, z3⟩ := few_fail hcase (by simpa using hc45)
              refine .o (.call Tryz.call15 rfl (law09_sane_spec hs) ?_); rintro _ w ⟨rfl, H9, hle9, hs⟩
              have hle19 := hle14.trans hle9
              refine .z zpT (.z zg (.nil ?_))
              refine .ret (rT (Fin.ret1 Tryz.results6 rfl ?_))
              first
                | exact ⟨rfl, H9, hle19, hs.out⟩
                | (exfalso; first | omega | (simp at hb33; done) | (simp at hc43; done) | (simp_all; done))
            · refine .gFs 1 15 true rfl rfl rfl ?_
              refine .z zpF (.z zg (.nil ?_))
              refine .ret (rT (Fin.ret1 Tryz.results6 rfl ?_))
              exfalso
              obtain ⟨z1, z2, z3⟩ := few_fail hcase (by simpa using hc45)
              first | omega | (simp_all; done)
          · refine .gFs 3 10 true rfl rfl rfl ?_
            refine .z zpF (.z zm ?_)
            refine .gFs 1 15 true rfl rfl rfl ?_
            refine .z zpF (.z zg (.nil ?_))
            refine .ret (rT (Fin.ret1 Tryz.results6 rfl ?_))
            exfalso
            obtain ⟨z1, z2, z3⟩ := few_fail hcase (by simpa using hc45)
            first | omega | (simp_all; done)
        · refine .gFs 4 4 true rfl rfl rfl ?_
          refine .z zpF (.z zm ?_)
          refine .gFs 3 10 true rfl rfl rfl ?_
          refine .z zpF (.z zm ?_)
          refine .gFs 1 15 true rfl rfl rfl ?_
          refine .z zpF (.z zg (.nil ?_))
          refine .ret (rT (Fin.ret1 Tryz.results6 rfl ?_))
          exfalso
          obtain ⟨z1, z2, z3⟩ := few_fail hcase (by simpa using hc45)
          first | omega | (simp_all; done)
      · refine .skip ?_
        refine nT ?_
        refine .regSeq (.y hs (zls [_, _, _, _] Tryz.isAgg27 Tryz.sizeOf27) (.z zm (.y hs (zls [_, _, _, _, _] Tryz.isAgg66 Tryz.sizeOf66) ?_)))
        obtain ⟨hC0, hFP⟩ := few_sure hcase (by simpa using hc45)
        refine .o (.call Tryz.call34 rfl (ref09_Good_spec (a := a) (l := l) (p := p1) hs ⟨_, _, rfl, hl.mono hle14, hw.mono hle14⟩ (hp.mono hle14) (hk1'.mono ((hle2.trans hle3).trans hle4)) hC0 hFP) ?_); rintro _ w ⟨H5, hle5, rfl, hs⟩
        have hle15 := hle14.trans hle5
        refine .z zm ?_
        refine .bif (t' := 68) rfl (fun hb68 => ?_) (fun hb68 => ?_)
        · refine .gT rfl rfl ?_
          refine .y hs (zls [_, _, _, _] Tryz.isAgg27 Tryz.sizeOf27) ?_
          refine .gT rfl rfl ?_
          refine .z zm ?_
          refine .gT rfl rfl ?_
          refine .y hs (zls [_, _, _, _, _] Tryz.isAgg66 Tryz.sizeOf66) ?_
          refine .gT rfl rfl ?_
          refine .o (.call Tryz.call32 rfl (probe_CheckPick_spec (a := a) (l := l) (p := p1) hs ⟨_, _, rfl, hl.mono hle15, hw.mono hle15⟩ (hp.mono hle15) (hk1'.mono (((hle2.trans hle3).trans hle4).trans hle5))) ?_); rintro _ w ⟨H6, e6, hle6, rfl, hP6, hs⟩
          obtain rfl : e6 = 0 := hP6.uniq (few_good hC0 hFP)
          have hle16 := hle15.trans hle6
          refine .gT rfl rfl ?_
          refine .z zeql (.z zpT (.z zm ?_))
          refine .bifD (t' := 75) rfl (fun hb75 => ?_) (fun hb75 => ?_)
          · refine .gT rfl rfl ?_
            refine .o (.call Tryz.call15 rfl (law09_sane_spec hs) ?_); rintro _ w ⟨rfl, H9, hle9, hs⟩
            have hle19 := hle16.trans hle9
            refine .z zpT (.z zg (.nil ?_))
            refine .ret (Fin.ret1 Tryz.results6 rfl ?_)
            first
              | exact ⟨rfl, H9, hle19, hs.out⟩
              | (exfalso; first | omega | (simp at hb33; done) | (simp at hc43; done) | (simp_all; done))
          · refine .gFs 1 11 true rfl rfl rfl ?_
            refine .z zpF (.z zg (.nil ?_))
            refine .ret (Fin.ret1 Tryz.results6 rfl ?_)
            exfalso
            first | (simp at hb75; done) | (exact absurd rfl hb75) | omega
        · refine .gFs 5 4 true rfl rfl rfl ?_
          refine .z zpF (.z zm ?_)
          refine .gFs 1 11 true rfl rfl rfl ?_
          refine .z zpF (.z zg (.nil ?_))
          refine .ret (Fin.ret1 Tryz.results6 rfl ?_)
          exfalso
          first | (simp at hb68; done) | (exact absurd rfl hb68) | omega
theorem law_ProbePicks {W : World} {v0 v1 v2 : Value} {a0 : Quest} {a1 : List Prb} {a2 : Pck} (w0 : RAsk (hp W) v0 a0) (_ : a0.In) (w1 : RPs (hp W) v1 a1) (_ : PrbsIn a1) (w2 : RPick (hp W) v2 a2) (_ : I64 a2.width) :
    Cl Tryz.prog 6 [v0, v1, v2] W fun v w' => v = .bool true ∧ ∃ H', HLe (hp W) H' ∧ St H' w' [] :=
  law_ProbePicks_walk (St.start W) w0 w1 w2
set_option maxRecDepth 100000 in
theorem lifted_ProbePicks (os : Os) (started : os.Started) (H : Type) (enc : TypeId × Value → H) :
    ReturnsInHanded {} Tryz.checked os 6 .any (Rows.probePicksSpec.pre6 enc Tryz.prog Tryz.f6 Rows.probePicksRow.domain false) (Rows.probePicksSpec.post enc Tryz.prog Tryz.f6 false true false false) := by
  refine returnsInHanded_of_change_sized (C := Tryz.checked) cl_own started (by kernel_rfl) Tryz.func6
    (ChangeSpec.witness6 (enc := enc) (C := Tryz.checked) false ⟨#[], #[.agg #[.int .i64 0, .slice none 0 0, .slice none 0 0, .int .i64 0], .slice none 0 0, .agg #[.slice none 0 0, .int .i64 0, .int .i64 0, .slice none 0 0, .slice none 0 0]], []⟩ 8 (by kernel_rfl) (by kernel_rfl) (by kernel_rfl) (by kernel_rfl)) ?_
  intro W base args ds gs before hval0 hW hcnd hsz _
  have hval : ∀ (j : Nat) t v, Tryz.f6.params[j]? = some t → args[j]? = some v → Value.okWide Tryz.prog W .any base t v := hval0
  have hW' := hW
  obtain ⟨p, q, hA0, hV, rfl, hfz, hnd⟩ := hW
  have hA : DataW.TrodAll enc Tryz.prog W 0 (fun _ => true) true Tryz.f6.params.toList args.toList ds p := hA0
  have hAk := hA
  rw [Tryz.params6] at hA hval
  obtain ⟨v0, vs0, d0, ds0, p0, q0, hargs, rfl, rfl, h0, r0⟩ := trodAll_cons hA
  obtain ⟨v1, vs1, d1, ds1, p1, q1, rfl, rfl, rfl, h1, r1⟩ := trodAll_cons r0
  obtain ⟨v2, vs2, d2, ds2, p2, q2, rfl, rfl, rfl, h2, r2⟩ := trodAll_cons r1
  obtain ⟨rfl, rfl, rfl⟩ := trodAll_nil r2
  obtain rfl : args = #[v0, v1, v2] := by cases args; simp_all
  obtain ⟨rfl, rfl⟩ := trodVars_none hV
  have k0 : Wt Tryz.prog 27 d0 := fun n hn => (by have := List.all_eq_true.1 hsz n (DataW.weights_mem_each (j := 0) rfl rfl n hn); simpa using this)
  obtain ⟨a0, w0, u0⟩ := open_Ask (hval 0 27 v0 rfl rfl) h0 k0
  have k1 : Wt Tryz.prog 28 d1 := fun n hn => (by have := List.all_eq_true.1 hsz n (DataW.weights_mem_each (j := 1) rfl rfl n hn); simpa using this)
  obtain ⟨a1, w1, u1⟩ := open_probes (hval 1 28 v1 rfl rfl) h1 k1
  have k2 : Wt Tryz.prog 66 d2 := fun n hn => (by have := List.all_eq_true.1 hsz n (DataW.weights_mem_each (j := 2) rfl rfl n hn); simpa using this)
  obtain ⟨a2, w2, u2⟩ := open_Pick (hval 2 66 v2 rfl rfl) h2 k2
  refine Calls.mono (law_ProbePicks w0 u0 w1 u1 w2 u2) fun e W' ⟨v, he, hv, H', hle, hs⟩ => ?_
  subst he; subst hv
  have kp := St.kept hle hs
  exact ⟨_, rfl, _, _, _, [], _, [], hW', trodAll_mk1 (shut_bool Tryz.underlying4 _), Kept.trodAll cl_laid kp (by rw [Tryz.params6]; intro t ht; simp only [List.mem_cons, List.not_mem_nil, or_false] at ht; rcases ht with rfl | rfl | rfl <;> exact ⟨by kernel_rfl, of_decide_eq_true (by kernel_rfl)⟩) hAk, rfl, kp.frame _, fun h => by cases h⟩
theorem closed_ProbePicks : joinedFacts Tryz.prog 6 Tryz.f6 Rows.probePicksSpec Rows.probePicksRow = true := by
  unfold joinedFacts
  exact (band (band (band (band (band (band (band (band (band (band (band (band (band (band (band (band (band (band (band (band (band (band (band (band (band (band (band (band (band (band (band (by kernel_rfl) cl_laid) cl_maps) (by kernel_rfl)) (by kernel_rfl)) (by kernel_rfl)) (beqT cl_stops)) (by kernel_rfl)) (beqT cl_knobs)) (by kernel_rfl)) (by kernel_rfl)) (by kernel_rfl)) (by kernel_rfl)) (by kernel_rfl)) (by kernel_rfl)) (by kernel_rfl)) (by kernel_rfl)) (by kernel_rfl)) (by kernel_rfl)) (by kernel_rfl)) (by kernel_rfl)) (by kernel_rfl)) (beqT cl_keys.symm)) (by kernel_rfl)) cl_heard) cl_enter) (beqT cl_lifts.symm)) (beqT cl_make)) (by kernel_rfl)) (by kernel_rfl)) (by kernel_rfl)) (by kernel_rfl))
theorem proved_ProbePicks : Rows.ProbePicksSaid :=
  OpenClaim.holds_of_wide 6 Tryz.f6 rfl rfl rfl rfl rfl rfl rfl ⟨rfl, rfl, rfl, rfl, rfl⟩ rfl rfl rfl rfl rfl (by kernel_rfl) Tryz.func6 closed_ProbePicks
    (of_decide_eq_true (by kernel_rfl)) (by unfold Func.isWrapper; first | (rw [if_pos (by decide +kernel)]; kernel_rfl) | (rw [if_neg (by decide +kernel)]; exact ⟨rfl, rfl⟩))
    (fun os started H enc _ => lifted_ProbePicks os started H enc)
end Go.Proofs.YtiiokdeehlfeeaaGreat
