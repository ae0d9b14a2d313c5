/-
  ProbeChoices holds for every input: Choices and Best agree with the reference, for all numbers, questions and probes; the statement's function returns true and never panics.
-/
import Derived.Test.YtiiokdeehlfeeaaGreatSf
import Derived.Test.YtiiokdeehlfeeaaGreatRows
import Derived.OpenShut
import Derived.ProofKit
import Derived.ShutString
import Derived.ChangeOld
namespace Go.Proofs.YtiiokdeehlfeeaaGreat
open Go.MW Go.ChangeShapes Go.WideShapes Go.ChangeAt Go.RowKit
theorem law_ProbeChoices_walk {H : Heap} {w : World} {σ : List Ent} {v vl : Value} {a : Quest} {l : List Prb} {n : Int} (hs : St H w σ) (hr : RAsk H v a) (hp : RPs H vl l) :
    Cl Tryz.prog 3 [I n, v, vl] w fun v w' => v = .bool true ∧ ∃ H', HLe H H' ∧ St H' w' σ := by
  obtain ⟨ul, uw, rfl, hl, hw⟩ := hr
  refine Cl.of Tryz.func3 rfl Tryz.ntmps3 (by simp) (args_cons (k := 0) rfl (args_cons (k := 1) rfl (args_cons (k := 2) rfl (args0)))) ?_
  refine .regSeq ?_
  refine .o (.box hs rfl rfl ?_); intro b4 w hs
  refine .z zg (.nil (.regSeq (.z zm ?_)))
  refine .o (.call Tryz.call10 rfl (probe_Choices_spec hs) ?_); rintro _ w ⟨H1, v1, rs1, e1, hle1, rfl, hR1, hc1, hs⟩
  obtain ⟨a1, c1, rfl⟩ := hR1.shape
  refine .z zm (.z zex (.z zex (.z zg (.z zg (.nil (.regSeq (.z zm ?_)))))))
  refine .o (.call Tryz.call11 rfl (ref09_Choices_spec hs) ?_); rintro _ w ⟨H2, v2, rs2, e2, hle2, rfl, hR2, hc2, hs⟩
  obtain ⟨a2, c2, rfl⟩ := hR2.shape
  obtain ⟨rfl, rfl⟩ : rs2 = rs1 ∧ e2 = e1 := by
    rcases hc1 with ⟨h1, h2, h3⟩ | ⟨h1, h2, h3⟩
    · rcases hc2 with ⟨g1, g2, g3⟩ | ⟨g1, g2, g3⟩
      · exact ⟨by rw [h3, g3], by omega⟩
      · exact (h1 g1).elim
    · rcases hc2 with ⟨g1, g2, g3⟩ | ⟨g1, g2, g3⟩
      · exact (g1 h1).elim
      · exact ⟨by rw [h3, g3], by omega⟩
  have hl2 := hle1.trans hle2
  refine .z zm (.z zex (.z zex (.z zg (.z zg (.nil (.regSeq (.y hs (zls [_, _, _, _] Tryz.isAgg27 Tryz.sizeOf27) (.z zm ?_))))))))
  refine .o (.call Tryz.call12 rfl (probe_Best_spec (a := a) hs ⟨_, _, rfl, hl.mono hl2, hw.mono hl2⟩ (hp.mono hl2)) ?_); rintro _ w ⟨H3, x3, e3, hle3, rfl, hc3, hs⟩
  have hl3 := hl2.trans hle3
  refine .z zm (.z zex (.z zex (.z zg (.z zg (.nil (.regSeq (.y hs (zls [_, _, _, _] Tryz.isAgg27 Tryz.sizeOf27) (.z zm ?_))))))))
  refine .o (.call Tryz.call13 rfl (ref09_Best_spec (a := a) hs ⟨_, _, rfl, hl.mono hl3, hw.mono hl3⟩ (hp.mono hl3)) ?_); rintro _ w ⟨H4, x4, e4, hle4, rfl, hc4, hs⟩
  obtain ⟨rfl, rfl⟩ : x4 = x3 ∧ e4 = e3 := by
    rcases hc3 with ⟨h1, h2, h3⟩ | ⟨h1, h2⟩
    · rcases hc4 with ⟨g1, g2, g3⟩ | ⟨g1, g2⟩
      · exact ⟨by omega, g1.uniq h1⟩
      · exact (h2 (h1.uniq g1)).elim
    · rcases hc4 with ⟨g1, g2, g3⟩ | ⟨g1, g2⟩
      · exact (g2 (g1.uniq h1)).elim
      · exact BestP.uniq g2 h2
  have hl4 := hl3.trans hle4
  refine .z zm (.z zex (.z zex (.z zg (.z zg (.nil (.regSeq (.z zm (.z zm ?_))))))))
  refine .o (.call Tryz.call14 rfl (ref09_SameLists_spec hs (hR1.mono (hle2.trans (hle3.trans hle4))) (hR2.mono (hle3.trans hle4))) ?_); rintro _ w ⟨rfl, hs⟩
  refine .z zm ?_
  refine .bif (t' := 40) rfl (fun hb40 => ?_) (fun hb40 => ?_)
  · refine .gT rfl rfl ?_
    refine .z zm ?_
    refine .gT rfl rfl ?_
    refine .z zm ?_
    refine .gT rfl rfl ?_
    refine .z zeql (.z zpT (.z zm ?_))
    refine .bifD (t' := 45) rfl (fun hb45 => ?_) (fun hb45 => ?_)
    · refine .gT rfl rfl ?_
      refine .z zm ?_
      refine .gT rfl rfl ?_
      refine .z zm ?_
      refine .gT rfl rfl ?_
      refine .z zeql (.z zpT (.z zm ?_))
      refine .bifD (t' := 50) rfl (fun hb50 => ?_) (fun hb50 => ?_)
      · refine .gT rfl rfl ?_
        refine .z zm ?_
        refine .gT rfl rfl ?_
        refine .z zm ?_
        refine .gT rfl rfl ?_
        refine .z zeql (.z zpT (.z zm ?_))
        refine .bifD (t' := 55) rfl (fun hb55 => ?_) (fun hb55 => ?_)
        · refine .gT rfl rfl ?_
          refine .o (.call Tryz.call15 rfl (law09_sane_spec hs) ?_); rintro _ w ⟨rfl, H9, hle9, hs⟩
          refine .z zpT (.z zg (.nil ?_))
          refine .ret (Fin.ret1 Tryz.results3 rfl ?_)
          first
            | exact ⟨rfl, H9, hl4.trans hle9, hs.out⟩
            | (exfalso; first | omega | (simp_all; done))
        · refine .gFs 1 18 true rfl rfl rfl ?_
          refine .z zpF (.z zg (.nil ?_))
          refine .ret (Fin.ret1 Tryz.results3 rfl ?_)
          first
            | exact ⟨rfl, H9, hl4.trans hle9, hs.out⟩
            | (exfalso; first | omega | (simp_all; done))
      · refine .gFs 3 13 true rfl rfl rfl ?_
        refine .z zpF (.z zm ?_)
        refine .gFs 1 18 true rfl rfl rfl ?_
        refine .z zpF (.z zg (.nil ?_))
        refine .ret (Fin.ret1 Tryz.results3 rfl ?_)
        first
          | exact ⟨rfl, H9, hl4.trans hle9, hs.out⟩
          | (exfalso; first | omega | (simp_all; done))
    · refine .gFs 3 8 true rfl rfl rfl ?_
      refine .z zpF (.z zm ?_)
      refine .gFs 3 13 true rfl rfl rfl ?_
      refine .z zpF (.z zm ?_)
      refine .gFs 1 18 true rfl rfl rfl ?_
      refine .z zpF (.z zg (.nil ?_))
      refine .ret (Fin.ret1 Tryz.results3 rfl ?_)
      first
        | exact ⟨rfl, H9, hl4.trans hle9, hs.out⟩
        | (exfalso; first | omega | (simp_all; done))
  · refine .gFs 3 3 true rfl rfl rfl ?_
    refine .z zpF (.z zm ?_)
    refine .gFs 3 8 true rfl rfl rfl ?_
    refine .z zpF (.z zm ?_)
    refine .gFs 3 13 true rfl rfl rfl ?_
    refine .z zpF (.z zm ?_)
    refine .gFs 1 18 true rfl rfl rfl ?_
    refine .z zpF (.z zg (.nil ?_))
    refine .ret (Fin.ret1 Tryz.results3 rfl ?_)
    first
      | exact ⟨rfl, H9, hl4.trans hle9, hs.out⟩
      | (exfalso; first | omega | (simp_all; done))
theorem law_ProbeChoices {W : World} {v1 v2 : Value} {a0 : Int} {a1 : Quest} {a2 : List Prb} (_ : I64 a0) (w1 : RAsk (hp W) v1 a1) (_ : a1.In) (w2 : RPs (hp W) v2 a2) (_ : PrbsIn a2) :
    Cl Tryz.prog 3 [I a0, v1, v2] W fun v w' => v = .bool true ∧ ∃ H', HLe (hp W) H' ∧ St H' w' [] := law_ProbeChoices_walk (St.start W) w1 w2
set_option maxRecDepth 100000 in
theorem lifted_ProbeChoices (os : Os) (started : os.Started) (H : Type) (enc : TypeId × Value → H) :
    ReturnsInHanded {} Tryz.checked os 3 .any (Rows.probeChoicesSpec.pre6 enc Tryz.prog Tryz.f3 Rows.probeChoicesRow.domain false) (Rows.probeChoicesSpec.post enc Tryz.prog Tryz.f3 false true false false) := by
  refine returnsInHanded_of_change_sized (C := Tryz.checked) cl_own started (by kernel_rfl) Tryz.func3
    (ChangeSpec.witness6 (enc := enc) (C := Tryz.checked) false ⟨#[], #[.int .i64 0, .agg #[.int .i64 0, .slice none 0 0, .slice none 0 0, .int .i64 0], .slice none 0 0], []⟩ 8 (by kernel_rfl) (by kernel_rfl) (by kernel_rfl) (by kernel_rfl)) ?_
  intro W base args ds gs before hval0 hW hcnd hsz _
  have hval : ∀ (j : Nat) t v, Tryz.f3.params[j]? = some t → args[j]? = some v → Value.okWide Tryz.prog W .any base t v := hval0
  have hW' := hW
  obtain ⟨p, q, hA0, hV, rfl, hfz, hnd⟩ := hW
  have hA : DataW.TrodAll enc Tryz.prog W 0 (fun _ => true) true Tryz.f3.params.toList args.toList ds p := hA0
  have hAk := hA
  rw [Tryz.params3] at hA hval
  obtain ⟨v0, vs0, d0, ds0, p0, q0, hargs, rfl, rfl, h0, r0⟩ := trodAll_cons hA
  obtain ⟨v1, vs1, d1, ds1, p1, q1, rfl, rfl, rfl, h1, r1⟩ := trodAll_cons r0
  obtain ⟨v2, vs2, d2, ds2, p2, q2, rfl, rfl, rfl, h2, r2⟩ := trodAll_cons r1
  obtain ⟨rfl, rfl, rfl⟩ := trodAll_nil r2
  obtain rfl : args = #[v0, v1, v2] := by cases args; simp_all
  obtain ⟨rfl, rfl⟩ := trodVars_none hV
  have k0 : Wt Tryz.prog 3 d0 := fun n hn => (by have := List.all_eq_true.1 hsz n (DataW.weights_mem_each (j := 0) rfl rfl n hn); simpa using this)
  obtain ⟨a0, w0, u0⟩ := open_I (hval 0 3 v0 rfl rfl) h0
  subst w0
  have k1 : Wt Tryz.prog 27 d1 := fun n hn => (by have := List.all_eq_true.1 hsz n (DataW.weights_mem_each (j := 1) rfl rfl n hn); simpa using this)
  obtain ⟨a1, w1, u1⟩ := open_Ask (hval 1 27 v1 rfl rfl) h1 k1
  have k2 : Wt Tryz.prog 28 d2 := fun n hn => (by have := List.all_eq_true.1 hsz n (DataW.weights_mem_each (j := 2) rfl rfl n hn); simpa using this)
  obtain ⟨a2, w2, u2⟩ := open_probes (hval 2 28 v2 rfl rfl) h2 k2
  refine Calls.mono (law_ProbeChoices u0 w1 u1 w2 u2) fun e W' ⟨v, he, hv, H', hle, hs⟩ => ?_
  subst he; subst hv
  have kp := St.kept hle hs
  exact ⟨_, rfl, _, _, _, [], _, [], hW', trodAll_mk1 (shut_bool Tryz.underlying4 _), Kept.trodAll cl_laid kp (by rw [Tryz.params3]; intro t ht; simp only [List.mem_cons, List.not_mem_nil, or_false] at ht; rcases ht with rfl | rfl | rfl <;> exact ⟨by kernel_rfl, of_decide_eq_true (by kernel_rfl)⟩) hAk, rfl, kp.frame _, fun h => by cases h⟩
theorem closed_ProbeChoices : joinedFacts Tryz.prog 3 Tryz.f3 Rows.probeChoicesSpec Rows.probeChoicesRow = true := by
  unfold joinedFacts
  exact (band (band (band (band (band (band (band (band (band (band (band (band (band (band (band (band (band (band (band (band (band (band (band (band (band (band (band (band (band (band (band (by kernel_rfl) cl_laid) cl_maps) (by kernel_rfl)) (by kernel_rfl)) (by kernel_rfl)) (beqT cl_stops)) (by kernel_rfl)) (beqT cl_knobs)) (by kernel_rfl)) (by kernel_rfl)) (by kernel_rfl)) (by kernel_rfl)) (by kernel_rfl)) (by kernel_rfl)) (by kernel_rfl)) (by kernel_rfl)) (by kernel_rfl)) (by kernel_rfl)) (by kernel_rfl)) (by kernel_rfl)) (by kernel_rfl)) (beqT cl_keys.symm)) (by kernel_rfl)) cl_heard) cl_enter) (beqT cl_lifts.symm)) (beqT cl_make)) (by kernel_rfl)) (by kernel_rfl)) (by kernel_rfl)) (by kernel_rfl))
theorem proved_ProbeChoices : Rows.ProbeChoicesSaid :=
  OpenClaim.holds_of_wide 3 Tryz.f3 rfl rfl rfl rfl rfl rfl rfl ⟨rfl, rfl, rfl, rfl, rfl⟩ rfl rfl rfl rfl rfl (by kernel_rfl) Tryz.func3 closed_ProbeChoices
    (of_decide_eq_true (by kernel_rfl)) (by unfold Func.isWrapper; first | (rw [if_pos (by decide +kernel)]; kernel_rfl) | (rw [if_neg (by decide +kernel)]; exact ⟨rfl, rfl⟩))
    (fun os started H enc _ => lifted_ProbeChoices os started H enc)
end Go.Proofs.YtiiokdeehlfeeaaGreat
