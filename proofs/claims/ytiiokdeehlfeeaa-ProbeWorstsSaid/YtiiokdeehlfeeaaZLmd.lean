/-
  ProbeWorsts holds for every input: CheckWorst agrees with the reference, for each question, each list of probes and each width with its proof; the statement's function returns true and never panics.
-/
import Derived.Test.YtiiokdeehlfeeaaKo
import Derived.Test.YtiiokdeehlfeeaaKc
import Derived.Test.YtiiokdeehlfeeaaKu
import Derived.Test.YtiiokdeehlfeeaaRows
import Derived.OpenShut
import Derived.ProofKit
import Derived.ShutString
import Derived.ChangeOld
/-
  ProbeWorsts holds for every input: CheckWorst agrees with the reference, for each question, each list of probes and each width with its proof; the statement's function returns true and never panics.
-/
namespace Go.Proofs.Ytiiokdeehlfeeaa
open Go.MW Go.ChangeShapes Go.WideShapes Go.ChangeAt Go.RowKit
theorem law_ProbeWorsts_walk {H : Heap} {w : World} {σ : List Ent} {v vl vs : Value} {a : Quest} {l : List Prb} {s : Shw} (hs : St H w σ) (hr : RAsk H v a) (hp : RPs H vl l) (hq : RShw H vs s) :
    Cl Try.prog 6 [v, vl, vs] w fun v w' => v = .bool true ∧ ∃ H', HLe H H' ∧ St H' w' σ := by
  obtain ⟨ul, uw, rfl, hl, hw⟩ := hr
  obtain ⟨ap, cp, rfl⟩ := RPs.shape hp
  obtain ⟨uu, rfl, hU⟩ := hq
  obtain ⟨au, cu, rfl⟩ := RU.shape hU
  refine Cl.of Try.func6 rfl Try.ntmps6 (by simp) (args_cons (k := 0) rfl (args_cons (k := 1) rfl (args_cons (k := 2) rfl (args0)))) ?_
  refine .regSeq ?_
  refine .o (.box hs rfl rfl ?_); intro b3 w hs
  refine .o (.box hs rfl rfl ?_); intro b5 w hs
  refine .q hs (q_assign rfl) ?_
  refine .nil ?_
  refine .seq (.draw mix rfl hs ?_); intro w hs
  first | refine .loads (i := 0) (vs := [_, _, _, _]) hs rfl (by kernel_rfl) .none rfl Try.isAgg34 Try.sizeOf34 ?_ | refine .r (i := 0) hs rfl (by kernel_rfl) .none (q_loadsR (vs := [_, _, _, _]) rfl Try.isAgg34 Try.sizeOf34 (by assumption)) ?_
  refine .p (i := 1) rfl (by kernel_rfl) .none (q_move rfl) ?_
  first | refine .p (i := 2) rfl (by kernel_rfl) .none (q_fa0 rfl fa_moorsomlaw09_Shown_0) ?_ | refine .p (i := 2) rfl (by kernel_rfl) .none (q_fa rfl fa_moorsomlaw09_Shown_0) ?_
  first | refine .load (i := 3) hs rfl (by kernel_rfl) .none rfl Try.isAgg3 ?_ | refine .r (i := 3) hs rfl (by kernel_rfl) .none (q_loadR rfl Try.isAgg3 (by assumption)) ?_
  first | refine .p (i := 4) rfl (by kernel_rfl) .none (q_fa0 rfl fa_moorsomlaw09_Shown_1) ?_ | refine .p (i := 4) rfl (by kernel_rfl) .none (q_fa rfl fa_moorsomlaw09_Shown_1) ?_
  first | refine .loads (i := 5) (vs := [_, _]) hs rfl (by kernel_rfl) .none rfl Try.isAgg40 Try.sizeOf40 ?_ | refine .r (i := 5) hs rfl (by kernel_rfl) .none (q_loadsR (vs := [_, _]) rfl Try.isAgg40 Try.sizeOf40 (by assumption)) ?_
  first | refine .loads (i := 7) (vs := [_, _, _, _]) hs rfl (by kernel_rfl) .none rfl Try.isAgg34 Try.sizeOf34 ?_ | refine .r (i := 7) hs rfl (by kernel_rfl) .none (q_loadsR (vs := [_, _, _, _]) rfl Try.isAgg34 Try.sizeOf34 (by assumption)) ?_
  refine .p (i := 8) rfl (by kernel_rfl) .none (q_move rfl) ?_
  first | refine .p (i := 9) rfl (by kernel_rfl) .none (q_fa0 rfl fa_moorsomlaw09_Shown_0) ?_ | refine .p (i := 9) rfl (by kernel_rfl) .none (q_fa rfl fa_moorsomlaw09_Shown_0) ?_
  first | refine .load (i := 10) hs rfl (by kernel_rfl) .none rfl Try.isAgg3 ?_ | refine .r (i := 10) hs rfl (by kernel_rfl) .none (q_loadR rfl Try.isAgg3 (by assumption)) ?_
  first | refine .p (i := 11) rfl (by kernel_rfl) .none (q_fa0 rfl fa_moorsomlaw09_Shown_1) ?_ | refine .p (i := 11) rfl (by kernel_rfl) .none (q_fa rfl fa_moorsomlaw09_Shown_1) ?_
  first | refine .loads (i := 12) (vs := [_, _]) hs rfl (by kernel_rfl) .none rfl Try.isAgg40 Try.sizeOf40 ?_ | refine .r (i := 12) hs rfl (by kernel_rfl) .none (q_loadsR (vs := [_, _]) rfl Try.isAgg40 Try.sizeOf40 (by assumption)) ?_
  refine .e1 (i := 6) (by kernel_rfl) rfl rfl .none hs ?_
  refine .call Try.call42 rfl (probe_CheckWorst_spec (a := a) (l := l) (n := s.n) (m := s.b) (us := s.us) hs ⟨_, _, rfl, hl, hw⟩ hp ⟨_, rfl, hU⟩) ?_; rintro _ w ⟨H1, e1, hle1, rfl, hW1, hs⟩
  refine .go ?_
  refine .e1 (i := 13) (by kernel_rfl) rfl rfl .none hs ?_
  refine .call Try.call43 rfl (ref09_CheckWorst_spec (a := a) (l := l) (n := s.n) (m := s.b) (us := s.us) hs ⟨_, _, rfl, hl.mono hle1, hw.mono hle1⟩ (hp.mono hle1) ⟨_, rfl, hU.mono hle1⟩) ?_; rintro _ w ⟨H2, e2, hle2, rfl, hW2, hs⟩
  obtain rfl := hW2.uniq hW1
  refine .go ?_
  refine .p (i := 14) rfl (by kernel_rfl) .none (q_eql rfl rfl) ?_
  refine .p (i := 15) rfl (by kernel_rfl) .none (q_move rfl) ?_
  refine .bifD (t' := 22) rfl (fun hb22 => ?_) (fun hb22 => ?_)
  · refine .e1 (i := 16) (by kernel_rfl) rfl rfl (.some rfl rfl) hs ?_
    refine .call Try.call26 rfl (law09_sane_spec hs) ?_; rintro _ w ⟨rfl, H3, hle3, hs⟩
    refine .go ?_
    refine .p (i := 17) rfl (by kernel_rfl) .none (q_pickT rfl rfl) ?_
    refine .p (i := 18) rfl (by kernel_rfl) .none (q_assign rfl) ?_
    refine .done (by kernel_rfl) hs ?_
    refine .ret (Fin.ret1 Try.results6 rfl ?_)
    first
      | exact ⟨rfl, H3, hle1.trans (hle2.trans hle3), hs.out⟩
      | (exfalso; simp_all; done)
  · refine .qF (i := 16) rfl (by kernel_rfl) rfl rfl ?_
    refine .p (i := 17) rfl (by kernel_rfl) .none (q_pickF rfl rfl) ?_
    refine .p (i := 18) rfl (by kernel_rfl) .none (q_assign rfl) ?_
    refine .done (by kernel_rfl) hs ?_
    refine .ret (Fin.ret1 Try.results6 rfl ?_)
    first
      | exact ⟨rfl, H3, hle1.trans (hle2.trans hle3), hs.out⟩
      | (exfalso; simp_all; done)
theorem law_ProbeWorsts {W : World} {v0 v1 v2 : Value} {a0 : Quest} {a1 : List Prb} {a2 : Shw} (w0 : RAsk (hp W) v0 a0) (_ : a0.In) (w1 : RPs (hp W) v1 a1) (_ : PrbsIn a1) (w2 : RShw (hp W) v2 a2) (_ : I64 a2.n) :
    Cl Try.prog 6 [v0, v1, v2] W fun v w' => v = .bool true ∧ ∃ H', HLe (hp W) H' ∧ St H' w' [] := law_ProbeWorsts_walk (St.start W) w0 w1 w2
set_option maxRecDepth 100000 in
theorem lifted_ProbeWorsts (os : Os) (started : os.Started) (H : Type) (enc : TypeId × Value → H) :
    ReturnsInHanded {} Try.checked os 6 .any (Rows.probeWorstsSpec.pre6 enc Try.prog Try.f6 Rows.probeWorstsRow.domain false) (Rows.probeWorstsSpec.post enc Try.prog Try.f6 false true false false) := by
  refine returnsInHanded_of_change_sized (C := Try.checked) cl_own started (by kernel_rfl) Try.func6
    (ChangeSpec.witness6 (enc := enc) (C := Try.checked) false ⟨#[], #[.agg #[.int .i64 0, .slice none 0 0, .slice none 0 0, .int .i64 0], .slice none 0 0, .agg #[.int .i64 0, .int .i64 0, .slice none 0 0]], []⟩ 8 (by kernel_rfl) (by kernel_rfl) (by kernel_rfl) (by kernel_rfl)) ?_
  intro W base args ds gs before hval0 hW hcnd hsz _
  have hval : ∀ (j : Nat) t v, Try.f6.params[j]? = some t → args[j]? = some v → Value.okWide Try.prog W .any base t v := hval0
  have hW' := hW
  obtain ⟨p, q, hA0, hV, rfl, hfz, hnd⟩ := hW
  have hA : DataW.TrodAll enc Try.prog W 0 (fun _ => true) true Try.f6.params.toList args.toList ds p := hA0
  have hAk := hA
  rw [Try.params6] at hA hval
  obtain ⟨v0, vs0, d0, ds0, p0, q0, hargs, rfl, rfl, h0, r0⟩ := trodAll_cons hA
  obtain ⟨v1, vs1, d1, ds1, p1, q1, rfl, rfl, rfl, h1, r1⟩ := trodAll_cons r0
  obtain ⟨v2, vs2, d2, ds2, p2, q2, rfl, rfl, rfl, h2, r2⟩ := trodAll_cons r1
  obtain ⟨rfl, rfl, rfl⟩ := trodAll_nil r2
  obtain rfl : args = #[v0, v1, v2] := by cases args; simp_all
  obtain ⟨rfl, rfl⟩ := trodVars_none hV
  have k0 : Wt Try.prog 34 d0 := fun n hn => (by have := List.all_eq_true.1 hsz n (DataW.weights_mem_each (j := 0) rfl rfl n hn); simpa using this)
  obtain ⟨a0, w0, u0⟩ := open_Ask (hval 0 34 v0 rfl rfl) h0 k0
  have k1 : Wt Try.prog 35 d1 := fun n hn => (by have := List.all_eq_true.1 hsz n (DataW.weights_mem_each (j := 1) rfl rfl n hn); simpa using this)
  obtain ⟨a1, w1, u1⟩ := open_probes (hval 1 35 v1 rfl rfl) h1 k1
  have k2 : Wt Try.prog 65 d2 := fun n hn => (by have := List.all_eq_true.1 hsz n (DataW.weights_mem_each (j := 2) rfl rfl n hn); simpa using this)
  obtain ⟨a2, w2, u2⟩ := open_Shown (hval 2 65 v2 rfl rfl) h2 k2
  refine Calls.mono (law_ProbeWorsts w0 u0 w1 u1 w2 u2) fun e W' ⟨v, he, hv, H', hle, hs⟩ => ?_
  subst he; subst hv
  have kp := St.kept hle hs
  exact ⟨_, rfl, _, _, _, [], _, [], hW', trodAll_mk1 (shut_bool Try.underlying4 _), Kept.trodAll cl_laid kp (by rw [Try.params6]; intro t ht; simp only [List.mem_cons, List.not_mem_nil, or_false] at ht; rcases ht with rfl | rfl | rfl <;> exact ⟨by kernel_rfl, of_decide_eq_true (by kernel_rfl)⟩) hAk, rfl, kp.frame _, fun h => by cases h⟩
theorem closed_ProbeWorsts : joinedFacts Try.prog 6 Try.f6 Rows.probeWorstsSpec Rows.probeWorstsRow = true := by
  unfold joinedFacts
  exact (band (band (band (band (band (band (band (band (band (band (band (band (band (band (band (band (band (band (band (band (band (band (band (band (band (band (band (band (band (band (band (by kernel_rfl) cl_laid) cl_maps) (by kernel_rfl)) (by kernel_rfl)) (by kernel_rfl)) (beqT cl_stops)) (by kernel_rfl)) (beqT cl_knobs)) (by kernel_rfl)) (by kernel_rfl)) (by kernel_rfl)) (by kernel_rfl)) (by kernel_rfl)) (by kernel_rfl)) (by kernel_rfl)) (by kernel_rfl)) (by kernel_rfl)) (by kernel_rfl)) (by kernel_rfl)) (by kernel_rfl)) (by kernel_rfl)) (beqT cl_keys.symm)) (by kernel_rfl)) cl_heard) cl_enter) (beqT cl_lifts.symm)) (beqT cl_make)) (by kernel_rfl)) (by kernel_rfl)) (by kernel_rfl)) (by kernel_rfl))
theorem proved_ProbeWorsts : Rows.ProbeWorstsSaid :=
  OpenClaim.holds_of_wide 6 Try.f6 rfl rfl rfl rfl rfl rfl rfl ⟨rfl, rfl, rfl, rfl, rfl⟩ rfl rfl rfl rfl rfl (by kernel_rfl) Try.func6 closed_ProbeWorsts
    (of_decide_eq_true (by kernel_rfl)) (by unfold Func.isWrapper; first | (rw [if_pos (by decide +kernel)]; kernel_rfl) | (rw [if_neg (by decide +kernel)]; exact ⟨rfl, rfl⟩))
    (fun os started H enc _ => lifted_ProbeWorsts os started H enc)
end Go.Proofs.Ytiiokdeehlfeeaa
