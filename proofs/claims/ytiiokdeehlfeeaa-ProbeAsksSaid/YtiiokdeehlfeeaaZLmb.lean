/-
  ProbeAsks holds for every input: CheckAsk, CheckProbes, Width, Settled and Side agree with the reference, for each question, each list of probes and each number; the statement's function returns true and never panics.
-/
import Derived.Test.YtiiokdeehlfeeaaKo
import Derived.Test.YtiiokdeehlfeeaaKc
import Derived.Test.YtiiokdeehlfeeaaKs
import Derived.Test.YtiiokdeehlfeeaaRows
import Derived.OpenShut
import Derived.ProofKit
import Derived.ShutString
import Derived.ChangeOld
/-
  ProbeAsks holds for every input: CheckAsk, CheckProbes, Width, Settled and Side agree with the reference, for each question, each list of probes and each number; the statement's function returns true and never panics.
-/
namespace Go.Proofs.Ytiiokdeehlfeeaa
open Go.MW Go.ChangeShapes Go.WideShapes Go.ChangeAt Go.RowKit
theorem law_ProbeAsks_walk {H : Heap} {w : World} {σ : List Ent} {v vl : Value} {a : Quest} {l : List Prb} {z : Int} (hs : St H w σ) (hr : RAsk H v a) (hp : RPs H vl l) :
    Cl Try.prog 5 [v, vl, I z] w fun v w' => v = .bool true ∧ ∃ H', HLe H H' ∧ St H' w' σ := by
  obtain ⟨ul, uw, rfl, hl, hw⟩ := hr
  refine Cl.of Try.func5 rfl Try.ntmps5 (by simp) (args_cons (k := 0) rfl (args_cons (k := 1) rfl (args_cons (k := 2) rfl (args0)))) ?_
  refine .regSeq ?_
  refine .o (.box hs rfl rfl ?_); intro b3 w hs
  refine .q hs (q_assign rfl) ?_
  refine .nil ?_
  refine .regSeq ?_
  first | refine .q hs (q_loads (vs := [_, _, _, _]) rfl Try.isAgg34 Try.sizeOf34) ?_ | refine .q hs (q_loadsR (vs := [_, _, _, _]) rfl Try.isAgg34 Try.sizeOf34 (by assumption)) ?_
  refine .o (.call Try.call24 rfl (probe_Width_spec (a := a) hs ⟨_, _, rfl, hl, hw⟩) ?_); rintro _ w ⟨H1, n1, e1, hle1, rfl, hR1, hs⟩
  refine .q hs (q_move rfl) ?_
  refine .q hs (q_extract rfl rfl) ?_
  refine .q hs (q_extract rfl rfl) ?_
  refine .q hs (q_assign rfl) ?_
  refine .q hs (q_assign rfl) ?_
  refine .nil ?_
  refine .regSeq ?_
  first | refine .q hs (q_loads (vs := [_, _, _, _]) rfl Try.isAgg34 Try.sizeOf34) ?_ | refine .q hs (q_loadsR (vs := [_, _, _, _]) rfl Try.isAgg34 Try.sizeOf34 (by assumption)) ?_
  refine .o (.call Try.call33 rfl (ref09_Width_spec (a := a) hs ⟨_, _, rfl, hl.mono hle1, hw.mono hle1⟩) ?_); rintro _ w ⟨H2, n2, e2, hle2, rfl, hR2, hs⟩
  obtain ⟨rfl, rfl⟩ := WidthR.uniq hR2 hR1
  have hle12 := hle1.trans hle2
  refine .q hs (q_move rfl) ?_
  refine .q hs (q_extract rfl rfl) ?_
  refine .q hs (q_extract rfl rfl) ?_
  refine .q hs (q_assign rfl) ?_
  refine .q hs (q_assign rfl) ?_
  refine .nil ?_
  refine .regSeq ?_
  first | refine .q hs (q_loads (vs := [_, _, _, _]) rfl Try.isAgg34 Try.sizeOf34) ?_ | refine .q hs (q_loadsR (vs := [_, _, _, _]) rfl Try.isAgg34 Try.sizeOf34 (by assumption)) ?_
  refine .o (.call Try.call34 rfl (probe_Settled_spec (a := a) hs ⟨_, _, rfl, hl.mono hle12, hw.mono hle12⟩) ?_); rintro _ w ⟨H3, s1, f1, hle3, rfl, hS1, hs⟩
  have hle13 := hle12.trans hle3
  refine .q hs (q_move rfl) ?_
  refine .q hs (q_extract rfl rfl) ?_
  refine .q hs (q_extract rfl rfl) ?_
  refine .q hs (q_assign rfl) ?_
  refine .q hs (q_assign rfl) ?_
  refine .nil ?_
  refine .regSeq ?_
  first | refine .q hs (q_loads (vs := [_, _, _, _]) rfl Try.isAgg34 Try.sizeOf34) ?_ | refine .q hs (q_loadsR (vs := [_, _, _, _]) rfl Try.isAgg34 Try.sizeOf34 (by assumption)) ?_
  refine .o (.call Try.call35 rfl (ref09_Settled_spec (a := a) hs ⟨_, _, rfl, hl.mono hle13, hw.mono hle13⟩) ?_); rintro _ w ⟨H4, s2, f2, hle4, rfl, hS2, hs⟩
  obtain ⟨rfl, rfl⟩ := hS2.uniq hS1
  have hle14 := hle13.trans hle4
  refine .q hs (q_move rfl) ?_
  refine .q hs (q_extract rfl rfl) ?_
  refine .q hs (q_extract rfl rfl) ?_
  refine .q hs (q_assign rfl) ?_
  refine .q hs (q_assign rfl) ?_
  refine .nil ?_
  refine .regSeq ?_
  first | refine .q hs (q_loads (vs := [_, _, _, _]) rfl Try.isAgg34 Try.sizeOf34) ?_ | refine .q hs (q_loadsR (vs := [_, _, _, _]) rfl Try.isAgg34 Try.sizeOf34 (by assumption)) ?_
  refine .q hs (q_move rfl) ?_
  refine .o (.call Try.call36 rfl (probe_Side_spec (a := a) hs ⟨_, _, rfl, hl.mono hle14, hw.mono hle14⟩) ?_); rintro _ w ⟨H5, x1, g1, hle5, rfl, hD1, hs⟩
  have hle15 := hle14.trans hle5
  refine .q hs (q_move rfl) ?_
  refine .q hs (q_extract rfl rfl) ?_
  refine .q hs (q_extract rfl rfl) ?_
  refine .q hs (q_assign rfl) ?_
  refine .q hs (q_assign rfl) ?_
  refine .nil ?_
  refine .regSeq ?_
  first | refine .q hs (q_loads (vs := [_, _, _, _]) rfl Try.isAgg34 Try.sizeOf34) ?_ | refine .q hs (q_loadsR (vs := [_, _, _, _]) rfl Try.isAgg34 Try.sizeOf34 (by assumption)) ?_
  refine .q hs (q_move rfl) ?_
  refine .o (.call Try.call37 rfl (ref09_Side_spec (a := a) hs ⟨_, _, rfl, hl.mono hle15, hw.mono hle15⟩) ?_); rintro _ w ⟨H6, x2, g2, hle6, rfl, hD2, hs⟩
  obtain ⟨rfl, rfl⟩ := hD2.uniq hD1
  have hle16 := hle15.trans hle6
  refine .q hs (q_move rfl) ?_
  refine .q hs (q_extract rfl rfl) ?_
  refine .q hs (q_extract rfl rfl) ?_
  refine .q hs (q_assign rfl) ?_
  refine .q hs (q_assign rfl) ?_
  refine .nil ?_
  refine .seq (.draw mix rfl hs ?_); intro w hs
  first | refine .loads (i := 0) (vs := [_, _, _, _]) hs rfl (by kernel_rfl) .none rfl Try.isAgg34 Try.sizeOf34 ?_ | refine .r (i := 0) hs rfl (by kernel_rfl) .none (q_loadsR (vs := [_, _, _, _]) rfl Try.isAgg34 Try.sizeOf34 (by assumption)) ?_
  first | refine .loads (i := 2) (vs := [_, _, _, _]) hs rfl (by kernel_rfl) .none rfl Try.isAgg34 Try.sizeOf34 ?_ | refine .r (i := 2) hs rfl (by kernel_rfl) .none (q_loadsR (vs := [_, _, _, _]) rfl Try.isAgg34 Try.sizeOf34 (by assumption)) ?_
  refine .e1 (i := 1) (by kernel_rfl) rfl rfl .none hs ?_
  refine .call Try.call38 rfl (probe_CheckAsk_spec (a := a) hs ⟨_, _, rfl, hl.mono hle16, hw.mono hle16⟩) ?_; rintro _ w ⟨H7, c1, hle7, rfl, hC1, hs⟩
  have hle17 := hle16.trans hle7
  refine .go ?_
  refine .e1 (i := 3) (by kernel_rfl) rfl rfl .none hs ?_
  refine .call Try.call39 rfl (ref09_CheckAsk_spec (a := a) hs ⟨_, _, rfl, hl.mono hle17, hw.mono hle17⟩) ?_; rintro _ w ⟨H8, c2, hle8, rfl, hC2, hs⟩
  obtain rfl := hC2.uniq hC1
  have hle18 := hle17.trans hle8
  refine .go ?_
  refine .p (i := 4) rfl (by kernel_rfl) .none (q_eql rfl rfl) ?_
  refine .p (i := 5) rfl (by kernel_rfl) .none (q_move rfl) ?_
  refine .bifD (t' := 56) rfl (fun hb56 => ?_) (fun hb56 => ?_)
  · first | refine .loads (i := 6) (vs := [_, _, _, _]) hs rfl (by kernel_rfl) (.some rfl rfl) rfl Try.isAgg34 Try.sizeOf34 ?_ | refine .r (i := 6) hs rfl (by kernel_rfl) (.some rfl rfl) (q_loadsR (vs := [_, _, _, _]) rfl Try.isAgg34 Try.sizeOf34 (by assumption)) ?_
    refine .p (i := 7) rfl (by kernel_rfl) (.some rfl rfl) (q_move rfl) ?_
    first | refine .loads (i := 9) (vs := [_, _, _, _]) hs rfl (by kernel_rfl) (.some rfl rfl) rfl Try.isAgg34 Try.sizeOf34 ?_ | refine .r (i := 9) hs rfl (by kernel_rfl) (.some rfl rfl) (q_loadsR (vs := [_, _, _, _]) rfl Try.isAgg34 Try.sizeOf34 (by assumption)) ?_
    refine .p (i := 10) rfl (by kernel_rfl) (.some rfl rfl) (q_move rfl) ?_
    refine .e1 (i := 8) (by kernel_rfl) rfl rfl (.some rfl rfl) hs ?_
    refine .call Try.call40 rfl (probe_CheckProbes_spec (a := a) hs ⟨_, _, rfl, hl.mono hle18, hw.mono hle18⟩ (hp.mono hle18)) ?_; rintro _ w ⟨H9, d1, hle9, rfl, hE1, hs⟩
    have hle19 := hle18.trans hle9
    refine .go ?_
    refine .e1 (i := 11) (by kernel_rfl) rfl rfl (.some rfl rfl) hs ?_
    refine .call Try.call41 rfl (ref09_CheckProbes_spec (a := a) hs ⟨_, _, rfl, hl.mono hle19, hw.mono hle19⟩ (hp.mono hle19)) ?_; rintro _ w ⟨H10, d2, hle10, rfl, hE2, hs⟩
    obtain rfl := hE2.uniq hE1
    have hle110 := hle19.trans hle10
    refine .go ?_
    refine .p (i := 12) rfl (by kernel_rfl) (.some rfl rfl) (q_eql rfl rfl) ?_
    refine .p (i := 13) rfl (by kernel_rfl) .none (q_pickT rfl rfl) ?_
    refine .p (i := 14) rfl (by kernel_rfl) .none (q_move rfl) ?_
    refine .bifD (t' := 65) rfl (fun hb65 => ?_) (fun hb65 => ?_)
    · refine .p (i := 15) rfl (by kernel_rfl) (.some rfl rfl) (q_move rfl) ?_
      refine .p (i := 16) rfl (by kernel_rfl) (.some rfl rfl) (q_move rfl) ?_
      refine .p (i := 17) rfl (by kernel_rfl) (.some rfl rfl) (q_eql rfl rfl) ?_
      refine .p (i := 18) rfl (by kernel_rfl) .none (q_pickT rfl rfl) ?_
      refine .p (i := 19) rfl (by kernel_rfl) .none (q_move rfl) ?_
      refine .bifD (t' := 70) rfl (fun hb70 => ?_) (fun hb70 => ?_)
      · refine .p (i := 20) rfl (by kernel_rfl) (.some rfl rfl) (q_move rfl) ?_
        refine .p (i := 21) rfl (by kernel_rfl) (.some rfl rfl) (q_move rfl) ?_
        refine .p (i := 22) rfl (by kernel_rfl) (.some rfl rfl) (q_eql rfl rfl) ?_
        refine .p (i := 23) rfl (by kernel_rfl) .none (q_pickT rfl rfl) ?_
        refine .p (i := 24) rfl (by kernel_rfl) .none (q_move rfl) ?_
        refine .bifD (t' := 75) rfl (fun hb75 => ?_) (fun hb75 => ?_)
        · refine .p (i := 25) rfl (by kernel_rfl) (.some rfl rfl) (q_move rfl) ?_
          refine .p (i := 26) rfl (by kernel_rfl) (.some rfl rfl) (q_move rfl) ?_
          refine .p (i := 27) rfl (by kernel_rfl) (.some rfl rfl) (q_eqB rfl rfl Try.runUnderlying4) ?_
          refine .p (i := 28) rfl (by kernel_rfl) .none (q_pickT rfl rfl) ?_
          refine .p (i := 29) rfl (by kernel_rfl) .none (q_move rfl) ?_
          refine .bif (t' := 80) rfl (fun hb80 => ?_) (fun hb80 => ?_)
          · refine .p (i := 30) rfl (by kernel_rfl) (.some rfl rfl) (q_move rfl) ?_
            refine .p (i := 31) rfl (by kernel_rfl) (.some rfl rfl) (q_move rfl) ?_
            refine .p (i := 32) rfl (by kernel_rfl) (.some rfl rfl) (q_eql rfl rfl) ?_
            refine .p (i := 33) rfl (by kernel_rfl) .none (q_pickT rfl rfl) ?_
            refine .p (i := 34) rfl (by kernel_rfl) .none (q_move rfl) ?_
            refine .bifD (t' := 85) rfl (fun hb85 => ?_) (fun hb85 => ?_)
            · refine .p (i := 35) rfl (by kernel_rfl) (.some rfl rfl) (q_move rfl) ?_
              refine .p (i := 36) rfl (by kernel_rfl) (.some rfl rfl) (q_move rfl) ?_
              refine .p (i := 37) rfl (by kernel_rfl) (.some rfl rfl) (q_eql rfl rfl) ?_
              refine .p (i := 38) rfl (by kernel_rfl) .none (q_pickT rfl rfl) ?_
              refine .p (i := 39) rfl (by kernel_rfl) .none (q_move rfl) ?_
              refine .bifD (t' := 90) rfl (fun hb90 => ?_) (fun hb90 => ?_)
              · refine .p (i := 40) rfl (by kernel_rfl) (.some rfl rfl) (q_move rfl) ?_
                refine .p (i := 41) rfl (by kernel_rfl) (.some rfl rfl) (q_move rfl) ?_
                refine .p (i := 42) rfl (by kernel_rfl) (.some rfl rfl) (q_eql rfl rfl) ?_
                refine .p (i := 43) rfl (by kernel_rfl) .none (q_pickT rfl rfl) ?_
                refine .p (i := 44) rfl (by kernel_rfl) .none (q_move rfl) ?_
                refine .bifD (t' := 95) rfl (fun hb95 => ?_) (fun hb95 => ?_)
                · refine .e1 (i := 45) (by kernel_rfl) rfl rfl (.some rfl rfl) hs ?_
                  refine .call Try.call26 rfl (law09_sane_spec hs) ?_; rintro _ w ⟨rfl, H11, hle11, hs⟩
                  refine .go ?_
                  refine .p (i := 46) rfl (by kernel_rfl) .none (q_pickT rfl rfl) ?_
                  refine .p (i := 47) rfl (by kernel_rfl) .none (q_assign rfl) ?_
                  refine .done (by kernel_rfl) hs ?_
                  refine .ret (Fin.ret1 Try.results5 rfl ?_)
                  first | (exfalso; first | omega | simp_all; done) | exact ⟨rfl, H11, hle110.trans hle11, hs.out⟩
                · refine .qF (i := 45) rfl (by kernel_rfl) rfl rfl ?_
                  refine .p (i := 46) rfl (by kernel_rfl) .none (q_pickF rfl rfl) ?_
                  refine .p (i := 47) rfl (by kernel_rfl) .none (q_assign rfl) ?_
                  refine .done (by kernel_rfl) hs ?_
                  refine .ret (Fin.ret1 Try.results5 rfl ?_)
                  first | (exfalso; first | omega | simp_all; done) | exact ⟨rfl, H11, hle110.trans hle11, hs.out⟩
              · refine .qF (i := 40) rfl (by kernel_rfl) rfl rfl ?_
                refine .qF (i := 41) rfl (by kernel_rfl) rfl rfl ?_
                refine .qF (i := 42) rfl (by kernel_rfl) rfl rfl ?_
                refine .p (i := 43) rfl (by kernel_rfl) .none (q_pickF rfl rfl) ?_
                refine .p (i := 44) rfl (by kernel_rfl) .none (q_move rfl) ?_
                refine .qF (i := 45) rfl (by kernel_rfl) rfl rfl ?_
                refine .p (i := 46) rfl (by kernel_rfl) .none (q_pickF rfl rfl) ?_
                refine .p (i := 47) rfl (by kernel_rfl) .none (q_assign rfl) ?_
                refine .done (by kernel_rfl) hs ?_
                refine .ret (Fin.ret1 Try.results5 rfl ?_)
                first | (exfalso; first | omega | simp_all; done) | exact ⟨rfl, H11, hle110.trans hle11, hs.out⟩
            · refine .qF (i := 35) rfl (by kernel_rfl) rfl rfl ?_
              refine .qF (i := 36) rfl (by kernel_rfl) rfl rfl ?_
              refine .qF (i := 37) rfl (by kernel_rfl) rfl rfl ?_
              refine .p (i := 38) rfl (by kernel_rfl) .none (q_pickF rfl rfl) ?_
              refine .p (i := 39) rfl (by kernel_rfl) .none (q_move rfl) ?_
              refine .qF (i := 40) rfl (by kernel_rfl) rfl rfl ?_
              refine .qF (i := 41) rfl (by kernel_rfl) rfl rfl ?_
              refine .qF (i := 42) rfl (by kernel_rfl) rfl rfl ?_
              refine .p (i := 43) rfl (by kernel_rfl) .none (q_pickF rfl rfl) ?_
              refine .p (i := 44) rfl (by kernel_rfl) .none (q_move rfl) ?_
              refine .qF (i := 45) rfl (by kernel_rfl) rfl rfl ?_
              refine .p (i := 46) rfl (by kernel_rfl) .none (q_pickF rfl rfl) ?_
              refine .p (i := 47) rfl (by kernel_rfl) .none (q_assign rfl) ?_
              refine .done (by kernel_rfl) hs ?_
              refine .ret (Fin.ret1 Try.results5 rfl ?_)
              first | (exfalso; first | omega | simp_all; done) | exact ⟨rfl, H11, hle110.trans hle11, hs.out⟩
          · refine .qF (i := 30) rfl (by kernel_rfl) rfl rfl ?_
            refine .qF (i := 31) rfl (by kernel_rfl) rfl rfl ?_
            refine .qF (i := 32) rfl (by kernel_rfl) rfl rfl ?_
            refine .p (i := 33) rfl (by kernel_rfl) .none (q_pickF rfl rfl) ?_
            refine .p (i := 34) rfl (by kernel_rfl) .none (q_move rfl) ?_
            refine .qF (i := 35) rfl (by kernel_rfl) rfl rfl ?_
            refine .qF (i := 36) rfl (by kernel_rfl) rfl rfl ?_
            refine .qF (i := 37) rfl (by kernel_rfl) rfl rfl ?_
            refine .p (i := 38) rfl (by kernel_rfl) .none (q_pickF rfl rfl) ?_
            refine .p (i := 39) rfl (by kernel_rfl) .none (q_move rfl) ?_
            refine .qF (i := 40) rfl (by kernel_rfl) rfl rfl ?_
            refine .qF (i := 41) rfl (by kernel_rfl) rfl rfl ?_
            refine .qF (i := 42) rfl (by kernel_rfl) rfl rfl ?_
            refine .p (i := 43) rfl (by kernel_rfl) .none (q_pickF rfl rfl) ?_
            refine .p (i := 44) rfl (by kernel_rfl) .none (q_move rfl) ?_
            refine .qF (i := 45) rfl (by kernel_rfl) rfl rfl ?_
            refine .p (i := 46) rfl (by kernel_rfl) .none (q_pickF rfl rfl) ?_
            refine .p (i := 47) rfl (by kernel_rfl) .none (q_assign rfl) ?_
            refine .done (by kernel_rfl) hs ?_
            refine .ret (Fin.ret1 Try.results5 rfl ?_)
            first | (exfalso; first | omega | simp_all; done) | exact ⟨rfl, H11, hle110.trans hle11, hs.out⟩
        · refine .qF (i := 25) rfl (by kernel_rfl) rfl rfl ?_
          refine .qF (i := 26) rfl (by kernel_rfl) rfl rfl ?_
          refine .qF (i := 27) rfl (by kernel_rfl) rfl rfl ?_
          refine .p (i := 28) rfl (by kernel_rfl) .none (q_pickF rfl rfl) ?_
          refine .p (i := 29) rfl (by kernel_rfl) .none (q_move rfl) ?_
          refine .qF (i := 30) rfl (by kernel_rfl) rfl rfl ?_
          refine .qF (i := 31) rfl (by kernel_rfl) rfl rfl ?_
          refine .qF (i := 32) rfl (by kernel_rfl) rfl rfl ?_
          refine .p (i := 33) rfl (by kernel_rfl) .none (q_pickF rfl rfl) ?_
          refine .p (i := 34) rfl (by kernel_rfl) .none (q_move rfl) ?_
          refine .qF (i := 35) rfl (by kernel_rfl) rfl rfl ?_
          refine .qF (i := 36) rfl (by kernel_rfl) rfl rfl ?_
          refine .qF (i := 37) rfl (by kernel_rfl) rfl rfl ?_
          refine .p (i := 38) rfl (by kernel_rfl) .none (q_pickF rfl rfl) ?_
          refine .p (i := 39) rfl (by kernel_rfl) .none (q_move rfl) ?_
          refine .qF (i := 40) rfl (by kernel_rfl) rfl rfl ?_
          refine .qF (i := 41) rfl (by kernel_rfl) rfl rfl ?_
          refine .qF (i := 42) rfl (by kernel_rfl) rfl rfl ?_
          refine .p (i := 43) rfl (by kernel_rfl) .none (q_pickF rfl rfl) ?_
          refine .p (i := 44) rfl (by kernel_rfl) .none (q_move rfl) ?_
          refine .qF (i := 45) rfl (by kernel_rfl) rfl rfl ?_
          refine .p (i := 46) rfl (by kernel_rfl) .none (q_pickF rfl rfl) ?_
          refine .p (i := 47) rfl (by kernel_rfl) .none (q_assign rfl) ?_
          refine .done (by kernel_rfl) hs ?_
          refine .ret (Fin.ret1 Try.results5 rfl ?_)
          first | (exfalso; first | omega | simp_all; done) | exact ⟨rfl, H11, hle110.trans hle11, hs.out⟩
      · refine .qF (i := 20) rfl (by kernel_rfl) rfl rfl ?_
        refine .qF (i := 21) rfl (by kernel_rfl) rfl rfl ?_
        refine .qF (i := 22) rfl (by kernel_rfl) rfl rfl ?_
        refine .p (i := 23) rfl (by kernel_rfl) .none (q_pickF rfl rfl) ?_
        refine .p (i := 24) rfl (by kernel_rfl) .none (q_move rfl) ?_
        refine .qF (i := 25) rfl (by kernel_rfl) rfl rfl ?_
        refine .qF (i := 26) rfl (by kernel_rfl) rfl rfl ?_
        refine .qF (i := 27) rfl (by kernel_rfl) rfl rfl ?_
        refine .p (i := 28) rfl (by kernel_rfl) .none (q_pickF rfl rfl) ?_
        refine .p (i := 29) rfl (by kernel_rfl) .none (q_move rfl) ?_
        refine .qF (i := 30) rfl (by kernel_rfl) rfl rfl ?_
        refine .qF (i := 31) rfl (by kernel_rfl) rfl rfl ?_
        refine .qF (i := 32) rfl (by kernel_rfl) rfl rfl ?_
        refine .p (i := 33) rfl (by kernel_rfl) .none (q_pickF rfl rfl) ?_
        refine .p (i := 34) rfl (by kernel_rfl) .none (q_move rfl) ?_
        refine .qF (i := 35) rfl (by kernel_rfl) rfl rfl ?_
        refine .qF (i := 36) rfl (by kernel_rfl) rfl rfl ?_
        refine .qF (i := 37) rfl (by kernel_rfl) rfl rfl ?_
        refine .p (i := 38) rfl (by kernel_rfl) .none (q_pickF rfl rfl) ?_
        refine .p (i := 39) rfl (by kernel_rfl) .none (q_move rfl) ?_
        refine .qF (i := 40) rfl (by kernel_rfl) rfl rfl ?_
        refine .qF (i := 41) rfl (by kernel_rfl) rfl rfl ?_
        refine .qF (i := 42) rfl (by kernel_rfl) rfl rfl ?_
        refine .p (i := 43) rfl (by kernel_rfl) .none (q_pickF rfl rfl) ?_
        refine .p (i := 44) rfl (by kernel_rfl) .none (q_move rfl) ?_
        refine .qF (i := 45) rfl (by kernel_rfl) rfl rfl ?_
        refine .p (i := 46) rfl (by kernel_rfl) .none (q_pickF rfl rfl) ?_
        refine .p (i := 47) rfl (by kernel_rfl) .none (q_assign rfl) ?_
        refine .done (by kernel_rfl) hs ?_
        refine .ret (Fin.ret1 Try.results5 rfl ?_)
        first | (exfalso; first | omega | simp_all; done) | exact ⟨rfl, H11, hle110.trans hle11, hs.out⟩
    · refine .qF (i := 15) rfl (by kernel_rfl) rfl rfl ?_
      refine .qF (i := 16) rfl (by kernel_rfl) rfl rfl ?_
      refine .qF (i := 17) rfl (by kernel_rfl) rfl rfl ?_
      refine .p (i := 18) rfl (by kernel_rfl) .none (q_pickF rfl rfl) ?_
      refine .p (i := 19) rfl (by kernel_rfl) .none (q_move rfl) ?_
      refine .qF (i := 20) rfl (by kernel_rfl) rfl rfl ?_
      refine .qF (i := 21) rfl (by kernel_rfl) rfl rfl ?_
      refine .qF (i := 22) rfl (by kernel_rfl) rfl rfl ?_
      refine .p (i := 23) rfl (by kernel_rfl) .none (q_pickF rfl rfl) ?_
      refine .p (i := 24) rfl (by kernel_rfl) .none (q_move rfl) ?_
      refine .qF (i := 25) rfl (by kernel_rfl) rfl rfl ?_
      refine .qF (i := 26) rfl (by kernel_rfl) rfl rfl ?_
      refine .qF (i := 27) rfl (by kernel_rfl) rfl rfl ?_
      refine .p (i := 28) rfl (by kernel_rfl) .none (q_pickF rfl rfl) ?_
      refine .p (i := 29) rfl (by kernel_rfl) .none (q_move rfl) ?_
      refine .qF (i := 30) rfl (by kernel_rfl) rfl rfl ?_
      refine .qF (i := 31) rfl (by kernel_rfl) rfl rfl ?_
      refine .qF (i := 32) rfl (by kernel_rfl) rfl rfl ?_
      refine .p (i := 33) rfl (by kernel_rfl) .none (q_pickF rfl rfl) ?_
      refine .p (i := 34) rfl (by kernel_rfl) .none (q_move rfl) ?_
      refine .qF (i := 35) rfl (by kernel_rfl) rfl rfl ?_
      refine .qF (i := 36) rfl (by kernel_rfl) rfl rfl ?_
      refine .qF (i := 37) rfl (by kernel_rfl) rfl rfl ?_
      refine .p (i := 38) rfl (by kernel_rfl) .none (q_pickF rfl rfl) ?_
      refine .p (i := 39) rfl (by kernel_rfl) .none (q_move rfl) ?_
      refine .qF (i := 40) rfl (by kernel_rfl) rfl rfl ?_
      refine .qF (i := 41) rfl (by kernel_rfl) rfl rfl ?_
      refine .qF (i := 42) rfl (by kernel_rfl) rfl rfl ?_
      refine .p (i := 43) rfl (by kernel_rfl) .none (q_pickF rfl rfl) ?_
      refine .p (i := 44) rfl (by kernel_rfl) .none (q_move rfl) ?_
      refine .qF (i := 45) rfl (by kernel_rfl) rfl rfl ?_
      refine .p (i := 46) rfl (by kernel_rfl) .none (q_pickF rfl rfl) ?_
      refine .p (i := 47) rfl (by kernel_rfl) .none (q_assign rfl) ?_
      refine .done (by kernel_rfl) hs ?_
      refine .ret (Fin.ret1 Try.results5 rfl ?_)
      first | (exfalso; first | omega | simp_all; done) | exact ⟨rfl, H11, hle110.trans hle11, hs.out⟩
  · refine .qF (i := 6) rfl (by kernel_rfl) rfl rfl ?_
    refine .qF (i := 7) rfl (by kernel_rfl) rfl rfl ?_
    refine .qF (i := 8) rfl (by kernel_rfl) rfl rfl ?_
    refine .qF (i := 9) rfl (by kernel_rfl) rfl rfl ?_
    refine .qF (i := 10) rfl (by kernel_rfl) rfl rfl ?_
    refine .qF (i := 11) rfl (by kernel_rfl) rfl rfl ?_
    refine .qF (i := 12) rfl (by kernel_rfl) rfl rfl ?_
    refine .p (i := 13) rfl (by kernel_rfl) .none (q_pickF rfl rfl) ?_
    refine .p (i := 14) rfl (by kernel_rfl) .none (q_move rfl) ?_
    refine .qF (i := 15) rfl (by kernel_rfl) rfl rfl ?_
    refine .qF (i := 16) rfl (by kernel_rfl) rfl rfl ?_
    refine .qF (i := 17) rfl (by kernel_rfl) rfl rfl ?_
    refine .p (i := 18) rfl (by kernel_rfl) .none (q_pickF rfl rfl) ?_
    refine .p (i := 19) rfl (by kernel_rfl) .none (q_move rfl) ?_
    refine .qF (i := 20) rfl (by kernel_rfl) rfl rfl ?_
    refine .qF (i := 21) rfl (by kernel_rfl) rfl rfl ?_
    refine .qF (i := 22) rfl (by kernel_rfl) rfl rfl ?_
    refine .p (i := 23) rfl (by kernel_rfl) .none (q_pickF rfl rfl) ?_
    refine .p (i := 24) rfl (by kernel_rfl) .none (q_move rfl) ?_
    refine .qF (i := 25) rfl (by kernel_rfl) rfl rfl ?_
    refine .qF (i := 26) rfl (by kernel_rfl) rfl rfl ?_
    refine .qF (i := 27) rfl (by kernel_rfl) rfl rfl ?_
    refine .p (i := 28) rfl (by kernel_rfl) .none (q_pickF rfl rfl) ?_
    refine .p (i := 29) rfl (by kernel_rfl) .none (q_move rfl) ?_
    refine .qF (i := 30) rfl (by kernel_rfl) rfl rfl ?_
    refine .qF (i := 31) rfl (by kernel_rfl) rfl rfl ?_
    refine .qF (i := 32) rfl (by kernel_rfl) rfl rfl ?_
    refine .p (i := 33) rfl (by kernel_rfl) .none (q_pickF rfl rfl) ?_
    refine .p (i := 34) rfl (by kernel_rfl) .none (q_move rfl) ?_
    refine .qF (i := 35) rfl (by kernel_rfl) rfl rfl ?_
    refine .qF (i := 36) rfl (by kernel_rfl) rfl rfl ?_
    refine .qF (i := 37) rfl (by kernel_rfl) rfl rfl ?_
    refine .p (i := 38) rfl (by kernel_rfl) .none (q_pickF rfl rfl) ?_
    refine .p (i := 39) rfl (by kernel_rfl) .none (q_move rfl) ?_
    refine .qF (i := 40) rfl (by kernel_rfl) rfl rfl ?_
    refine .qF (i := 41) rfl (by kernel_rfl) rfl rfl ?_
    refine .qF (i := 42) rfl (by kernel_rfl) rfl rfl ?_
    refine .p (i := 43) rfl (by kernel_rfl) .none (q_pickF rfl rfl) ?_
    refine .p (i := 44) rfl (by kernel_rfl) .none (q_move rfl) ?_
    refine .qF (i := 45) rfl (by kernel_rfl) rfl rfl ?_
    refine .p (i := 46) rfl (by kernel_rfl) .none (q_pickF rfl rfl) ?_
    refine .p (i := 47) rfl (by kernel_rfl) .none (q_assign rfl) ?_
    refine .done (by kernel_rfl) hs ?_
    refine .ret (Fin.ret1 Try.results5 rfl ?_)
    first | (exfalso; first | omega | simp_all; done) | exact ⟨rfl, H11, hle110.trans hle11, hs.out⟩
set_option maxRecDepth 100000 in
theorem open_I {H : Type} {enc : TypeId × Value → H} {w : World} {sp : Nat → Bool} {held : Bool} {v : Value} {d : DataW H} {p : List MemPlace} {r : Reach} {base : Nat}
    (hv : Value.okWide Try.prog w r base 3 v) (h : DataW.Trod enc Try.prog w 0 sp held 3 v d p) : ∃ a, v = I a ∧ I64 a := by
  obtain ⟨a, rfl, rfl, rfl, wa⟩ := open_int Try.underlying3 hv h
  exact ⟨a, rfl, wf64 wa⟩
theorem law_ProbeAsks {W : World} {v0 v1 : Value} {a0 : Quest} {a1 : List Prb} {a2 : Int} (w0 : RAsk (hp W) v0 a0) (_ : a0.In) (w1 : RPs (hp W) v1 a1) (_ : PrbsIn a1) (_ : I64 a2) :
    Cl Try.prog 5 [v0, v1, I a2] W fun v w' => v = .bool true ∧ ∃ H', HLe (hp W) H' ∧ St H' w' [] := law_ProbeAsks_walk (St.start W) w0 w1
set_option maxRecDepth 100000 in
theorem lifted_ProbeAsks (os : Os) (started : os.Started) (H : Type) (enc : TypeId × Value → H) :
    ReturnsInHanded {} Try.checked os 5 .any (Rows.probeAsksSpec.pre6 enc Try.prog Try.f5 Rows.probeAsksRow.domain false) (Rows.probeAsksSpec.post enc Try.prog Try.f5 false true false false) := by
  refine returnsInHanded_of_change_sized (C := Try.checked) cl_own started (by kernel_rfl) Try.func5
    (ChangeSpec.witness6 (enc := enc) (C := Try.checked) false ⟨#[], #[.agg #[.int .i64 0, .slice none 0 0, .slice none 0 0, .int .i64 0], .slice none 0 0, .int .i64 0], []⟩ 8 (by kernel_rfl) (by kernel_rfl) (by kernel_rfl) (by kernel_rfl)) ?_
  intro W base args ds gs before hval0 hW hcnd hsz _
  have hval : ∀ (j : Nat) t v, Try.f5.params[j]? = some t → args[j]? = some v → Value.okWide Try.prog W .any base t v := hval0
  have hW' := hW
  obtain ⟨p, q, hA0, hV, rfl, hfz, hnd⟩ := hW
  have hA : DataW.TrodAll enc Try.prog W 0 (fun _ => true) true Try.f5.params.toList args.toList ds p := hA0
  have hAk := hA
  rw [Try.params5] at hA hval
  obtain ⟨v0, vs0, d0, ds0, p0, q0, hargs, rfl, rfl, h0, r0⟩ := trodAll_cons hA
  obtain ⟨v1, vs1, d1, ds1, p1, q1, rfl, rfl, rfl, h1, r1⟩ := trodAll_cons r0
  obtain ⟨v2, vs2, d2, ds2, p2, q2, rfl, rfl, rfl, h2, r2⟩ := trodAll_cons r1
  obtain ⟨rfl, rfl, rfl⟩ := trodAll_nil r2
  obtain rfl : args = #[v0, v1, v2] := by cases args; simp_all
  obtain ⟨rfl, rfl⟩ := trodVars_none hV
  have k0 : Wt Try.prog 34 d0 := fun n hn => (by have := List.all_eq_true.1 hsz n (DataW.weights_mem_each (j := 0) rfl rfl n hn); simpa using this)
  obtain ⟨a0, w0, u0⟩ := open_Ask (hval 0 34 v0 rfl rfl) h0 k0
  have k1 : Wt Try.prog 35 d1 := fun n hn => (by have := List.all_eq_true.1 hsz n (DataW.weights_mem_each (j := 1) rfl rfl n hn); simpa using this)
  obtain ⟨a1, w1, u1⟩ := open_probes (hval 1 35 v1 rfl rfl) h1 k1
  have k2 : Wt Try.prog 3 d2 := fun n hn => (by have := List.all_eq_true.1 hsz n (DataW.weights_mem_each (j := 2) rfl rfl n hn); simpa using this)
  obtain ⟨a2, w2, u2⟩ := open_I (hval 2 3 v2 rfl rfl) h2
  subst w2
  refine Calls.mono (law_ProbeAsks w0 u0 w1 u1 u2) fun e W' ⟨v, he, hv, H', hle, hs⟩ => ?_
  subst he; subst hv
  have kp := St.kept hle hs
  exact ⟨_, rfl, _, _, _, [], _, [], hW', trodAll_mk1 (shut_bool Try.underlying4 _), Kept.trodAll cl_laid kp (by rw [Try.params5]; intro t ht; simp only [List.mem_cons, List.not_mem_nil, or_false] at ht; rcases ht with rfl | rfl | rfl <;> exact ⟨by kernel_rfl, of_decide_eq_true (by kernel_rfl)⟩) hAk, rfl, kp.frame _, fun h => by cases h⟩
theorem closed_ProbeAsks : joinedFacts Try.prog 5 Try.f5 Rows.probeAsksSpec Rows.probeAsksRow = true := by
  unfold joinedFacts
  exact (band (band (band (band (band (band (band (band (band (band (band (band (band (band (band (band (band (band (band (band (band (band (band (band (band (band (band (band (band (band (band (by kernel_rfl) cl_laid) cl_maps) (by kernel_rfl)) (by kernel_rfl)) (by kernel_rfl)) (beqT cl_stops)) (by kernel_rfl)) (beqT cl_knobs)) (by kernel_rfl)) (by kernel_rfl)) (by kernel_rfl)) (by kernel_rfl)) (by kernel_rfl)) (by kernel_rfl)) (by kernel_rfl)) (by kernel_rfl)) (by kernel_rfl)) (by kernel_rfl)) (by kernel_rfl)) (by kernel_rfl)) (by kernel_rfl)) (beqT cl_keys.symm)) (by kernel_rfl)) cl_heard) cl_enter) (beqT cl_lifts.symm)) (beqT cl_make)) (by kernel_rfl)) (by kernel_rfl)) (by kernel_rfl)) (by kernel_rfl))
theorem proved_ProbeAsks : Rows.ProbeAsksSaid :=
  OpenClaim.holds_of_wide 5 Try.f5 rfl rfl rfl rfl rfl rfl rfl ⟨rfl, rfl, rfl, rfl, rfl⟩ rfl rfl rfl rfl rfl (by kernel_rfl) Try.func5 closed_ProbeAsks
    (of_decide_eq_true (by kernel_rfl)) (by unfold Func.isWrapper; first | (rw [if_pos (by decide +kernel)]; kernel_rfl) | (rw [if_neg (by decide +kernel)]; exact ⟨rfl, rfl⟩))
    (fun os started H enc _ => lifted_ProbeAsks os started H enc)
end Go.Proofs.Ytiiokdeehlfeeaa
