/-
  ProbePairs holds for every input: Pairs and Worst agree with the reference, for each question and each list of probes, and the reference's checker accepts the proof; the statement's function returns true and never panics.
-/
import Derived.Test.YtiiokdeehlfeeaaKo
import Derived.Test.YtiiokdeehlfeeaaKc
import Derived.Test.YtiiokdeehlfeeaaKt
import Derived.Test.YtiiokdeehlfeeaaRows
import Derived.OpenShut
import Derived.ProofKit
import Derived.ShutString
import Derived.ChangeOld
/-
  ProbePairs holds for every input: Pairs and Worst agree with the reference, for each question and each list of probes, and the reference's checker accepts the proof; the statement's function returns true and never panics.
-/
namespace Go.Proofs.Ytiiokdeehlfeeaa
open Go.MW Go.ChangeShapes Go.WideShapes Go.ChangeAt Go.RowKit
theorem shown_proof {a : Quest} {l : List Prb} {n : Int} {us : List Use} (hok : AskOk a) (h : ShownR a l n us) : askErr (dblS a l) (dblW a.ws) = 0 ∧ ProofOk (dblS a l) (dblW a.ws) n us := by
  obtain ⟨_, h1, _, ts, h3, rfl, rfl⟩ := h
  refine ⟨askErr_zero h1 ?_ (dbl_sizes hok), flow_proof h1 h3⟩
  have h4 := hok.wl
  have h5 := hok.ok.m0
  rw [dblW_length]
  simp only [Syst.n, dblS] at h4 ⊢
  omega
theorem law_ProbePairs_walk {H : Heap} {w : World} {σ : List Ent} {v vl : Value} {a : Quest} {l : List Prb} (hs : St H w σ) (hr : RAsk H v a) (hp : RPs H vl l) :
    Cl Try.prog 4 [v, vl] w fun v w' => v = .bool true ∧ ∃ H', HLe H H' ∧ St H' w' σ := by
  obtain ⟨ul, uw, rfl, hl, hw⟩ := hr
  refine Cl.of Try.func4 rfl Try.ntmps4 (by simp) (args_cons (k := 0) rfl (args_cons (k := 1) rfl (args0))) ?_
  refine .regSeq ?_
  refine .o (.box hs rfl rfl ?_); intro b2 w hs
  refine .q hs (q_assign rfl) ?_
  refine .nil ?_
  refine .regSeq ?_
  first | refine .q hs (q_loads (vs := [_, _, _, _]) rfl Try.isAgg34 Try.sizeOf34) ?_ | refine .q hs (q_loadsR (vs := [_, _, _, _]) rfl Try.isAgg34 Try.sizeOf34 (by assumption)) ?_
  refine .q hs (q_move rfl) ?_
  refine .o (.call Try.call27 rfl (probe_Pairs_spec (a := a) hs ⟨_, _, rfl, hl, hw⟩ hp) ?_); rintro _ w ⟨H1, vp1, vw1, S, W, e1, hle1, rfl, g1, g2, hR1, hs⟩
  obtain ⟨a1, c1, rfl⟩ := RL.shape g1; obtain ⟨a2, c2, rfl⟩ := RI.shape g2
  refine .q hs (q_move rfl) ?_
  refine .q hs (q_extract rfl rfl) ?_
  refine .q hs (q_extract rfl rfl) ?_
  refine .q hs (q_extract rfl rfl) ?_
  refine .o (.alloc hs Try.zeroValue32 rfl ?_); intro b5 w hs
  refine .o (.stores (vs := [_, _]) hs rfl rfl Try.sizeOf32 ?_); intro w hs
  refine .q hs (q_assign rfl) ?_
  refine .q hs (q_assign rfl) ?_
  refine .nil ?_
  refine .regSeq ?_
  first | refine .q hs (q_loads (vs := [_, _, _, _]) rfl Try.isAgg34 Try.sizeOf34) ?_ | refine .q hs (q_loadsR (vs := [_, _, _, _]) rfl Try.isAgg34 Try.sizeOf34 (by assumption)) ?_
  refine .q hs (q_move rfl) ?_
  refine .o (.call Try.call28 rfl (ref09_Pairs_spec (a := a) hs ⟨_, _, rfl, hl.mono hle1, hw.mono hle1⟩ (hp.mono hle1)) ?_); rintro _ w ⟨H2, vp2, vw2, S2, W2, e2, hle2, rfl, g3, g4, hR2, hs⟩
  obtain ⟨rfl, rfl, rfl⟩ := hR2.uniq hR1
  obtain ⟨a3, c3, rfl⟩ := RL.shape g3; obtain ⟨a4, c4, rfl⟩ := RI.shape g4
  have hle12 := hle1.trans hle2
  refine .q hs (q_move rfl) ?_
  refine .q hs (q_extract rfl rfl) ?_
  refine .q hs (q_extract rfl rfl) ?_
  refine .q hs (q_extract rfl rfl) ?_
  refine .o (.alloc hs Try.zeroValue32 rfl ?_); intro b8 w hs
  refine .o (.stores (vs := [_, _]) hs rfl rfl Try.sizeOf32 ?_); intro w hs
  refine .q hs (q_assign rfl) ?_
  refine .q hs (q_assign rfl) ?_
  refine .nil ?_
  refine .regSeq ?_
  first | refine .q hs (q_loads (vs := [_, _, _, _]) rfl Try.isAgg34 Try.sizeOf34) ?_ | refine .q hs (q_loadsR (vs := [_, _, _, _]) rfl Try.isAgg34 Try.sizeOf34 (by assumption)) ?_
  refine .q hs (q_move rfl) ?_
  refine .o (.call Try.call23 rfl (probe_Worst_spec (a := a) hs ⟨_, _, rfl, hl.mono hle12, hw.mono hle12⟩ (hp.mono hle12)) ?_); rintro _ w ⟨H3, _, n, us, e3, hle3, rfl, ⟨vu, rfl, hU⟩, hcase, hs⟩
  obtain ⟨au, cu, rfl⟩ := RU.shape hU
  have hle13 := hle12.trans hle3
  have hW1 : WorstR a l n e3 := by
    rcases hcase with ⟨h1, h2, h3, _⟩ | ⟨h1, h2, h3⟩
    · exact .inl ⟨h1, h2, h3⟩
    · exact .inr ⟨h1, h2, h3.1⟩
  refine .q hs (q_move rfl) ?_
  refine .q hs (q_extract rfl rfl) ?_
  refine .q hs (q_extract rfl rfl) ?_
  refine .q hs (q_extract rfl rfl) ?_
  refine .o (.alloc hs Try.zeroValue40 rfl ?_); intro b12 w hs
  refine .q hs (q_assign rfl) ?_
  refine .o (.stores (vs := [_, _]) hs rfl rfl Try.sizeOf40 ?_); intro w hs
  refine .q hs (q_assign rfl) ?_
  refine .nil ?_
  refine .regSeq ?_
  first | refine .q hs (q_loads (vs := [_, _, _, _]) rfl Try.isAgg34 Try.sizeOf34) ?_ | refine .q hs (q_loadsR (vs := [_, _, _, _]) rfl Try.isAgg34 Try.sizeOf34 (by assumption)) ?_
  refine .q hs (q_move rfl) ?_
  refine .o (.call Try.call29 rfl (ref09_Worst_spec (a := a) hs ⟨_, _, rfl, hl.mono hle13, hw.mono hle13⟩ (hp.mono hle13)) ?_); rintro _ w ⟨H4, n2, e4, hle4, rfl, hW2, hs⟩
  obtain ⟨rfl, rfl⟩ := hW2.uniq hW1
  have hle14 := hle13.trans hle4
  refine .q hs (q_move rfl) ?_
  refine .q hs (q_extract rfl rfl) ?_
  refine .q hs (q_extract rfl rfl) ?_
  refine .q hs (q_assign rfl) ?_
  refine .q hs (q_assign rfl) ?_
  refine .nil ?_
  refine .seq ?_
  refine .regSeq ?_
  first | refine .q hs (q_loads (vs := [_, _]) rfl Try.isAgg32 Try.sizeOf32) ?_ | refine .q hs (q_loadsR (vs := [_, _]) rfl Try.isAgg32 Try.sizeOf32 (by assumption)) ?_
  first | refine .q hs (q_loads (vs := [_, _]) rfl Try.isAgg32 Try.sizeOf32) ?_ | refine .q hs (q_loadsR (vs := [_, _]) rfl Try.isAgg32 Try.sizeOf32 (by assumption)) ?_
  refine .o (.call Try.call30 rfl (ref02_SameSystem_spec (s1 := S2) (s2 := S2) hs ⟨_, rfl, g1.mono (hle2.trans (hle3.trans hle4))⟩ ⟨_, rfl, g3.mono (hle3.trans hle4)⟩) ?_); rintro _ w ⟨bs, rfl, hbs, hs⟩
  obtain rfl : bs = true := hbs.2 ⟨rfl, rfl⟩
  refine .q hs (q_not rfl) ?_
  refine .q hs (q_move rfl) ?_
  refine .bif (t' := 47) rfl (fun hb47 => ?_) (fun hb47 => ?_)
  · refine .gFs 4 4 false rfl rfl rfl ?_
    refine .q hs (q_pickT rfl rfl) ?_
    refine .q hs (q_move rfl) ?_
    refine .gFs 3 10 false rfl rfl rfl ?_
    refine .q hs (q_pickT rfl rfl) ?_
    refine .q hs (q_move rfl) ?_
    refine .gFs 3 15 false rfl rfl rfl ?_
    refine .q hs (q_pickT rfl rfl) ?_
    refine .q hs (q_move rfl) ?_
    refine .gFs 3 20 false rfl rfl rfl ?_
    refine .q hs (q_pickT rfl rfl) ?_
    refine .nil ?_
    refine (.condT rfl rfl ?_)
    refine .regSeq ?_
    refine .q hs (q_assign rfl) ?_
    refine .nil ?_
    refine .ret (rT (Fin.ret1 Try.results4 rfl ?_))
    first
      | (exfalso; first | omega | simp_all; done)
      | exact ⟨rfl, H5, hle14.trans hle5, hs.out⟩
      | (exfalso
         rcases hcase with ⟨_, _, h3, h4⟩ | ⟨_, h2, _⟩
         · first | (subst h4; simp_all; done) | omega
         · simp_all)
  · refine .gT rfl rfl ?_
    refine .q hs (q_move rfl) ?_
    refine .gT rfl rfl ?_
    refine .q hs (q_move rfl) ?_
    refine .gT rfl rfl ?_
    refine .o (.call Try.call31 rfl (ref02_Same_spec hs (g2.mono (hle2.trans (hle3.trans hle4))) (g4.mono (hle3.trans hle4))) ?_); rintro _ w ⟨rfl, hs⟩
    refine .gT rfl rfl ?_
    refine .q hs (q_not rfl) ?_
    refine .q hs (q_pickF rfl rfl) ?_
    refine .q hs (q_move rfl) ?_
    refine .bif (t' := 53) rfl (fun hb53 => ?_) (fun hb53 => ?_)
    · refine .gFs 3 10 false rfl rfl rfl ?_
      refine .q hs (q_pickT rfl rfl) ?_
      refine .q hs (q_move rfl) ?_
      refine .gFs 3 15 false rfl rfl rfl ?_
      refine .q hs (q_pickT rfl rfl) ?_
      refine .q hs (q_move rfl) ?_
      refine .gFs 3 20 false rfl rfl rfl ?_
      refine .q hs (q_pickT rfl rfl) ?_
      refine .nil ?_
      refine (.condT rfl rfl ?_)
      refine .regSeq ?_
      refine .q hs (q_assign rfl) ?_
      refine .nil ?_
      refine .ret (rT (Fin.ret1 Try.results4 rfl ?_))
      first
        | (exfalso; first | omega | simp_all; done)
        | exact ⟨rfl, H5, hle14.trans hle5, hs.out⟩
        | (exfalso
           rcases hcase with ⟨_, _, h3, h4⟩ | ⟨_, h2, _⟩
           · first | (subst h4; simp_all; done) | omega
           · simp_all)
    · refine .gT rfl rfl ?_
      refine .q hs (q_move rfl) ?_
      refine .gT rfl rfl ?_
      refine .q hs (q_move rfl) ?_
      refine .gT rfl rfl ?_
      refine .q hs (q_neq rfl rfl) ?_
      refine .q hs (q_pickF rfl rfl) ?_
      refine .q hs (q_move rfl) ?_
      refine .bifN (t' := 58) rfl (fun hb58 => ?_) (fun hb58 => ?_)
      · refine .gFs 3 15 false rfl rfl rfl ?_
        refine .q hs (q_pickT rfl rfl) ?_
        refine .q hs (q_move rfl) ?_
        refine .gFs 3 20 false rfl rfl rfl ?_
        refine .q hs (q_pickT rfl rfl) ?_
        refine .nil ?_
        refine (.condT rfl rfl ?_)
        refine .regSeq ?_
        refine .q hs (q_assign rfl) ?_
        refine .nil ?_
        refine .ret (rT (Fin.ret1 Try.results4 rfl ?_))
        first
          | (exfalso; first | omega | simp_all; done)
          | exact ⟨rfl, H5, hle14.trans hle5, hs.out⟩
          | (exfalso
             rcases hcase with ⟨_, _, h3, h4⟩ | ⟨_, h2, _⟩
             · first | (subst h4; simp_all; done) | omega
             · simp_all)
      · refine .gT rfl rfl ?_
        refine .q hs (q_move rfl) ?_
        refine .gT rfl rfl ?_
        refine .q hs (q_move rfl) ?_
        refine .gT rfl rfl ?_
        refine .q hs (q_neq rfl rfl) ?_
        refine .q hs (q_pickF rfl rfl) ?_
        refine .q hs (q_move rfl) ?_
        refine .bifN (t' := 63) rfl (fun hb63 => ?_) (fun hb63 => ?_)
        · refine .gFs 3 20 false rfl rfl rfl ?_
          refine .q hs (q_pickT rfl rfl) ?_
          refine .nil ?_
          refine (.condT rfl rfl ?_)
          refine .regSeq ?_
          refine .q hs (q_assign rfl) ?_
          refine .nil ?_
          refine .ret (rT (Fin.ret1 Try.results4 rfl ?_))
          first
            | (exfalso; first | omega | simp_all; done)
            | exact ⟨rfl, H5, hle14.trans hle5, hs.out⟩
            | (exfalso
               rcases hcase with ⟨_, _, h3, h4⟩ | ⟨_, h2, _⟩
               · first | (subst h4; simp_all; done) | omega
               · simp_all)
        · refine .gT rfl rfl ?_
          refine .q hs (q_move rfl) ?_
          refine .gT rfl rfl ?_
          refine .q hs (q_move rfl) ?_
          refine .gT rfl rfl ?_
          refine .q hs (q_neq rfl rfl) ?_
          refine .q hs (q_pickF rfl rfl) ?_
          refine .nil ?_
          refine (.condN rfl (fun hc67 => ?_) (fun hc67 => ?_))
          · refine .regSeq ?_
            refine .q hs (q_assign rfl) ?_
            refine .nil ?_
            refine .ret (rT (Fin.ret1 Try.results4 rfl ?_))
            first
              | (exfalso; first | omega | simp_all; done)
              | exact ⟨rfl, H5, hle14.trans hle5, hs.out⟩
              | (exfalso
                 rcases hcase with ⟨_, _, h3, h4⟩ | ⟨_, h2, _⟩
                 · first | (subst h4; simp_all; done) | omega
                 · simp_all)
          · refine .skip ?_
            refine nT ?_
            refine .seq ?_
            refine .regSeq ?_
            refine .q hs (q_move rfl) ?_
            refine .q hs (q_neq rfl rfl) ?_
            refine .nil ?_
            refine (.condN rfl (fun hc69 => ?_) (fun hc69 => ?_))
            · refine .regSeq ?_
              first | refine .q hs (q_fa0 rfl fa_api_Proof_1) ?_ | refine .q hs (q_fa rfl fa_api_Proof_1) ?_
              first | refine .q hs (q_load rfl Try.isAgg38) ?_ | refine .q hs (q_loadR rfl Try.isAgg38 (by assumption)) ?_
              first | refine .q hs (q_len rfl Try.runUnderlying38) ?_ | refine .q hs (q_lenR (by assumption) rfl Try.runUnderlying38) ?_ | refine .q hs (q_lenI (by assumption) rfl Try.runUnderlying38) ?_
              refine .q hs (q_eql rfl rfl) ?_
              refine .q hs (q_move rfl) ?_
              refine .bifD (t' := 74) rfl (fun hb74 => ?_) (fun hb74 => ?_)
              · refine .gT rfl rfl ?_
                first | refine .q hs (q_fa0 rfl fa_api_Proof_0) ?_ | refine .q hs (q_fa rfl fa_api_Proof_0) ?_
                refine .gT rfl rfl ?_
                first | refine .q hs (q_load rfl Try.isAgg3) ?_ | refine .q hs (q_loadR rfl Try.isAgg3 (by assumption)) ?_
                refine .gT rfl rfl ?_
                refine .q hs (q_eql rfl rfl) ?_
                refine .q hs (q_pickT rfl rfl) ?_
                refine .q hs (q_move rfl) ?_
                refine .bifD (t' := 79) rfl (fun hb79 => ?_) (fun hb79 => ?_)
                · refine .gT rfl rfl ?_
                  refine .o (.call Try.call26 rfl (law09_sane_spec hs) ?_); rintro _ w ⟨rfl, H5, hle5, hs⟩
                  refine .q hs (q_pickT rfl rfl) ?_
                  refine .q hs (q_assign rfl) ?_
                  refine .nil ?_
                  refine .ret (rT (Fin.ret1 Try.results4 rfl ?_))
                  first
                    | (exfalso; first | omega | simp_all; done)
                    | exact ⟨rfl, H5, hle14.trans hle5, hs.out⟩
                    | (exfalso
                       rcases hcase with ⟨_, _, h3, h4⟩ | ⟨_, h2, _⟩
                       · first | (subst h4; simp_all; done) | omega
                       · simp_all)
                · refine .gFs 1 9 true rfl rfl rfl ?_
                  refine .q hs (q_pickF rfl rfl) ?_
                  refine .q hs (q_assign rfl) ?_
                  refine .nil ?_
                  refine .ret (rT (Fin.ret1 Try.results4 rfl ?_))
                  first
                    | (exfalso; first | omega | simp_all; done)
                    | exact ⟨rfl, H5, hle14.trans hle5, hs.out⟩
                    | (exfalso
                       rcases hcase with ⟨_, _, h3, h4⟩ | ⟨_, h2, _⟩
                       · first | (subst h4; simp_all; done) | omega
                       · simp_all)
              · refine .gFs 3 4 true rfl rfl rfl ?_
                refine .q hs (q_pickF rfl rfl) ?_
                refine .q hs (q_move rfl) ?_
                refine .gFs 1 9 true rfl rfl rfl ?_
                refine .q hs (q_pickF rfl rfl) ?_
                refine .q hs (q_assign rfl) ?_
                refine .nil ?_
                refine .ret (rT (Fin.ret1 Try.results4 rfl ?_))
                first
                  | (exfalso; first | omega | simp_all; done)
                  | exact ⟨rfl, H5, hle14.trans hle5, hs.out⟩
                  | (exfalso
                     rcases hcase with ⟨_, _, h3, h4⟩ | ⟨_, h2, _⟩
                     · first | (subst h4; simp_all; done) | omega
                     · simp_all)
            · refine .skip ?_
              refine nT ?_
              refine .regSeq ?_
              first | refine .q hs (q_fa0 rfl fa_api_Proof_0) ?_ | refine .q hs (q_fa rfl fa_api_Proof_0) ?_
              first | refine .q hs (q_load rfl Try.isAgg3) ?_ | refine .q hs (q_loadR rfl Try.isAgg3 (by assumption)) ?_
              refine .q hs (q_move rfl) ?_
              refine .q hs (q_eql rfl rfl) ?_
              refine .q hs (q_move rfl) ?_
              refine .bifD (t' := 86) rfl (fun hb86 => ?_) (fun hb86 => ?_)
              · refine .gT rfl rfl ?_
                first | refine .q hs (q_loads (vs := [_, _]) rfl Try.isAgg32 Try.sizeOf32) ?_ | refine .q hs (q_loadsR (vs := [_, _]) rfl Try.isAgg32 Try.sizeOf32 (by assumption)) ?_
                refine .gT rfl rfl ?_
                refine .q hs (q_move rfl) ?_
                refine .gT rfl rfl ?_
                first | refine .q hs (q_loads (vs := [_, _]) rfl Try.isAgg40 Try.sizeOf40) ?_ | refine .q hs (q_loadsR (vs := [_, _]) rfl Try.isAgg40 Try.sizeOf40 (by assumption)) ?_
                refine .gT rfl rfl ?_
                have h0 : e4 = 0 := by simpa using hc69
                subst h0
                obtain ⟨hC, hSh⟩ : CPrbR a l 0 ∧ ShownR a l n2 us := by
                  rcases hcase with ⟨_, h2, _⟩ | ⟨h1, _, h3⟩
                  · exact (h2 rfl).elim
                  · exact ⟨h1, h3⟩
                obtain ⟨rfl, rfl⟩ : S2 = dblS a l ∧ W2 = dblW a.ws := by
                  rcases hR1 with ⟨h1, h2, _⟩ | ⟨_, _, h3, h4⟩
                  · exact (h2 (h1.uniq hC)).elim
                  · exact ⟨h3, h4⟩
                obtain ⟨hA, hPk⟩ := shown_proof hC.zero.1 hSh
                refine .o (.call Try.call32 rfl (ref02_CheckProof_spec (s := dblS a l) (n := n2) (us := us) hs ⟨_, rfl, g3.mono (hle3.trans hle4)⟩ (g4.mono (hle3.trans hle4)) ⟨_, rfl, hU.mono hle4⟩) ?_); rintro _ w ⟨e5, rfl, hPf, hs⟩
                obtain rfl : e5 = 0 := hPf.uniq (.ok hA hPk)
                refine .gT rfl rfl ?_
                refine .q hs (q_eql rfl rfl) ?_
                refine .q hs (q_pickT rfl rfl) ?_
                refine .q hs (q_move rfl) ?_
                refine .bifD (t' := 93) rfl (fun hb93 => ?_) (fun hb93 => ?_)
                · refine .gT rfl rfl ?_
                  refine .o (.call Try.call26 rfl (law09_sane_spec hs) ?_); rintro _ w ⟨rfl, H5, hle5, hs⟩
                  refine .q hs (q_pickT rfl rfl) ?_
                  refine .q hs (q_assign rfl) ?_
                  refine .nil ?_
                  refine .ret (Fin.ret1 Try.results4 rfl ?_)
                  first
                    | (exfalso; first | omega | simp_all; done)
                    | exact ⟨rfl, H5, hle14.trans hle5, hs.out⟩
                    | (exfalso
                       rcases hcase with ⟨_, _, h3, h4⟩ | ⟨_, h2, _⟩
                       · first | (subst h4; simp_all; done) | omega
                       · simp_all)
                · refine .gFs 1 11 true rfl rfl rfl ?_
                  refine .q hs (q_pickF rfl rfl) ?_
                  refine .q hs (q_assign rfl) ?_
                  refine .nil ?_
                  refine .ret (Fin.ret1 Try.results4 rfl ?_)
                  first
                    | (exfalso; first | omega | simp_all; done)
                    | exact ⟨rfl, H5, hle14.trans hle5, hs.out⟩
                    | (exfalso
                       rcases hcase with ⟨_, _, h3, h4⟩ | ⟨_, h2, _⟩
                       · first | (subst h4; simp_all; done) | omega
                       · simp_all)
              · refine .gFs 5 4 true rfl rfl rfl ?_
                refine .q hs (q_pickF rfl rfl) ?_
                refine .q hs (q_move rfl) ?_
                refine .gFs 1 11 true rfl rfl rfl ?_
                refine .q hs (q_pickF rfl rfl) ?_
                refine .q hs (q_assign rfl) ?_
                refine .nil ?_
                refine .ret (Fin.ret1 Try.results4 rfl ?_)
                first
                  | (exfalso; first | omega | simp_all; done)
                  | exact ⟨rfl, H5, hle14.trans hle5, hs.out⟩
                  | (exfalso
                     rcases hcase with ⟨_, _, h3, h4⟩ | ⟨_, h2, _⟩
                     · first | (subst h4; simp_all; done) | omega
                     · simp_all)
theorem law_ProbePairs {W : World} {v0 v1 : Value} {a0 : Quest} {a1 : List Prb} (w0 : RAsk (hp W) v0 a0) (_ : a0.In) (w1 : RPs (hp W) v1 a1) (_ : PrbsIn a1) :
    Cl Try.prog 4 [v0, v1] W fun v w' => v = .bool true ∧ ∃ H', HLe (hp W) H' ∧ St H' w' [] := law_ProbePairs_walk (St.start W) w0 w1
set_option maxRecDepth 100000 in
theorem lifted_ProbePairs (os : Os) (started : os.Started) (H : Type) (enc : TypeId × Value → H) :
    ReturnsInHanded {} Try.checked os 4 .any (Rows.probePairsSpec.pre6 enc Try.prog Try.f4 Rows.probePairsRow.domain false) (Rows.probePairsSpec.post enc Try.prog Try.f4 false true false false) := by
  refine returnsInHanded_of_change_sized (C := Try.checked) cl_own started (by kernel_rfl) Try.func4
    (ChangeSpec.witness6 (enc := enc) (C := Try.checked) false ⟨#[], #[.agg #[.int .i64 0, .slice none 0 0, .slice none 0 0, .int .i64 0], .slice none 0 0], []⟩ 8 (by kernel_rfl) (by kernel_rfl) (by kernel_rfl) (by kernel_rfl)) ?_
  intro W base args ds gs before hval0 hW hcnd hsz _
  have hval : ∀ (j : Nat) t v, Try.f4.params[j]? = some t → args[j]? = some v → Value.okWide Try.prog W .any base t v := hval0
  have hW' := hW
  obtain ⟨p, q, hA0, hV, rfl, hfz, hnd⟩ := hW
  have hA : DataW.TrodAll enc Try.prog W 0 (fun _ => true) true Try.f4.params.toList args.toList ds p := hA0
  have hAk := hA
  rw [Try.params4] at hA hval
  obtain ⟨v0, vs0, d0, ds0, p0, q0, hargs, rfl, rfl, h0, r0⟩ := trodAll_cons hA
  obtain ⟨v1, vs1, d1, ds1, p1, q1, rfl, rfl, rfl, h1, r1⟩ := trodAll_cons r0
  obtain ⟨rfl, rfl, rfl⟩ := trodAll_nil r1
  obtain rfl : args = #[v0, v1] := by cases args; simp_all
  obtain ⟨rfl, rfl⟩ := trodVars_none hV
  have k0 : Wt Try.prog 34 d0 := fun n hn => (by have := List.all_eq_true.1 hsz n (DataW.weights_mem_each (j := 0) rfl rfl n hn); simpa using this)
  obtain ⟨a0, w0, u0⟩ := open_Ask (hval 0 34 v0 rfl rfl) h0 k0
  have k1 : Wt Try.prog 35 d1 := fun n hn => (by have := List.all_eq_true.1 hsz n (DataW.weights_mem_each (j := 1) rfl rfl n hn); simpa using this)
  obtain ⟨a1, w1, u1⟩ := open_probes (hval 1 35 v1 rfl rfl) h1 k1
  refine Calls.mono (law_ProbePairs w0 u0 w1 u1) fun e W' ⟨v, he, hv, H', hle, hs⟩ => ?_
  subst he; subst hv
  have kp := St.kept hle hs
  exact ⟨_, rfl, _, _, _, [], _, [], hW', trodAll_mk1 (shut_bool Try.underlying4 _), Kept.trodAll cl_laid kp (by rw [Try.params4]; intro t ht; simp only [List.mem_cons, List.not_mem_nil, or_false] at ht; rcases ht with rfl | rfl <;> exact ⟨by kernel_rfl, of_decide_eq_true (by kernel_rfl)⟩) hAk, rfl, kp.frame _, fun h => by cases h⟩
theorem closed_ProbePairs : joinedFacts Try.prog 4 Try.f4 Rows.probePairsSpec Rows.probePairsRow = true := by
  unfold joinedFacts
  exact (band (band (band (band (band (band (band (band (band (band (band (band (band (band (band (band (band (band (band (band (band (band (band (band (band (band (band (band (band (band (band (by kernel_rfl) cl_laid) cl_maps) (by kernel_rfl)) (by kernel_rfl)) (by kernel_rfl)) (beqT cl_stops)) (by kernel_rfl)) (beqT cl_knobs)) (by kernel_rfl)) (by kernel_rfl)) (by kernel_rfl)) (by kernel_rfl)) (by kernel_rfl)) (by kernel_rfl)) (by kernel_rfl)) (by kernel_rfl)) (by kernel_rfl)) (by kernel_rfl)) (by kernel_rfl)) (by kernel_rfl)) (by kernel_rfl)) (beqT cl_keys.symm)) (by kernel_rfl)) cl_heard) cl_enter) (beqT cl_lifts.symm)) (beqT cl_make)) (by kernel_rfl)) (by kernel_rfl)) (by kernel_rfl)) (by kernel_rfl))
theorem proved_ProbePairs : Rows.ProbePairsSaid :=
  OpenClaim.holds_of_wide 4 Try.f4 rfl rfl rfl rfl rfl rfl rfl ⟨rfl, rfl, rfl, rfl, rfl⟩ rfl rfl rfl rfl rfl (by kernel_rfl) Try.func4 closed_ProbePairs
    (of_decide_eq_true (by kernel_rfl)) (by unfold Func.isWrapper; first | (rw [if_pos (by decide +kernel)]; kernel_rfl) | (rw [if_neg (by decide +kernel)]; exact ⟨rfl, rfl⟩))
    (fun os started H enc _ => lifted_ProbePairs os started H enc)
end Go.Proofs.Ytiiokdeehlfeeaa
