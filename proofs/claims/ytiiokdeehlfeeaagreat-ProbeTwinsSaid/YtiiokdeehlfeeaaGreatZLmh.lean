/-
  ProbeTwins holds for every input: CheckTwins and Meeting agree with the reference, for each question, all probes and twins, and Show returns twins with the greatest width, and their meeting; the statement's function returns true and never panics.
-/
import Derived.Test.YtiiokdeehlfeeaaGreatSf
import Derived.Test.YtiiokdeehlfeeaaGreatRows
import Derived.OpenShut
import Derived.ProofKit
import Derived.ShutString
import Derived.ChangeOld
namespace Go.Proofs.YtiiokdeehlfeeaaGreat
open Go.MW Go.ChangeShapes Go.WideShapes Go.ChangeAt Go.RowKit
theorem TwinF.sum {a : Quest} {l : List Prb} {A B : List Int} (hok : AskOk a) (h : TwinF a l A B) (hin : ∀ p ∈ l, PrbIn a p) : IntKind.i64.wrap (apartV a A B a.ws.length) = apartV a A B a.ws.length := by
  obtain ⟨lo, hi, hR⟩ := hok.range
  have hb := hR.bd
  obtain ⟨⟨x, y, g1, g2⟩, g3⟩ := h.most
  have h1 := Pair.le hR g1
  obtain ⟨z, hz⟩ := Pair.some hok hin
  have h2 := g3 z z hz
  exact i64wrap (by omega)
set_option maxHeartbeats 4000000 in
theorem law_ProbeTwins_walk {H : Heap} {w : World} {σ : List Ent} {v vl va vb : Value} {a : Quest} {l : List Prb} {A B : List Int} (hs : St H w σ) (hr : RAsk H v a) (hp : RPs H vl l) (hA : RI H va A) (hB : RI H vb B) (hln : l.length ≤ 17592186044415) :
    Cl Tryz.prog 4 [v, vl, .agg #[va, vb]] w fun v w' => v = .bool true ∧ ∃ H', HLe H H' ∧ St H' w' σ := by
  obtain ⟨ul, uw, rfl, hl, hw⟩ := hr
  obtain ⟨ap, cp, rfl⟩ := RPs.shape hp
  obtain ⟨aA, cA, rfl⟩ := RI.shape hA
  obtain ⟨aB, cB, rfl⟩ := RI.shape hB
  refine Cl.of Tryz.func4 rfl Tryz.ntmps4 (by simp) (args_cons (k := 0) rfl (args_cons (k := 1) rfl (args_cons (k := 2) rfl (args0)))) ?_
  refine .regSeq ?_
  refine .o (.box hs rfl rfl ?_); intro b3 w hs
  refine .o (.box hs rfl rfl ?_); intro b5 w hs
  refine .z zg (.nil (.regSeq (.y hs (zls [_, _, _, _] Tryz.isAgg27 Tryz.sizeOf27) (.z zm (.y hs (zls [_, _] Tryz.isAgg39 Tryz.sizeOf39) ?_)))))
  refine .o (.call Tryz.call16 rfl (probe_CheckTwins_spec (a := a) hs ⟨_, _, rfl, hl, hw⟩ hp hA hB) ?_); rintro _ w ⟨H1, n1, e1, hle1, rfl, hT1, hs⟩
  refine .z zm (.z zex (.z zex (.z zg (.z zg (.nil (.regSeq (.y hs (zls [_, _, _, _] Tryz.isAgg27 Tryz.sizeOf27) (.z zm (.y hs (zls [_, _] Tryz.isAgg39 Tryz.sizeOf39) ?_)))))))))
  refine .o (.call Tryz.call17 rfl (ref09_CheckTwins_spec (a := a) hs ⟨_, _, rfl, hl.mono hle1, hw.mono hle1⟩ (hp.mono hle1) (hA.mono hle1) (hB.mono hle1)) ?_); rintro _ w ⟨H2, n2, e2, hle2, rfl, hT2, hs⟩
  obtain ⟨rfl, rfl⟩ := hT2.uniq hT1
  have hle12 := hle1.trans hle2
  refine .z zm (.z zex (.z zex (.z zg (.z zg (.nil (.regSeq (.z zm (.y hs (zls [_, _] Tryz.isAgg39 Tryz.sizeOf39) ?_))))))))
  refine .o (.call Tryz.call18 rfl (probe_Meeting_spec hs (hp.mono hle12) (hA.mono hle12) (hB.mono hle12) hln) ?_); rintro _ w ⟨H3, vo3, e3, hle3, rfl, he3, hO3, hs⟩
  have hle13 := hle12.trans hle3
  obtain ⟨aO3, cO3, rfl⟩ := RI.shape hO3
  refine .z zm (.z zex (.z zex ?_))
  refine .o (.alloc hs Tryz.zeroValue42 rfl ?_); intro b11 w hs
  refine .o (.stores (vs := [_]) hs rfl rfl Tryz.sizeOf42 ?_); intro w hs
  refine .z zg (.nil (.regSeq (.z zm (.y hs (zls [_, _] Tryz.isAgg39 Tryz.sizeOf39) ?_))))
  refine .o (.call Tryz.call19 rfl (ref09_Meeting_spec hs (hp.mono hle13) (hA.mono hle13) (hB.mono hle13) hln) ?_); rintro _ w ⟨H4, vo4, e4, hle4, rfl, he4, hO4, hs⟩
  obtain rfl : e4 = e3 := by rw [he4, he3]
  have hle14 := hle13.trans hle4
  obtain ⟨aO4, cO4, rfl⟩ := RI.shape hO4
  refine .z zm (.z zex (.z zex ?_))
  refine .o (.alloc hs Tryz.zeroValue42 rfl ?_); intro b13 w hs
  refine .o (.stores (vs := [_]) hs rfl rfl Tryz.sizeOf42 ?_); intro w hs
  refine .z zg (.nil (.seq (.regSeq (.z zm (.z zm (.z zneq (.z zm ?_)))))))
  refine .bifN (t' := 53) rfl (fun hb53 => ?_) (fun hb53 => ?_)
  · refine .gFs 3 3 false rfl rfl rfl ?_
    refine .z zpT (.z zm ?_)
    refine .gFs 6 8 false rfl rfl rfl ?_
    refine .z zpT (.z zm ?_)
    refine .gFs 3 16 false rfl rfl rfl ?_
    refine .z zpT (.nil ?_)
    refine (.condT rfl rfl ?_)
    refine .regSeq (.z zg (.nil ?_))
    refine .ret (rT (Fin.ret1 Tryz.results4 rfl ?_))
    first
      | exact ⟨rfl, H9, hle19, hs.out⟩
      | (exfalso; first | omega | (simp_all; done))
      | (exfalso
         rcases hcase with ⟨h1, h2, h3, h4⟩ | ⟨h1, _⟩
         · subst h2; subst h3; subst h4; simp_all
         · first | omega | (simp_all; done))
  · refine .gT rfl rfl ?_
    refine .z zm ?_
    refine .gT rfl rfl ?_
    refine .z zm ?_
    refine .gT rfl rfl ?_
    refine .z zneq (.z zpF (.z zm ?_))
    refine .bifN (t' := 58) rfl (fun hb58 => ?_) (fun hb58 => ?_)
    · refine .gFs 6 8 false rfl rfl rfl ?_
      refine .z zpT (.z zm ?_)
      refine .gFs 3 16 false rfl rfl rfl ?_
      refine .z zpT (.nil ?_)
      refine (.condT rfl rfl ?_)
      refine .regSeq (.z zg (.nil ?_))
      refine .ret (rT (Fin.ret1 Tryz.results4 rfl ?_))
      first
        | exact ⟨rfl, H9, hle19, hs.out⟩
        | (exfalso; first | omega | (simp_all; done))
        | (exfalso
           rcases hcase with ⟨h1, h2, h3, h4⟩ | ⟨h1, _⟩
           · subst h2; subst h3; subst h4; simp_all
           · first | omega | (simp_all; done))
    · refine .gT rfl rfl ?_
      refine .z (zfa fa_api_Outcome_0) ?_
      refine .gT rfl rfl ?_
      refine .y hs (zld Tryz.isAgg25) ?_
      refine .gT rfl rfl ?_
      refine .z (zfa fa_api_Outcome_0) ?_
      refine .gT rfl rfl ?_
      refine .y hs (zld Tryz.isAgg25) ?_
      refine .gT rfl rfl ?_
      refine .o (.call Tryz.call20 rfl (ref02_Same_spec hs (hO3.mono hle4) hO4) ?_); rintro _ w ⟨rfl, hs⟩
      refine .gT rfl rfl ?_
      refine .z znot (.z zpF (.z zm ?_))
      refine .bif (t' := 66) rfl (fun hb66 => ?_) (fun hb66 => ?_)
      · refine .gFs 3 16 false rfl rfl rfl ?_
        refine .z zpT (.nil ?_)
        refine (.condT rfl rfl ?_)
        refine .regSeq (.z zg (.nil ?_))
        refine .ret (rT (Fin.ret1 Tryz.results4 rfl ?_))
        first
          | exact ⟨rfl, H9, hle19, hs.out⟩
          | (exfalso; first | omega | (simp_all; done))
          | (exfalso
             rcases hcase with ⟨h1, h2, h3, h4⟩ | ⟨h1, _⟩
             · subst h2; subst h3; subst h4; simp_all
             · first | omega | (simp_all; done))
      · refine .gT rfl rfl ?_
        refine .z zm ?_
        refine .gT rfl rfl ?_
        refine .z zm ?_
        refine .gT rfl rfl ?_
        refine .z zneq (.z zpF (.nil ?_))
        refine (.condN rfl (fun hc70 => ?_) (fun hc70 => ?_))
        · refine .regSeq (.z zg (.nil ?_))
          refine .ret (rT (Fin.ret1 Tryz.results4 rfl ?_))
          first
            | exact ⟨rfl, H9, hle19, hs.out⟩
            | (exfalso; first | omega | (simp_all; done))
            | (exfalso
               rcases hcase with ⟨h1, h2, h3, h4⟩ | ⟨h1, _⟩
               · subst h2; subst h3; subst h4; simp_all
               · first | omega | (simp_all; done))
        · refine .skip ?_
          refine nT ?_
          refine .regSeq (.y hs (zls [_, _, _, _] Tryz.isAgg27 Tryz.sizeOf27) (.z zm ?_))
          refine .o (.call Tryz.call21 rfl (probe_Show_spec (a := a) hs ⟨_, _, rfl, hl.mono hle14, hw.mono hle14⟩ (hp.mono hle14)) ?_); rintro _ w ⟨H5, va5, vb5, vo5, A5, B5, o5, e5, hle5, rfl, hA5, hB5, hO5, hSh, hs⟩
          have hle15 := hle14.trans hle5
          obtain ⟨aA5, cA5, rfl⟩ := RI.shape hA5
          obtain ⟨aB5, cB5, rfl⟩ := RI.shape hB5
          obtain ⟨aO5, cO5, rfl⟩ := RI.shape hO5
          refine .z zm (.z zex (.z zex (.z zex ?_)))
          refine .o (.alloc hs Tryz.zeroValue39 rfl ?_); intro b15 w hs
          refine .o (.alloc hs Tryz.zeroValue42 rfl ?_); intro b16 w hs
          refine .o (.stores (vs := [_, _]) hs rfl rfl Tryz.sizeOf39 ?_); intro w hs
          refine .o (.stores (vs := [_]) hs rfl rfl Tryz.sizeOf42 ?_); intro w hs
          refine .z zg (.nil (.regSeq (.y hs (zls [_, _, _, _] Tryz.isAgg27 Tryz.sizeOf27) (.z zm ?_))))
          refine .o (.call Tryz.call22 rfl (ref09_Worst_spec (a := a) hs ⟨_, _, rfl, hl.mono hle15, hw.mono hle15⟩ (hp.mono hle15)) ?_); rintro _ w ⟨H6, n6, e6, hle6, rfl, hW6, hs⟩
          have hle16 := hle15.trans hle6
          obtain ⟨rfl, hcase⟩ : e6 = e5 ∧ ((e5 ≠ 0 ∧ A5 = [] ∧ B5 = [] ∧ o5 = []) ∨ (e5 = 0 ∧ CPrbR a l 0 ∧ TwinF a l A5 B5 ∧ o5 = meetVals A5 B5 l ∧ PairS a l n6)) := by
            rcases hSh with ⟨h1, h2, h3, h4, h5⟩ | ⟨h1, h2, h3, h4⟩
            · rcases hW6 with ⟨g1, g2, _⟩ | ⟨g1, _⟩
              · exact ⟨g1.uniq h1, .inl ⟨h2, h3, h4, h5⟩⟩
              · exact (h2 (h1.uniq g1)).elim
            · rcases hW6 with ⟨g1, g2, _⟩ | ⟨g1, g2, g3⟩
              · exact (g2 (g1.uniq h1)).elim
              · exact ⟨by omega, .inr ⟨h2, h1, h3, h4, g3⟩⟩
          refine .z zm (.z zex (.z zex (.z zg (.z zg (.nil (.seq (.regSeq (.z zm (.z zm ?_)))))))))
          refine .z zneq (.nil ?_)
          refine (.condN rfl (fun hc86 => ?_) (fun hc86 => ?_))
          · refine .regSeq (.z zg (.nil ?_))
            refine .ret (rT (Fin.ret1 Tryz.results4 rfl ?_))
            first
              | exact ⟨rfl, H9, hle19, hs.out⟩
              | (exfalso; first | omega | (simp_all; done))
              | (exfalso
                 rcases hcase with ⟨h1, h2, h3, h4⟩ | ⟨h1, _⟩
                 · subst h2; subst h3; subst h4; simp_all
                 · first | omega | (simp_all; done))
          · refine .skip ?_
            refine nT ?_
            refine .seq (.regSeq (.z zm (.z zneq (.nil ?_))))
            refine (.condN rfl (fun hc88 => ?_) (fun hc88 => ?_))
            · refine .regSeq (.z (zfa fa_api_Twins_0) (.y hs (zld Tryz.isAgg25) (.z (zlen Tryz.runUnderlying25) (.z zeql (.z zm ?_)))))
              refine .bifD (t' := 93) rfl (fun hb93 => ?_) (fun hb93 => ?_)
              · refine .gT rfl rfl ?_
                refine .z (zfa fa_api_Twins_1) ?_
                refine .gT rfl rfl ?_
                refine .y hs (zld Tryz.isAgg25) ?_
                refine .gT rfl rfl ?_
                refine .z (zlen Tryz.runUnderlying25) ?_
                refine .gT rfl rfl ?_
                refine .z zeql (.z zpT (.z zm ?_))
                refine .bifD (t' := 99) rfl (fun hb99 => ?_) (fun hb99 => ?_)
                · refine .gT rfl rfl ?_
                  refine .z (zfa fa_api_Outcome_0) ?_
                  refine .gT rfl rfl ?_
                  refine .y hs (zld Tryz.isAgg25) ?_
                  refine .gT rfl rfl ?_
                  refine .z (zlen Tryz.runUnderlying25) ?_
                  refine .gT rfl rfl ?_
                  refine .z zeql (.z zpT (.z zm ?_))
                  refine .bifD (t' := 105) rfl (fun hb105 => ?_) (fun hb105 => ?_)
                  · refine .gT rfl rfl ?_
                    refine .o (.call Tryz.call15 rfl (law09_sane_spec hs) ?_); rintro _ w ⟨rfl, H9, hle9, hs⟩
                    have hle19 := hle16.trans hle9
                    refine .z zpT (.z zg (.nil ?_))
                    refine .ret (rT (Fin.ret1 Tryz.results4 rfl ?_))
                    first
                      | exact ⟨rfl, H9, hle19, hs.out⟩
                      | (exfalso; first | omega | (simp_all; done))
                      | (exfalso
                         rcases hcase with ⟨h1, h2, h3, h4⟩ | ⟨h1, _⟩
                         · subst h2; subst h3; subst h4; simp_all
                         · first | omega | (simp_all; done))
                  · refine .gFs 1 16 true rfl rfl rfl ?_
                    refine .z zpF (.z zg (.nil ?_))
                    refine .ret (rT (Fin.ret1 Tryz.results4 rfl ?_))
                    first
                      | exact ⟨rfl, H9, hle19, hs.out⟩
                      | (exfalso; first | omega | (simp_all; done))
                      | (exfalso
                         rcases hcase with ⟨h1, h2, h3, h4⟩ | ⟨h1, _⟩
                         · subst h2; subst h3; subst h4; simp_all
                         · first | omega | (simp_all; done))
                · refine .gFs 4 10 true rfl rfl rfl ?_
                  refine .z zpF (.z zm ?_)
                  refine .gFs 1 16 true rfl rfl rfl ?_
                  refine .z zpF (.z zg (.nil ?_))
                  refine .ret (rT (Fin.ret1 Tryz.results4 rfl ?_))
                  first
                    | exact ⟨rfl, H9, hle19, hs.out⟩
                    | (exfalso; first | omega | (simp_all; done))
                    | (exfalso
                       rcases hcase with ⟨h1, h2, h3, h4⟩ | ⟨h1, _⟩
                       · subst h2; subst h3; subst h4; simp_all
                       · first | omega | (simp_all; done))
              · refine .gFs 4 4 true rfl rfl rfl ?_
                refine .z zpF (.z zm ?_)
                refine .gFs 4 10 true rfl rfl rfl ?_
                refine .z zpF (.z zm ?_)
                refine .gFs 1 16 true rfl rfl rfl ?_
                refine .z zpF (.z zg (.nil ?_))
                refine .ret (rT (Fin.ret1 Tryz.results4 rfl ?_))
                first
                  | exact ⟨rfl, H9, hle19, hs.out⟩
                  | (exfalso; first | omega | (simp_all; done))
                  | (exfalso
                     rcases hcase with ⟨h1, h2, h3, h4⟩ | ⟨h1, _⟩
                     · subst h2; subst h3; subst h4; simp_all
                     · first | omega | (simp_all; done))
            · refine .skip ?_
              refine nT ?_
              refine .regSeq (.y hs (zls [_, _, _, _] Tryz.isAgg27 Tryz.sizeOf27) (.z zm (.y hs (zls [_, _] Tryz.isAgg39 Tryz.sizeOf39) ?_)))
              refine .o (.call Tryz.call17 rfl (ref09_CheckTwins_spec (a := a) hs ⟨_, _, rfl, hl.mono hle16, hw.mono hle16⟩ (hp.mono hle16) (hA5.mono hle6) (hB5.mono hle6)) ?_); rintro _ w ⟨H7, n7, e7, hle7, rfl, hT7, hs⟩
              have hle17 := hle16.trans hle7
              obtain ⟨hC0, hF, ho5, hPS⟩ : CPrbR a l 0 ∧ TwinF a l A5 B5 ∧ o5 = meetVals A5 B5 l ∧ PairS a l n6 := by
                rcases hcase with ⟨h1, _⟩ | ⟨_, h1, h2, h3, h4⟩
                · first | exact (h1 hc88).elim | (simp_all; done)
                · exact ⟨h1, h2, h3, h4⟩
              obtain ⟨hok, hlen, hin⟩ := hC0.zero
              obtain ⟨rfl, rfl⟩ : n7 = n6 ∧ e7 = 0 := by
                obtain ⟨q1, q2⟩ := hT7.uniq (.inr ⟨hC0, .ok hF.kA hF.kB hF.near⟩)
                rw [hF.sum hok (fun p h => (hin p h).inn)] at q1
                exact ⟨by rw [q1]; exact hF.most.uniq hPS, q2⟩
              refine .z zm (.z zex (.z zex (.z zg (.z zg (.nil (.regSeq (.z zm (.y hs (zls [_, _] Tryz.isAgg39 Tryz.sizeOf39) ?_))))))))
              refine .o (.call Tryz.call19 rfl (ref09_Meeting_spec hs (hp.mono hle17) (hA5.mono (hle6.trans hle7)) (hB5.mono (hle6.trans hle7)) hln) ?_); rintro _ w ⟨H8, vo8, e8, hle8, rfl, he8, hO8, hs⟩
              rw [hF.meet] at he8
              subst he8
              rw [if_pos rfl, ← ho5] at hO8
              have hle18 := hle17.trans hle8
              obtain ⟨aO8, cO8, rfl⟩ := RI.shape hO8
              refine .z zm (.z zex (.z zex ?_))
              refine .o (.alloc hs Tryz.zeroValue42 rfl ?_); intro b22 w hs
              refine .o (.stores (vs := [_]) hs rfl rfl Tryz.sizeOf42 ?_); intro w hs
              refine .z zg (.nil (.regSeq (.z zm (.z zeql (.z zm ?_)))))
              refine .bifD (t' := 123) rfl (fun hb123 => ?_) (fun hb123 => ?_)
              · refine .gT rfl rfl ?_
                refine .z zm ?_
                refine .gT rfl rfl ?_
                refine .z zm ?_
                refine .gT rfl rfl ?_
                refine .z zeql (.z zpT (.z zm ?_))
                refine .bifD (t' := 128) rfl (fun hb128 => ?_) (fun hb128 => ?_)
                · refine .gT rfl rfl ?_
                  refine .z zm ?_
                  refine .gT rfl rfl ?_
                  refine .z zeql (.z zpT (.z zm ?_))
                  refine .bifD (t' := 132) rfl (fun hb132 => ?_) (fun hb132 => ?_)
                  · refine .gT rfl rfl ?_
                    refine .z (zfa fa_api_Outcome_0) ?_
                    refine .gT rfl rfl ?_
                    refine .y hs (zld Tryz.isAgg25) ?_
                    refine .gT rfl rfl ?_
                    refine .z (zfa fa_api_Outcome_0) ?_
                    refine .gT rfl rfl ?_
                    refine .y hs (zld Tryz.isAgg25) ?_
                    refine .gT rfl rfl ?_
                    refine .o (.call Tryz.call20 rfl (ref02_Same_spec hs hO8 (hO5.mono (hle6.trans (hle7.trans hle8)))) ?_); rintro _ w ⟨rfl, hs⟩
                    refine .z zpT (.z zm ?_)
                    refine .bif (t' := 139) rfl (fun hb139 => ?_) (fun hb139 => ?_)
                    · refine .gT rfl rfl ?_
                      refine .o (.call Tryz.call15 rfl (law09_sane_spec hs) ?_); rintro _ w ⟨rfl, H9, hle9, hs⟩
                      have hle19 := hle18.trans hle9
                      refine .z zpT (.z zg (.nil ?_))
                      refine .ret (Fin.ret1 Tryz.results4 rfl ?_)
                      first
                        | exact ⟨rfl, H9, hle19, hs.out⟩
                        | (exfalso; first | omega | (simp_all; done))
                        | (exfalso
                           rcases hcase with ⟨h1, h2, h3, h4⟩ | ⟨h1, _⟩
                           · subst h2; subst h3; subst h4; simp_all
                           · first | omega | (simp_all; done))
                    · refine .gFs 1 18 true rfl rfl rfl ?_
                      refine .z zpF (.z zg (.nil ?_))
                      refine .ret (Fin.ret1 Tryz.results4 rfl ?_)
                      first
                        | exact ⟨rfl, H9, hle19, hs.out⟩
                        | (exfalso; first | omega | (simp_all; done))
                        | (exfalso
                           rcases hcase with ⟨h1, h2, h3, h4⟩ | ⟨h1, _⟩
                           · subst h2; subst h3; subst h4; simp_all
                           · first | omega | (simp_all; done))
                  · refine .gFs 5 11 true rfl rfl rfl ?_
                    refine .z zpF (.z zm ?_)
                    refine .gFs 1 18 true rfl rfl rfl ?_
                    refine .z zpF (.z zg (.nil ?_))
                    refine .ret (Fin.ret1 Tryz.results4 rfl ?_)
                    first
                      | exact ⟨rfl, H9, hle19, hs.out⟩
                      | (exfalso; first | omega | (simp_all; done))
                      | (exfalso
                         rcases hcase with ⟨h1, h2, h3, h4⟩ | ⟨h1, _⟩
                         · subst h2; subst h3; subst h4; simp_all
                         · first | omega | (simp_all; done))
                · refine .gFs 2 7 true rfl rfl rfl ?_
                  refine .z zpF (.z zm ?_)
                  refine .gFs 5 11 true rfl rfl rfl ?_
                  refine .z zpF (.z zm ?_)
                  refine .gFs 1 18 true rfl rfl rfl ?_
                  refine .z zpF (.z zg (.nil ?_))
                  refine .ret (Fin.ret1 Tryz.results4 rfl ?_)
                  first
                    | exact ⟨rfl, H9, hle19, hs.out⟩
                    | (exfalso; first | omega | (simp_all; done))
                    | (exfalso
                       rcases hcase with ⟨h1, h2, h3, h4⟩ | ⟨h1, _⟩
                       · subst h2; subst h3; subst h4; simp_all
                       · first | omega | (simp_all; done))
              · refine .gFs 3 2 true rfl rfl rfl ?_
                refine .z zpF (.z zm ?_)
                refine .gFs 2 7 true rfl rfl rfl ?_
                refine .z zpF (.z zm ?_)
                refine .gFs 5 11 true rfl rfl rfl ?_
                refine .z zpF (.z zm ?_)
                refine .gFs 1 18 true rfl rfl rfl ?_
                refine .z zpF (.z zg (.nil ?_))
                refine .ret (Fin.ret1 Tryz.results4 rfl ?_)
                first
                  | exact ⟨rfl, H9, hle19, hs.out⟩
                  | (exfalso; first | omega | (simp_all; done))
                  | (exfalso
                     rcases hcase with ⟨h1, h2, h3, h4⟩ | ⟨h1, _⟩
                     · subst h2; subst h3; subst h4; simp_all
                     · first | omega | (simp_all; done))
theorem law_ProbeTwins {W : World} {v0 v1 v2 : Value} {a0 : Quest} {a1 : List Prb} {a2 : List Int × List Int} (w0 : RAsk (hp W) v0 a0) (_ : a0.In) (w1 : RPs (hp W) v1 a1) (u1 : PrbsIn a1) (w2 : RTw (hp W) v2 a2) (_ : IsIn a2.1 ∧ IsIn a2.2) :
    Cl Tryz.prog 4 [v0, v1, v2] W fun v w' => v = .bool true ∧ ∃ H', HLe (hp W) H' ∧ St H' w' [] := by
  obtain ⟨va, vb, rfl, h1, h2⟩ := w2
  exact law_ProbeTwins_walk (St.start W) w0 w1 h1 h2 (by have := u1.1; omega)
set_option maxRecDepth 100000 in
theorem lifted_ProbeTwins (os : Os) (started : os.Started) (H : Type) (enc : TypeId × Value → H) :
    ReturnsInHanded {} Tryz.checked os 4 .any (Rows.probeTwinsSpec.pre6 enc Tryz.prog Tryz.f4 Rows.probeTwinsRow.domain false) (Rows.probeTwinsSpec.post enc Tryz.prog Tryz.f4 false true false false) := by
  refine returnsInHanded_of_change_sized (C := Tryz.checked) cl_own started (by kernel_rfl) Tryz.func4
    (ChangeSpec.witness6 (enc := enc) (C := Tryz.checked) false ⟨#[], #[.agg #[.int .i64 0, .slice none 0 0, .slice none 0 0, .int .i64 0], .slice none 0 0, .agg #[.slice none 0 0, .slice none 0 0]], []⟩ 8 (by kernel_rfl) (by kernel_rfl) (by kernel_rfl) (by kernel_rfl)) ?_
  intro W base args ds gs before hval0 hW hcnd hsz _
  have hval : ∀ (j : Nat) t v, Tryz.f4.params[j]? = some t → args[j]? = some v → Value.okWide Tryz.prog W .any base t v := hval0
  have hW' := hW
  obtain ⟨p, q, hA0, hV, rfl, hfz, hnd⟩ := hW
  have hA : DataW.TrodAll enc Tryz.prog W 0 (fun _ => true) true Tryz.f4.params.toList args.toList ds p := hA0
  have hAk := hA
  rw [Tryz.params4] at hA hval
  obtain ⟨v0, vs0, d0, ds0, p0, q0, hargs, rfl, rfl, h0, r0⟩ := trodAll_cons hA
  obtain ⟨v1, vs1, d1, ds1, p1, q1, rfl, rfl, rfl, h1, r1⟩ := trodAll_cons r0
  obtain ⟨v2, vs2, d2, ds2, p2, q2, rfl, rfl, rfl, h2, r2⟩ := trodAll_cons r1
  obtain ⟨rfl, rfl, rfl⟩ := trodAll_nil r2
  obtain rfl : args = #[v0, v1, v2] := by cases args; simp_all
  obtain ⟨rfl, rfl⟩ := trodVars_none hV
  have k0 : Wt Tryz.prog 27 d0 := fun n hn => (by have := List.all_eq_true.1 hsz n (DataW.weights_mem_each (j := 0) rfl rfl n hn); simpa using this)
  obtain ⟨a0, w0, u0⟩ := open_Ask (hval 0 27 v0 rfl rfl) h0 k0
  have k1 : Wt Tryz.prog 28 d1 := fun n hn => (by have := List.all_eq_true.1 hsz n (DataW.weights_mem_each (j := 1) rfl rfl n hn); simpa using this)
  obtain ⟨a1, w1, u1⟩ := open_probes (hval 1 28 v1 rfl rfl) h1 k1
  have k2 : Wt Tryz.prog 39 d2 := fun n hn => (by have := List.all_eq_true.1 hsz n (DataW.weights_mem_each (j := 2) rfl rfl n hn); simpa using this)
  obtain ⟨a2, w2, u2⟩ := open_Twins (hval 2 39 v2 rfl rfl) h2 k2
  refine Calls.mono (law_ProbeTwins w0 u0 w1 u1 w2 u2) fun e W' ⟨v, he, hv, H', hle, hs⟩ => ?_
  subst he; subst hv
  have kp := St.kept hle hs
  exact ⟨_, rfl, _, _, _, [], _, [], hW', trodAll_mk1 (shut_bool Tryz.underlying4 _), Kept.trodAll cl_laid kp (by rw [Tryz.params4]; intro t ht; simp only [List.mem_cons, List.not_mem_nil, or_false] at ht; rcases ht with rfl | rfl | rfl <;> exact ⟨by kernel_rfl, of_decide_eq_true (by kernel_rfl)⟩) hAk, rfl, kp.frame _, fun h => by cases h⟩
theorem closed_ProbeTwins : joinedFacts Tryz.prog 4 Tryz.f4 Rows.probeTwinsSpec Rows.probeTwinsRow = true := by
  unfold joinedFacts
  exact (band (band (band (band (band (band (band (band (band (band (band (band (band (band (band (band (band (band (band (band (band (band (band (band (band (band (band (band (band (band (band (by kernel_rfl) cl_laid) cl_maps) (by kernel_rfl)) (by kernel_rfl)) (by kernel_rfl)) (beqT cl_stops)) (by kernel_rfl)) (beqT cl_knobs)) (by kernel_rfl)) (by kernel_rfl)) (by kernel_rfl)) (by kernel_rfl)) (by kernel_rfl)) (by kernel_rfl)) (by kernel_rfl)) (by kernel_rfl)) (by kernel_rfl)) (by kernel_rfl)) (by kernel_rfl)) (by kernel_rfl)) (by kernel_rfl)) (beqT cl_keys.symm)) (by kernel_rfl)) cl_heard) cl_enter) (beqT cl_lifts.symm)) (beqT cl_make)) (by kernel_rfl)) (by kernel_rfl)) (by kernel_rfl)) (by kernel_rfl))
theorem proved_ProbeTwins : Rows.ProbeTwinsSaid :=
  OpenClaim.holds_of_wide 4 Tryz.f4 rfl rfl rfl rfl rfl rfl rfl ⟨rfl, rfl, rfl, rfl, rfl⟩ rfl rfl rfl rfl rfl (by kernel_rfl) Tryz.func4 closed_ProbeTwins
    (of_decide_eq_true (by kernel_rfl)) (by unfold Func.isWrapper; first | (rw [if_pos (by decide +kernel)]; kernel_rfl) | (rw [if_neg (by decide +kernel)]; exact ⟨rfl, rfl⟩))
    (fun os started H enc _ => lifted_ProbeTwins os started H enc)
end Go.Proofs.YtiiokdeehlfeeaaGreat
