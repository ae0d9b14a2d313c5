/-
  ProbeMore holds for every input: the statement's function returns true and never panics, for each case and each two numbers that choose a probe.
-/
import Derived.Test.YtiiokdeehlfeeaaKo
import Derived.Test.YtiiokdeehlfeeaaKd
import Derived.Test.YtiiokdeehlfeeaaRows
import Derived.OpenShut
import Derived.ProofKit
import Derived.ShutString
import Derived.ChangeOld
/-
  Walk: the statement ProbeMore.
-/
namespace Go.Proofs.Ytiiokdeehlfeeaa
open Go.MW
theorem made_worst {a : Quest} {l : List Prb} {n e : Int} {us : List Use} (hM : MadeQ a) (hl : l.length ≤ 8) (hp : ∀ p ∈ l, PrbIn a p) (h : (CPrbR a l e ∧ e ≠ 0 ∧ n = 0 ∧ us = []) ∨ (CPrbR a l 0 ∧ e = 0 ∧ ShownR a l n us)) : e = 0 ∧ ShownR a l n us := by
  rcases h with ⟨h1, h2, _⟩ | ⟨_, h1, h2⟩
  · exact (h2 (h1.uniq (hM.prbs hl hp))).elim
  · exact ⟨h1, h2⟩
theorem made_width {a : Quest} {n e : Int} (hM : MadeQ a) (h : WidthR a n e) : e = 0 ∧ ∃ lo hi, RangeR a.sys a.ws lo hi 0 ∧ n = hi - lo := by
  rcases h with ⟨h1, h2, _⟩ | ⟨_, h1, h2⟩
  · exact (h2 (h1.uniq (CAskR.zero.2 hM.ask))).elim
  · exact ⟨h1, h2⟩
/-- all unknowns, with the tolerance 0 -/
def exactL (k : Nat) : List Prb := (List.range k).map fun u : Nat => ⟨(u : Int) + 1, 0⟩
theorem exactL_snoc (k : Nat) : exactL (k + 1) = exactL k ++ [⟨(k : Int) + 1, 0⟩] := by simp [exactL, List.range_succ]
theorem exactL_length (k : Nat) : (exactL k).length = k := by simp [exactL]
theorem exactL_in {a : Quest} {k : Nat} (h : (k : Int) ≤ a.sys.many) {p : Prb} (hp : p ∈ exactL k) : PrbIn a p := by
  simp only [exactL, List.mem_map, List.mem_range] at hp
  obtain ⟨u, hu, rfl⟩ := hp
  unfold PrbIn; simp only; omega
theorem set_near {l : List Prb} {i : Nat} {p : Prb} {t : Int} (hp : l[i]? = some p) (ht : t ≤ p.t) {x y : Nat → Int} (h : Near (l.set i ⟨p.u, t⟩) x y) : Near l x y := fun q hq => by
  obtain ⟨j, hj⟩ := List.getElem?_of_mem hq
  by_cases e : j = i
  · subst e
    rw [hp] at hj; cases hj
    have := h ⟨p.u, t⟩ (List.mem_of_getElem? (i := j) (by rw [List.getElem?_set_self (List.getElem?_eq_some_iff.1 hp).1]))
    simp only at this; omega
  · exact h q (List.mem_of_getElem? (i := j) (by rw [List.getElem?_set_ne (Ne.symm e)]; exact hj))
theorem set_in {a : Quest} {l : List Prb} {i : Nat} {p : Prb} {t : Int} (hl : ∀ q ∈ l, PrbIn a q) (hp : p ∈ l) (ht : 0 ≤ t ∧ t ≤ p.t) {q : Prb} (hq : q ∈ l.set i ⟨p.u, t⟩) : PrbIn a q := by
  rcases List.mem_or_eq_of_mem_set hq with h | rfl
  · exact hl q h
  · have := hl p hp
    unfold PrbIn at this ⊢; simp only; omega
theorem Prbs_split {l : List Prb} {i : Nat} {p : Prb} (hp : l[i]? = some p) (q : Prb) (sp : List Value) : (Prbs l ++ sp).set (i * 2 + 1) (I q.t) = Prbs (l.set i ⟨p.u, q.t⟩) ++ sp := by
  induction l generalizing i with
  | nil => simp at hp
  | cons r l ih =>
    cases i with
    | zero =>
      simp only [List.getElem?_cons_zero, Option.some.injEq] at hp
      subst hp
      rfl
    | succ i =>
      have := ih (i := i) (by simpa using hp)
      rw [show (i + 1) * 2 + 1 = (i * 2 + 1) + 1 + 1 by omega]
      simp only [Prbs, List.map_cons, List.flatten_cons, List.set_cons_succ, Prb.c, List.cons_append, List.nil_append] at this ⊢
      rw [this]
set_option maxHeartbeats 4000000 in
theorem law_ProbeMore_walk {W : World} {σ : List Ent} {cs : List Value} {c : Case} {n0 n1 : Int} (hs : St (hp W) W σ) (hr : RCase (hp W) cs c) (hin : c.raw.In) :
    Cl Try.prog 3 [.agg cs.toArray, .agg #[I n0, I n1]] W fun v w' => v = .bool true ∧ ∃ H', HLe (hp W) H' ∧ St H' w' σ := by
  generalize hH : hp W = H at hs hr ⊢
  clear hH
  generalize W = w at hs ⊢
  obtain ⟨rs, vp, rfl, hrr, hp⟩ := hr
  have hrr' := hrr
  obtain ⟨vh, vl, vw, rfl, h1, h2, h3⟩ := hrr'
  have hM := madeQ_made c.raw
  have hN := mN_bd c.raw
  generalize hq : madeQ c.raw = a at hM
  have hmany : a.sys.many = (mN c.raw : Int) := by rw [← hq]; rfl
  have hPl := fun p => prbsOf_in (a := a) hM.many.1 (l := c.prbs) (most := 5) (p := p)
  have hPn : (prbsOf a.sys.many c.prbs 5).length ≤ 5 := by rw [prbsOf_len]; omega
  rw [hmany] at hPl hPn
  generalize hl : prbsOf (mN c.raw : Int) c.prbs 5 = l at hPl hPn
  refine Cl.of Try.func3 rfl Try.ntmps3 (by simp) (args_cons (k := 0) rfl (args_cons (k := 1) rfl (args0))) ?_
  refine .regSeq ?_
  refine .o (.box hs rfl rfl ?_); intro b2 w hs
  refine .o (.box hs rfl rfl ?_); intro b3 w hs
  refine .q hs (q_assign rfl) ?_
  refine .nil ?_
  obtain ⟨H0, hle0, r3, hs⟩ := hs.publish (b := b3) (by repeat constructor)
  have hA : RI H0 (.slice (some ⟨b3, 0, none⟩) 2 2) [n0, n1] := Row.RI (xs := [n0, n1]) (spare := []) r3 2 (by simp) (by simp)
  have hA1 : RI H0 (.slice (some ⟨b3, 0 + 1, none⟩) (2 - 1) (2 - 1)) [n1] := by
    have := hA.tail (k := 1) (by decide)
    simpa [addr_add] using this
  refine .regSeq ?_
  first | refine .q hs (q_loads (vs := [_, _, _, _, _]) rfl Try.isAgg28 Try.sizeOf28) ?_ | refine .q hs (q_loadsR (vs := [_, _, _, _, _]) rfl Try.isAgg28 Try.sizeOf28 (by assumption)) ?_
  refine .o (.call Try.call22 rfl (law09_made_spec (most := 5) hs ⟨[_, _, _, _], _, rfl, ⟨_, _, _, rfl, h1.mono hle0, h2.mono hle0, h3.mono hle0⟩, hp.mono hle0⟩ hin (by decide)) ?_); rintro _ w ⟨H1, va, vP, hle1, rfl, hRA, hRP, hs⟩
  rw [hq] at hRA; rw [hl] at hRP
  obtain ⟨ul, uw, rfl, g1, g2⟩ := hRA
  obtain ⟨aul, cul, rfl⟩ := RL.shape g1
  obtain ⟨auw, cuw, rfl⟩ := RI.shape g2
  obtain ⟨aP, cP, rfl⟩ := RPs.shape hRP
  have hlcap := (RPs.len hRP).2.1
  refine .q hs (q_move rfl) ?_
  refine .q hs (q_extract rfl rfl) ?_
  refine .q hs (q_extract rfl rfl) ?_
  refine .o (.alloc hs Try.zeroValue34 rfl ?_); intro b5 w hs
  refine .o (.stores (vs := [_, _, _, _]) hs rfl rfl Try.sizeOf34 ?_); intro w hs
  refine .q hs (q_assign rfl) ?_
  refine .nil ?_
  refine .regSeq ?_
  first | refine .q hs (q_loads (vs := [_, _, _, _]) rfl Try.isAgg34 Try.sizeOf34) ?_ | refine .q hs (q_loadsR (vs := [_, _, _, _]) rfl Try.isAgg34 Try.sizeOf34 (by assumption)) ?_
  refine .q hs (q_move rfl) ?_
  refine .o (.call Try.call23 rfl (probe_Worst_spec (a := a) hs ⟨_, _, rfl, g1, g2⟩ hRP) ?_); rintro _ w ⟨H2, _, m1, us1, e1, hle2, rfl, ⟨vu1, rfl, hU1⟩, hcase, hs⟩
  obtain ⟨rfl, ⟨hS1, -⟩⟩ := made_worst hM (by omega) hPl hcase
  obtain ⟨au1, cu1, rfl⟩ := RU.shape hU1
  replace g1 := g1.mono hle2; replace g2 := g2.mono hle2; replace hRP := hRP.mono hle2; replace hA := (hA.mono hle1).mono hle2; replace hA1 := (hA1.mono hle1).mono hle2
  refine .q hs (q_move rfl) ?_
  refine .q hs (q_extract rfl rfl) ?_
  refine .q hs (q_extract rfl rfl) ?_
  refine .q hs (q_extract rfl rfl) ?_
  refine .o (.alloc hs Try.zeroValue40 rfl ?_); intro b8 w hs
  refine .q hs (q_assign rfl) ?_
  refine .o (.stores (vs := [_, _]) hs rfl rfl Try.sizeOf40 ?_); intro w hs
  refine .q hs (q_assign rfl) ?_
  refine .nil ?_
  refine .regSeq ?_
  first | refine .q hs (q_loads (vs := [_, _, _, _]) rfl Try.isAgg34 Try.sizeOf34) ?_ | refine .q hs (q_loadsR (vs := [_, _, _, _]) rfl Try.isAgg34 Try.sizeOf34 (by assumption)) ?_
  refine .o (.call Try.call23 rfl (probe_Worst_spec (a := a) (l := []) hs ⟨_, _, rfl, g1, g2⟩ (RS.nil _ 2 none 0)) ?_); rintro _ w ⟨H3, _, m2, us2, e2, hle3, rfl, ⟨vu2, rfl, hU2⟩, hcase, hs⟩
  obtain ⟨rfl, ⟨hS2, -⟩⟩ := made_worst hM (by simp) (fun p h => by cases h) hcase
  obtain ⟨au2, cu2, rfl⟩ := RU.shape hU2
  replace g1 := g1.mono hle3; replace g2 := g2.mono hle3; replace hRP := hRP.mono hle3; replace hA := hA.mono hle3; replace hA1 := hA1.mono hle3
  refine .q hs (q_move rfl) ?_
  refine .q hs (q_extract rfl rfl) ?_
  refine .q hs (q_extract rfl rfl) ?_
  refine .q hs (q_extract rfl rfl) ?_
  refine .o (.alloc hs Try.zeroValue40 rfl ?_); intro b11 w hs
  refine .q hs (q_assign rfl) ?_
  refine .o (.stores (vs := [_, _]) hs rfl rfl Try.sizeOf40 ?_); intro w hs
  refine .q hs (q_assign rfl) ?_
  refine .nil ?_
  refine .regSeq ?_
  first | refine .q hs (q_loads (vs := [_, _, _, _]) rfl Try.isAgg34 Try.sizeOf34) ?_ | refine .q hs (q_loadsR (vs := [_, _, _, _]) rfl Try.isAgg34 Try.sizeOf34 (by assumption)) ?_
  refine .o (.call Try.call24 rfl (probe_Width_spec (a := a) hs ⟨_, _, rfl, g1, g2⟩) ?_); rintro _ w ⟨H4, m3, e3, hle4, rfl, hW, hs⟩
  obtain ⟨rfl, lo, hi, hRR, rfl⟩ := made_width hM hW
  obtain rfl := hS2.nil hRR
  have hle12 : m1 ≤ hi - lo := PairS.mono (fun x y _ p h => by cases h) hS1 hS2
  replace g1 := g1.mono hle4; replace g2 := g2.mono hle4; replace hRP := hRP.mono hle4; replace hA := hA.mono hle4; replace hA1 := hA1.mono hle4
  have hle04 := hle0.trans (hle1.trans (hle2.trans (hle3.trans hle4)))
  refine .q hs (q_move rfl) ?_
  refine .q hs (q_extract rfl rfl) ?_
  refine .q hs (q_extract rfl rfl) ?_
  refine .q hs (q_assign rfl) ?_
  refine .q hs (q_assign rfl) ?_
  refine .nil ?_
  refine .seq ?_
  refine .regSeq ?_
  refine .q hs (q_move rfl) ?_
  refine .q hs (q_neq rfl rfl) ?_
  refine .q hs (q_move rfl) ?_
  refine .bifN (t' := 54) rfl (fun hb54 => ?_) (fun hb54 => ?_)
  · refine .gFs 2 2 false rfl rfl rfl ?_
    refine .q hs (q_pickT rfl rfl) ?_
    refine .q hs (q_move rfl) ?_
    refine .gFs 2 6 false rfl rfl rfl ?_
    refine .q hs (q_pickT rfl rfl) ?_
    refine .q hs (q_move rfl) ?_
    refine .gFs 3 10 false rfl rfl rfl ?_
    refine .q hs (q_pickT rfl rfl) ?_
    refine .q hs (q_move rfl) ?_
    refine .gFs 3 15 false rfl rfl rfl ?_
    refine .q hs (q_pickT rfl rfl) ?_
    refine .nil ?_
    refine (.condT rfl rfl ?_)
    refine .regSeq ?_
    refine .q hs (q_assign rfl) ?_
    refine .nil ?_
    refine .ret (rT (Fin.ret1 Try.results3 rfl ?_))
    first | (exfalso; first | omega | simp_all; done) | exact ⟨rfl, H8, hle04.trans (hle5.trans (hle6.trans (hle7.trans hle8))), hs.out⟩
  · refine .gT rfl rfl ?_
    refine .q hs (q_move rfl) ?_
    refine .gT rfl rfl ?_
    refine .q hs (q_neq rfl rfl) ?_
    refine .q hs (q_pickF rfl rfl) ?_
    refine .q hs (q_move rfl) ?_
    refine .bifN (t' := 58) rfl (fun hb58 => ?_) (fun hb58 => ?_)
    · refine .gFs 2 6 false rfl rfl rfl ?_
      refine .q hs (q_pickT rfl rfl) ?_
      refine .q hs (q_move rfl) ?_
      refine .gFs 3 10 false rfl rfl rfl ?_
      refine .q hs (q_pickT rfl rfl) ?_
      refine .q hs (q_move rfl) ?_
      refine .gFs 3 15 false rfl rfl rfl ?_
      refine .q hs (q_pickT rfl rfl) ?_
      refine .nil ?_
      refine (.condT rfl rfl ?_)
      refine .regSeq ?_
      refine .q hs (q_assign rfl) ?_
      refine .nil ?_
      refine .ret (rT (Fin.ret1 Try.results3 rfl ?_))
      first | (exfalso; first | omega | simp_all; done) | exact ⟨rfl, H8, hle04.trans (hle5.trans (hle6.trans (hle7.trans hle8))), hs.out⟩
    · refine .gT rfl rfl ?_
      refine .q hs (q_move rfl) ?_
      refine .gT rfl rfl ?_
      refine .q hs (q_neq rfl rfl) ?_
      refine .q hs (q_pickF rfl rfl) ?_
      refine .q hs (q_move rfl) ?_
      refine .bifN (t' := 62) rfl (fun hb62 => ?_) (fun hb62 => ?_)
      · refine .gFs 3 10 false rfl rfl rfl ?_
        refine .q hs (q_pickT rfl rfl) ?_
        refine .q hs (q_move rfl) ?_
        refine .gFs 3 15 false rfl rfl rfl ?_
        refine .q hs (q_pickT rfl rfl) ?_
        refine .nil ?_
        refine (.condT rfl rfl ?_)
        refine .regSeq ?_
        refine .q hs (q_assign rfl) ?_
        refine .nil ?_
        refine .ret (rT (Fin.ret1 Try.results3 rfl ?_))
        first | (exfalso; first | omega | simp_all; done) | exact ⟨rfl, H8, hle04.trans (hle5.trans (hle6.trans (hle7.trans hle8))), hs.out⟩
      · refine .gT rfl rfl ?_
        refine .q hs (q_move rfl) ?_
        refine .gT rfl rfl ?_
        refine .q hs (q_move rfl) ?_
        refine .gT rfl rfl ?_
        refine .q hs (q_neq rfl rfl) ?_
        refine .q hs (q_pickF rfl rfl) ?_
        refine .q hs (q_move rfl) ?_
        refine .bifN (t' := 67) rfl (fun hb67 => ?_) (fun hb67 => ?_)
        · refine .gFs 3 15 false rfl rfl rfl ?_
          refine .q hs (q_pickT rfl rfl) ?_
          refine .nil ?_
          refine (.condT rfl rfl ?_)
          refine .regSeq ?_
          refine .q hs (q_assign rfl) ?_
          refine .nil ?_
          refine .ret (rT (Fin.ret1 Try.results3 rfl ?_))
          first | (exfalso; first | omega | simp_all; done) | exact ⟨rfl, H8, hle04.trans (hle5.trans (hle6.trans (hle7.trans hle8))), hs.out⟩
        · refine .gT rfl rfl ?_
          refine .q hs (q_move rfl) ?_
          refine .gT rfl rfl ?_
          refine .q hs (q_move rfl) ?_
          refine .gT rfl rfl ?_
          refine .q hs (q_gtr rfl rfl) ?_
          refine .q hs (q_pickF rfl rfl) ?_
          refine .nil ?_
          refine (.condD rfl (fun hc71 => ?_) (fun hc71 => ?_))
          · refine .regSeq ?_
            refine .q hs (q_assign rfl) ?_
            refine .nil ?_
            refine .ret (rT (Fin.ret1 Try.results3 rfl ?_))
            first | (exfalso; first | omega | simp_all; done) | exact ⟨rfl, H8, hle04.trans (hle5.trans (hle6.trans (hle7.trans hle8))), hs.out⟩
          · refine .skip ?_
            refine nT ?_
            refine .cut (fun fs w => ∃ H5, FSub fs ⟨162, [], [(5, .pointer (some ⟨b5, 0, none⟩))]⟩ ∧ HLe H4 H5 ∧ St H5 w (.blk b5 [I a.sys.many, .slice aul a.sys.lims.length cul, .slice auw a.ws.length cuw, I a.width] :: σ)) ?_ ?_
            · refine .regSeq ?_
              refine .q hs (q_move rfl) ?_
              first | refine .q hs (q_len rfl Try.runUnderlying35) ?_ | refine .q hs (q_lenR (by assumption) rfl Try.runUnderlying35) ?_ | refine .q hs (q_lenI (by assumption) rfl Try.runUnderlying35) ?_
              refine .q hs (q_gtr rfl rfl) ?_
              refine .nil ?_
              refine (.condD rfl (fun hc74 => ?_) (fun hc74 => ?_))
              · refine .regSeq ?_
                refine .q hs (q_sliceA rfl Try.runUnderlying29 Try.sizeOf3) ?_
                refine .q hs (q_move rfl) ?_
                first | refine .q hs (q_len rfl Try.runUnderlying35) ?_ | refine .q hs (q_lenR (by assumption) rfl Try.runUnderlying35) ?_ | refine .q hs (q_lenI (by assumption) rfl Try.runUnderlying35) ?_
                refine .o (.call Try.call25 rfl (ref02_Pick_spec hs hA (by decide) (by omega)) ?_); rintro _ w ⟨rfl, hs⟩
                have hi1 := pickI_bd [n0, n1] 0 (n := (l.length : Int)) (by omega)
                generalize pickI [n0, n1] 0 (l.length : Int) = ii at hi1 ⊢
                obtain ⟨i, rfl⟩ := Int.eq_ofNat_of_zero_le hi1.1
                obtain ⟨p, hx⟩ := nth (l := l) (k := i) (by omega)
                have hpt := (hPl p (List.mem_of_getElem? hx)).2
                refine .q hs (q_assign rfl) ?_
                refine .nil ?_
                refine .regSeq ?_
                refine .o (.buildSlice (cells := []) hs bls_sl_api_Probe_0 rfl rfl ?_); intro b79 w hs
                refine .q hs (q_move rfl) ?_
                refine .o (.append (xs := []) hs app_sl_api_Probe_api_Probe rfl rfl (.full (len := 0) rfl) (.rs hRP) (Prbs_cell l) (fun l' h => by simp at h; obtain rfl : l' = 0 := (by omega); rw [List.length_map]; omega) ?_); intro v81 en81 w hO hs
                rw [List.nil_append] at hO
                rcases hO with ⟨_, _, h0, _⟩ | ⟨b16, l16, c16, sp, rfl, rfl, h5, h6, h7⟩
                · exfalso
                  have := congrArg List.length h0
                  have e := Prbs_length l
                  unfold Prbs at e
                  rw [e] at this
                  simp at this; omega
                change (Prbs l).length = l16 * 2 at h5
                rw [Prbs_length] at h5
                obtain rfl : l16 = l.length := by omega
                change St _ _ (.blk b16 (Prbs l ++ sp) :: _) at hs
                change (Prbs l ++ sp).length = c16 * 2 at h6
                refine .q hs (q_assign rfl) ?_
                refine .nil ?_
                refine .seq (.draw mix rfl hs ?_); intro w hs
                refine .p (i := 0) rfl (by kernel_rfl) .none (q_move rfl) ?_
                refine .p (i := 1) rfl (by kernel_rfl) .none (q_move rfl) ?_
                refine .p (i := 2) rfl (by kernel_rfl) .none (q_sliceAL (k := 1) rfl rfl Try.runUnderlying29 Try.sizeOf3 rfl (by decide)) ?_
                refine .p (i := 3) rfl (by kernel_rfl) .none (q_move rfl) ?_
                refine .p (i := 4) rfl (by kernel_rfl) .none (q_move rfl) ?_
                refine .ixX (enc := Prb.c) (i := 5) hs rfl (by kernel_rfl) .none hRP rfl rfl Try.runUnderlying35 Try.sizeOf48 hx rfl ?_; intro b87 o87 hc87
                first | refine .p (i := 6) rfl (by kernel_rfl) .none (q_fa0 rfl fa_api_Probe_1) ?_ | refine .p (i := 6) rfl (by kernel_rfl) .none (q_fa rfl fa_api_Probe_1) ?_
                refine .r (i := 7) hs rfl (by kernel_rfl) .none (q_loadR rfl Try.isAgg3 (hc87.get 1 rfl)) ?_
                first | refine .p (i := 8) rfl (by kernel_rfl) .none (q_addF rfl rfl (by omega)) ?_ | refine .p (i := 8) rfl (by kernel_rfl) .none (q_addU rfl rfl ⟨by omega, by omega⟩) ?_ | refine .p (i := 8) rfl (by kernel_rfl) .none (q_add rfl rfl) ?_
                refine .e1 (i := 9) (by kernel_rfl) rfl rfl .none hs ?_
                refine .call Try.call25 rfl (ref02_Pick_spec hs hA1 (by decide) (by omega)) ?_; rintro _ w ⟨rfl, hs⟩
                have ht1 := pickI_bd [n1] 0 (n := p.t + 1) (by omega)
                generalize pickI [n1] 0 (p.t + 1) = t' at ht1 ⊢
                refine .go ?_
                refine .p (i := 10) rfl (by kernel_rfl) .none (q_ixOm (k := i) rfl rfl Try.runUnderlying35 Try.sizeOf48 rfl (by omega)) ?_
                first | refine .p (i := 11) rfl (by kernel_rfl) .none (q_fa0 rfl fa_api_Probe_1) ?_ | refine .p (i := 11) rfl (by kernel_rfl) .none (q_fa rfl fa_api_Probe_1) ?_
                refine .e1 (i := 12) (by kernel_rfl) rfl rfl .none hs ?_
                refine .store hs rfl rfl Try.sizeOf3 ?_ (by repeat constructor) (by simp [Prbs_length]; omega) (Prbs_split hx ⟨p.u, t'⟩ sp); intro w hs
                refine .go ?_
                refine .done (by kernel_rfl) hs ?_
                obtain ⟨H5, hle5, hRL, hs⟩ := OwnS.publish (m := 2) (v := .slice (some ⟨b16, 0, none⟩) l.length c16) (cs := (l.set i ⟨p.u, t'⟩).map Prb.c) (.inr ⟨b16, l.length, c16, sp, rfl, rfl, by show (Prbs (l.set i ⟨p.u, t'⟩)).length = _; rw [Prbs_length, List.length_set], by show (Prbs (l.set i ⟨p.u, t'⟩) ++ sp).length = _; rw [← h6, List.length_append, List.length_append, Prbs_length, Prbs_length, List.length_set], h7⟩)
                  (fun c hc => by simp only [List.mem_map] at hc; obtain ⟨x, _, rfl⟩ := hc; rfl) (by omega) (by rw [List.length_map, List.length_set]; omega) hs (by repeat constructor)
                replace g1 := g1.mono hle5; replace g2 := g2.mono hle5; replace hRP := hRP.mono hle5
                refine .seq (.draw mix rfl hs ?_); intro w hs
                refine .p (i := 1) rfl (by kernel_rfl) .none (q_move rfl) ?_
                refine .p (i := 2) rfl (by kernel_rfl) .none (q_move rfl) ?_
                refine .p (i := 3) rfl (by kernel_rfl) .none (q_sliceHX (k := i) rfl rfl Try.runUnderlying35 Try.sizeOf48 rfl (by omega)) ?_
                refine .p (i := 5) rfl (by kernel_rfl) .none (q_move rfl) ?_
                refine .p (i := 6) rfl (by kernel_rfl) .none (q_move rfl) ?_
                first | refine .p (i := 7) rfl (by kernel_rfl) .none (q_addF rfl rfl (by omega)) ?_ | refine .p (i := 7) rfl (by kernel_rfl) .none (q_addU rfl rfl ⟨by omega, by omega⟩) ?_ | refine .p (i := 7) rfl (by kernel_rfl) .none (q_add rfl rfl) ?_
                refine .p (i := 8) rfl (by kernel_rfl) .none (q_sliceLX (k := i + 1) rfl rfl Try.runUnderlying35 Try.sizeOf48 (by omega) (by omega)) ?_
                refine .e1 (i := 0) (by kernel_rfl) rfl rfl .none hs ?_
                refine .buildSlice (cells := []) hs bls_sl_api_Probe_0 rfl rfl ?_; intro b94 w hs
                refine .go ?_
                refine .e1 (i := 4) (by kernel_rfl) rfl rfl .none hs ?_
                refine .append (xs := []) hs app_sl_api_Probe_api_Probe rfl rfl (.full (len := 0) rfl) (.rs (RS.head hRP (k := i) (by omega))) (fun v hv => Prbs_cell (l.take i) v (by rw [← List.map_take] at hv; exact hv)) (fun l' h => by simp at h; obtain rfl : l' = 0 := (by omega); rw [List.length_take, List.length_map]; omega) ?_; intro v98 en98 w hO2 hs
                rw [List.nil_append] at hO2
                obtain ⟨a98, l98, c98, rfl, h98⟩ := hO2.shape
                refine .go ?_
                refine .e1 (i := 9) (by kernel_rfl) rfl rfl .none hs ?_
                refine .append hs app_sl_api_Probe_api_Probe rfl rfl hO2 (.rs (RS.tail hRP (k := i + 1) (by omega))) (fun v hv => Prbs_cell (l.drop (i + 1)) v (by rw [← List.map_drop] at hv; exact hv)) (fun l' h => by
                  rw [← List.map_take] at h
                  change (Prbs (l.take i)).length = l' * 2 at h
                  rw [Prbs_length, List.length_take] at h
                  rw [List.length_drop, List.length_map]; omega) ?_; intro v103 en103 w hO3 hs
                rw [← List.flatten_append, ← List.map_take, ← List.map_drop, ← List.map_append] at hO3
                refine .go ?_
                refine .p (i := 10) rfl (by kernel_rfl) .none (q_assign rfl) ?_
                refine .done (by kernel_rfl) hs ?_
                obtain ⟨H6, hle6, hRF, hs⟩ := OwnS.publish (m := 2) hO3 (fun c hc => by simp only [List.mem_map] at hc; obtain ⟨x, _, rfl⟩ := hc; rfl) (by omega) (by rw [List.length_map, List.length_append, List.length_take, List.length_drop]; omega) hs (by repeat constructor)
                replace g1 := g1.mono hle6; replace g2 := g2.mono hle6; replace hRL := RS.mono hRL hle6
                refine .regSeq ?_
                first | refine .q hs (q_loads (vs := [_, _, _, _]) rfl Try.isAgg34 Try.sizeOf34) ?_ | refine .q hs (q_loadsR (vs := [_, _, _, _]) rfl Try.isAgg34 Try.sizeOf34 (by assumption)) ?_
                refine .q hs (q_move rfl) ?_
                refine .o (.call Try.call23 rfl (probe_Worst_spec (a := a) (l := l.set i ⟨p.u, t'⟩) hs ⟨_, _, rfl, g1, g2⟩ hRL) ?_); rintro _ w ⟨H7, _, m4, us4, e4, hle7, rfl, ⟨vu4, rfl, hU4⟩, hcase, hs⟩
                obtain ⟨rfl, ⟨hS4, -⟩⟩ := made_worst hM (by rw [List.length_set]; omega) (fun q hq => set_in hPl (List.mem_of_getElem? hx) (by omega) hq) hcase
                obtain ⟨au4, cu4, rfl⟩ := RU.shape hU4
                have hle14 : m4 ≤ m1 := PairS.mono (fun x y h => set_near hx (by omega) h) hS4 hS1
                replace g1 := g1.mono hle7; replace g2 := g2.mono hle7; replace hRF := RS.mono hRF hle7
                refine .q hs (q_move rfl) ?_
                refine .q hs (q_extract rfl rfl) ?_
                refine .q hs (q_extract rfl rfl) ?_
                refine .q hs (q_extract rfl rfl) ?_
                refine .o (.alloc hs Try.zeroValue40 rfl ?_); intro b19 w hs
                refine .q hs (q_assign rfl) ?_
                refine .o (.stores (vs := [_, _]) hs rfl rfl Try.sizeOf40 ?_); intro w hs
                refine .q hs (q_assign rfl) ?_
                refine .nil ?_
                refine .regSeq ?_
                first | refine .q hs (q_loads (vs := [_, _, _, _]) rfl Try.isAgg34 Try.sizeOf34) ?_ | refine .q hs (q_loadsR (vs := [_, _, _, _]) rfl Try.isAgg34 Try.sizeOf34 (by assumption)) ?_
                refine .q hs (q_move rfl) ?_
                refine .o (.call Try.call23 rfl (probe_Worst_spec (a := a) (l := l.take i ++ l.drop (i + 1)) hs ⟨_, _, rfl, g1, g2⟩ hRF) ?_); rintro _ w ⟨H8, _, m5, us5, e5, hle8, rfl, ⟨vu5, rfl, hU5⟩, hcase, hs⟩
                have hsub : ∀ q, q ∈ l.take i ++ l.drop (i + 1) → q ∈ l := fun q hq => by
                  rcases List.mem_append.1 hq with h | h
                  · exact List.mem_of_mem_take h
                  · exact List.mem_of_mem_drop h
                obtain ⟨rfl, ⟨hS5, -⟩⟩ := made_worst hM (by rw [List.length_append, List.length_take, List.length_drop]; omega) (fun q hq => hPl q (hsub q hq)) hcase
                obtain ⟨au5, cu5, rfl⟩ := RU.shape hU5
                have hle15 : m1 ≤ m5 := PairS.mono (fun x y h q hq => h q (hsub q hq)) hS1 hS5
                refine .q hs (q_move rfl) ?_
                refine .q hs (q_extract rfl rfl) ?_
                refine .q hs (q_extract rfl rfl) ?_
                refine .q hs (q_extract rfl rfl) ?_
                refine .o (.alloc hs Try.zeroValue40 rfl ?_); intro b22 w hs
                refine .q hs (q_assign rfl) ?_
                refine .o (.stores (vs := [_, _]) hs rfl rfl Try.sizeOf40 ?_); intro w hs
                refine .q hs (q_assign rfl) ?_
                refine .nil ?_
                refine .regSeq ?_
                refine .q hs (q_move rfl) ?_
                refine .q hs (q_neq rfl rfl) ?_
                refine .q hs (q_move rfl) ?_
                refine .bifN (t' := 120) rfl (fun hb120 => ?_) (fun hb120 => ?_)
                · refine .gFs 2 2 false rfl rfl rfl ?_
                  refine .q hs (q_pickT rfl rfl) ?_
                  refine .q hs (q_move rfl) ?_
                  refine .gFs 3 6 false rfl rfl rfl ?_
                  refine .q hs (q_pickT rfl rfl) ?_
                  refine .q hs (q_move rfl) ?_
                  refine .gFs 3 11 false rfl rfl rfl ?_
                  refine .q hs (q_pickT rfl rfl) ?_
                  refine .nil ?_
                  refine (.condT rfl rfl ?_)
                  refine .regSeq ?_
                  refine .q hs (q_assign rfl) ?_
                  refine .nil ?_
                  refine .ret (rT (Fin.ret1 Try.results3 rfl ?_))
                  first | (exfalso; first | omega | simp_all; done) | exact ⟨rfl, H8, hle04.trans (hle5.trans (hle6.trans (hle7.trans hle8))), hs.out⟩
                · refine .gT rfl rfl ?_
                  refine .q hs (q_move rfl) ?_
                  refine .gT rfl rfl ?_
                  refine .q hs (q_neq rfl rfl) ?_
                  refine .q hs (q_pickF rfl rfl) ?_
                  refine .q hs (q_move rfl) ?_
                  refine .bifN (t' := 124) rfl (fun hb124 => ?_) (fun hb124 => ?_)
                  · refine .gFs 3 6 false rfl rfl rfl ?_
                    refine .q hs (q_pickT rfl rfl) ?_
                    refine .q hs (q_move rfl) ?_
                    refine .gFs 3 11 false rfl rfl rfl ?_
                    refine .q hs (q_pickT rfl rfl) ?_
                    refine .nil ?_
                    refine (.condT rfl rfl ?_)
                    refine .regSeq ?_
                    refine .q hs (q_assign rfl) ?_
                    refine .nil ?_
                    refine .ret (rT (Fin.ret1 Try.results3 rfl ?_))
                    first | (exfalso; first | omega | simp_all; done) | exact ⟨rfl, H8, hle04.trans (hle5.trans (hle6.trans (hle7.trans hle8))), hs.out⟩
                  · refine .gT rfl rfl ?_
                    refine .q hs (q_move rfl) ?_
                    refine .gT rfl rfl ?_
                    refine .q hs (q_move rfl) ?_
                    refine .gT rfl rfl ?_
                    refine .q hs (q_gtr rfl rfl) ?_
                    refine .q hs (q_pickF rfl rfl) ?_
                    refine .q hs (q_move rfl) ?_
                    refine .bifD (t' := 129) rfl (fun hb129 => ?_) (fun hb129 => ?_)
                    · refine .gFs 3 11 false rfl rfl rfl ?_
                      refine .q hs (q_pickT rfl rfl) ?_
                      refine .nil ?_
                      refine (.condT rfl rfl ?_)
                      refine .regSeq ?_
                      refine .q hs (q_assign rfl) ?_
                      refine .nil ?_
                      refine .ret (rT (Fin.ret1 Try.results3 rfl ?_))
                      first | (exfalso; first | omega | simp_all; done) | exact ⟨rfl, H8, hle04.trans (hle5.trans (hle6.trans (hle7.trans hle8))), hs.out⟩
                    · refine .gT rfl rfl ?_
                      refine .q hs (q_move rfl) ?_
                      refine .gT rfl rfl ?_
                      refine .q hs (q_move rfl) ?_
                      refine .gT rfl rfl ?_
                      refine .q hs (q_lss rfl rfl) ?_
                      refine .q hs (q_pickF rfl rfl) ?_
                      refine .nil ?_
                      refine (.condD rfl (fun hc133 => ?_) (fun hc133 => ?_))
                      · refine .regSeq ?_
                        refine .q hs (q_assign rfl) ?_
                        refine .nil ?_
                        refine .ret (rT (Fin.ret1 Try.results3 rfl ?_))
                        first | (exfalso; first | omega | simp_all; done) | exact ⟨rfl, H8, hle04.trans (hle5.trans (hle6.trans (hle7.trans hle8))), hs.out⟩
                      · refine .skip ?_
                        refine nT ?_
                        exact ⟨H8, by repeat (first | exact .nil rfl rfl | refine .cons rfl ?_), hle5.trans (hle6.trans (hle7.trans hle8)), hs.sub (by repeat (first | exact Sub.refl _ | constructor | apply Sub.weaken))⟩
              · refine .skip ?_
                refine nT ?_
                exact ⟨H4, by repeat (first | exact .nil rfl rfl | refine .cons rfl ?_), HLe.refl _, hs.sub (by repeat (first | exact Sub.refl _ | constructor | apply Sub.weaken))⟩
            · rintro fs w ⟨H5, hfs, hle5, hs⟩
              refine WE.sub ?_ hfs
              replace g1 := g1.mono hle5; replace g2 := g2.mono hle5
              refine .regSeq ?_
              refine .q hs (q_assign rfl) ?_
              refine .nil ?_
              refine .seq ?_
              refine .regSeq ?_
              refine .q hs (q_assign rfl) ?_
              refine .nil ?_
              refine .block ?_
              refine .loop (fun p : Nat × Value => ⟨162, [], [(25, I ((p.1 : Int) + 1)), (24, p.2), (5, .pointer (some ⟨b5, 0, none⟩))]⟩)
                (fun p w => (p.1 : Int) ≤ a.sys.many ∧ ∃ en, OwnS 2 p.2 (Prbs (exactL p.1)) en ∧ St H5 w (en :: .blk b5 [I a.sys.many, .slice aul a.sys.lims.length cul, .slice auw a.ws.length cuw, I a.width] :: σ))
                (fun p => 100 - p.1) (0, .slice none 0 0) (by repeat (first | exact .nil rfl rfl | refine .cons rfl ?_))
                ⟨by omega, _, .nil 2 none, hs.nul⟩ ?_
              rintro ⟨k, v24⟩ w ⟨hk, en, hO, hs⟩
              dsimp only at hk hO ⊢
              refine .seq ?_
              refine .regSeq ?_
              refine .q hs (q_move rfl) ?_
              first | refine .q hs (q_fa0 rfl fa_api_Ask_0) ?_ | refine .q hs (q_fa rfl fa_api_Ask_0) ?_
              first | refine .q hs (q_fa0 rfl fa_api_System_0) ?_ | refine .q hs (q_fa rfl fa_api_System_0) ?_
              first | refine .q hs (q_load rfl Try.isAgg3) ?_ | refine .q hs (q_loadR rfl Try.isAgg3 (by assumption)) ?_
              refine .q hs (q_leq rfl rfl) ?_
              refine .nil ?_
              refine (.condD rfl (fun hc138 => ?_) (fun hc138 => ?_))
              · refine .skip ?_
                refine nT ?_
                refine .seq ?_
                refine .block ?_
                refine .region ?_
                refine .q hs (q_move rfl) ?_
                refine .q hs (q_move rfl) ?_
                refine .q hs (q_build (cells := [_, _]) bld_api_Probe rfl) ?_
                refine .o (.buildSlice (cells := Prb.c ⟨(k : Int) + 1, 0⟩) hs bls_sl_api_Probe_1 rfl rfl ?_); intro b144 w hs
                refine .o (.append (ys := Prb.c ⟨(k : Int) + 1, 0⟩) hs app_sl_api_Probe_api_Probe rfl rfl hO (.own .here rfl rfl) (by simp [Prb.c, Value.oneCell']) (fun l' h => by rw [Prbs_length, exactL_length] at h; omega) ?_); intro v145 en145 w hO' hs
                refine .q hs (q_assign rfl) ?_
                refine .nil ?_
                refine nB (nT ?_)
                refine .region ?_
                refine .q hs (q_move rfl) ?_
                first | refine .q hs (q_addF rfl rfl (by omega)) ?_ | refine .q hs (q_addU rfl rfl ⟨by omega, by omega⟩) ?_ | refine .q hs (q_add rfl rfl) ?_
                refine .q hs (q_assign rfl) ?_
                refine .nil ?_
                refine nT ?_
                exact ⟨(k + 1, v145), .consI rfl (by push_cast; omega) (by repeat (first | exact .nil rfl rfl | refine .cons rfl ?_)), ⟨by dsimp only; omega, en145, by rw [exactL_snoc, Prbs_append]; simpa [Prbs] using hO', hs.sub (by repeat (first | exact Sub.refl _ | constructor | apply Sub.weaken))⟩, by dsimp only; omega⟩
              · refine .exit ?_
                refine xT (xT (xB (nT ?_)))
                refine .regSeq ?_
                first | refine .q hs (q_loads (vs := [_, _, _, _]) rfl Try.isAgg34 Try.sizeOf34) ?_ | refine .q hs (q_loadsR (vs := [_, _, _, _]) rfl Try.isAgg34 Try.sizeOf34 (by assumption)) ?_
                refine .q hs (q_move rfl) ?_
                obtain ⟨H6, hle6, hRE, hs⟩ := OwnS.publish (cs := (exactL k).map Prb.c) hO (fun c hc => by simp only [List.mem_map] at hc; obtain ⟨x, _, rfl⟩ := hc; rfl) (by omega) (by rw [List.length_map, exactL_length]; omega) hs (by repeat constructor)
                obtain ⟨aE, cE, eE⟩ := RPs.shape (l := exactL k) hRE
                subst eE
                refine .o (.call Try.call23 rfl (probe_Worst_spec (a := a) (l := exactL k) hs ⟨_, _, rfl, g1.mono hle6, g2.mono hle6⟩ hRE) ?_); rintro _ w ⟨H7, _, m6, us6, e6, hle7, rfl, ⟨vu6, rfl, hU6⟩, hcase, hs⟩
                obtain ⟨rfl, ⟨hS6, -⟩⟩ := made_worst hM (by rw [exactL_length]; omega) (fun q hq => exactL_in hk hq) hcase
                obtain ⟨au6, cu6, rfl⟩ := RU.shape hU6
                obtain rfl := hS6.exact fun v hv hvn => ⟨⟨(v : Int), 0⟩, by
                  simp only [exactL, List.mem_map, List.mem_range]
                  exact ⟨v - 1, by simp only [Syst.n] at hvn; omega, by congr 1; omega⟩, rfl, rfl⟩
                refine .q hs (q_move rfl) ?_
                refine .q hs (q_extract rfl rfl) ?_
                refine .q hs (q_extract rfl rfl) ?_
                refine .q hs (q_extract rfl rfl) ?_
                refine .o (.alloc hs Try.zeroValue40 rfl ?_); intro b27 w hs
                refine .q hs (q_assign rfl) ?_
                refine .o (.stores (vs := [_, _]) hs rfl rfl Try.sizeOf40 ?_); intro w hs
                refine .q hs (q_assign rfl) ?_
                refine .nil ?_
                refine .regSeq ?_
                refine .q hs (q_move rfl) ?_
                refine .q hs (q_eql rfl rfl) ?_
                refine .q hs (q_move rfl) ?_
                refine .bifD (t' := 155) rfl (fun hb155 => ?_) (fun hb155 => ?_)
                · refine .gT rfl rfl ?_
                  refine .q hs (q_move rfl) ?_
                  refine .gT rfl rfl ?_
                  refine .q hs (q_eql rfl rfl) ?_
                  refine .q hs (q_pickT rfl rfl) ?_
                  refine .q hs (q_move rfl) ?_
                  refine .bifD (t' := 159) rfl (fun hb159 => ?_) (fun hb159 => ?_)
                  · refine .gT rfl rfl ?_
                    refine .o (.call Try.call26 rfl (law09_sane_spec hs) ?_); rintro _ w ⟨rfl, H8, hle8, hs⟩
                    refine .q hs (q_pickT rfl rfl) ?_
                    refine .q hs (q_assign rfl) ?_
                    refine .nil ?_
                    refine .ret (Fin.ret1 Try.results3 rfl ?_)
                    first | (exfalso; first | omega | simp_all; done) | exact ⟨rfl, H8, hle04.trans (hle5.trans (hle6.trans (hle7.trans hle8))), hs.out⟩
                  · refine .gFs 1 6 true rfl rfl rfl ?_
                    refine .q hs (q_pickF rfl rfl) ?_
                    refine .q hs (q_assign rfl) ?_
                    refine .nil ?_
                    refine .ret (Fin.ret1 Try.results3 rfl ?_)
                    first | (exfalso; first | omega | simp_all; done) | exact ⟨rfl, H8, hle04.trans (hle5.trans (hle6.trans (hle7.trans hle8))), hs.out⟩
                · refine .gFs 2 2 true rfl rfl rfl ?_
                  refine .q hs (q_pickF rfl rfl) ?_
                  refine .q hs (q_move rfl) ?_
                  refine .gFs 1 6 true rfl rfl rfl ?_
                  refine .q hs (q_pickF rfl rfl) ?_
                  refine .q hs (q_assign rfl) ?_
                  refine .nil ?_
                  refine .ret (Fin.ret1 Try.results3 rfl ?_)
                  first | (exfalso; first | omega | simp_all; done) | exact ⟨rfl, H8, hle04.trans (hle5.trans (hle6.trans (hle7.trans hle8))), hs.out⟩
end Go.Proofs.Ytiiokdeehlfeeaa

/-
  ProbeMore holds for every input: the statement's function returns true and never panics, for each case and each two numbers that choose a probe.
-/
namespace Go.Proofs.Ytiiokdeehlfeeaa
open Go.MW Go.ChangeShapes Go.WideShapes Go.ChangeAt Go.RowKit
theorem law_ProbeMore {W : World} {v0 v1 : Value} {a0 : Case} {a1 : Two} (w0 : RCaseV (hp W) v0 a0) (u0 : a0.In) (w1 : v1 = .agg #[I a1.a, I a1.b]) (_ : I64 a1.a ∧ I64 a1.b) :
    Cl Try.prog 3 [v0, v1] W fun v w' => v = .bool true ∧ ∃ H', HLe (hp W) H' ∧ St H' w' [] := by
  obtain ⟨cs, rfl, h⟩ := w0
  subst w1
  exact law_ProbeMore_walk (St.start W) h u0.raw
set_option maxRecDepth 100000 in
theorem lifted_ProbeMore (os : Os) (started : os.Started) (H : Type) (enc : TypeId × Value → H) :
    ReturnsInHanded {} Try.checked os 3 .any (Rows.probeMoreSpec.pre6 enc Try.prog Try.f3 Rows.probeMoreRow.domain false) (Rows.probeMoreSpec.post enc Try.prog Try.f3 false true false false) := by
  refine returnsInHanded_of_change_sized (C := Try.checked) cl_own started (by kernel_rfl) Try.func3
    (ChangeSpec.witness6 (enc := enc) (C := Try.checked) false ⟨#[], #[.agg #[.slice none 0 0, .slice none 0 0, .slice none 0 0, .int .i64 0, .slice none 0 0], .agg #[.int .i64 0, .int .i64 0]], []⟩ 8 (by kernel_rfl) (by kernel_rfl) (by kernel_rfl) (by kernel_rfl)) ?_
  intro W base args ds gs before hval0 hW hcnd hsz _
  have hval : ∀ (j : Nat) t v, Try.f3.params[j]? = some t → args[j]? = some v → Value.okWide Try.prog W .any base t v := hval0
  have hW' := hW
  obtain ⟨p, q, hA0, hV, rfl, hfz, hnd⟩ := hW
  have hA : DataW.TrodAll enc Try.prog W 0 (fun _ => true) true Try.f3.params.toList args.toList ds p := hA0
  have hAk := hA
  rw [Try.params3] at hA hval
  obtain ⟨v0, vs0, d0, ds0, p0, q0, hargs, rfl, rfl, h0, r0⟩ := trodAll_cons hA
  obtain ⟨v1, vs1, d1, ds1, p1, q1, rfl, rfl, rfl, h1, r1⟩ := trodAll_cons r0
  obtain ⟨rfl, rfl, rfl⟩ := trodAll_nil r1
  obtain rfl : args = #[v0, v1] := by cases args; simp_all
  obtain ⟨rfl, rfl⟩ := trodVars_none hV
  have k0 : Wt Try.prog 28 d0 := fun n hn => (by have := List.all_eq_true.1 hsz n (DataW.weights_mem_each (j := 0) rfl rfl n hn); simpa using this)
  obtain ⟨a0, w0, u0⟩ := open_Case (hval 0 28 v0 rfl rfl) h0 k0
  have k1 : Wt Try.prog 29 d1 := fun n hn => (by have := List.all_eq_true.1 hsz n (DataW.weights_mem_each (j := 1) rfl rfl n hn); simpa using this)
  obtain ⟨a1, w1, u1⟩ := open_two (hval 1 29 v1 rfl rfl) h1 k1
  refine Calls.mono (law_ProbeMore w0 u0 w1 u1) fun e W' ⟨v, he, hv, H', hle, hs⟩ => ?_
  subst he; subst hv
  have kp := St.kept hle hs
  exact ⟨_, rfl, _, _, _, [], _, [], hW', trodAll_mk1 (shut_bool Try.underlying4 _), Kept.trodAll cl_laid kp (by rw [Try.params3]; intro t ht; simp only [List.mem_cons, List.not_mem_nil, or_false] at ht; rcases ht with rfl | rfl <;> exact ⟨by kernel_rfl, of_decide_eq_true (by kernel_rfl)⟩) hAk, rfl, kp.frame _, fun h => by cases h⟩
theorem closed_ProbeMore : joinedFacts Try.prog 3 Try.f3 Rows.probeMoreSpec Rows.probeMoreRow = true := by
  unfold joinedFacts
  exact (band (band (band (band (band (band (band (band (band (band (band (band (band (band (band (band (band (band (band (band (band (band (band (band (band (band (band (band (band (band (band (by kernel_rfl) cl_laid) cl_maps) (by kernel_rfl)) (by kernel_rfl)) (by kernel_rfl)) (beqT cl_stops)) (by kernel_rfl)) (beqT cl_knobs)) (by kernel_rfl)) (by kernel_rfl)) (by kernel_rfl)) (by kernel_rfl)) (by kernel_rfl)) (by kernel_rfl)) (by kernel_rfl)) (by kernel_rfl)) (by kernel_rfl)) (by kernel_rfl)) (by kernel_rfl)) (by kernel_rfl)) (by kernel_rfl)) (beqT cl_keys.symm)) (by kernel_rfl)) cl_heard) cl_enter) (beqT cl_lifts.symm)) (beqT cl_make)) (by kernel_rfl)) (by kernel_rfl)) (by kernel_rfl)) (by kernel_rfl))
theorem proved_ProbeMore : Rows.ProbeMoreSaid :=
  OpenClaim.holds_of_wide 3 Try.f3 rfl rfl rfl rfl rfl rfl rfl ⟨rfl, rfl, rfl, rfl, rfl⟩ rfl rfl rfl rfl rfl (by kernel_rfl) Try.func3 closed_ProbeMore
    (of_decide_eq_true (by kernel_rfl)) (by unfold Func.isWrapper; first | (rw [if_pos (by decide +kernel)]; kernel_rfl) | (rw [if_neg (by decide +kernel)]; exact ⟨rfl, rfl⟩))
    (fun os started H enc _ => lifted_ProbeMore os started H enc)
end Go.Proofs.Ytiiokdeehlfeeaa
