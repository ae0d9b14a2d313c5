/-
  ProbeSettles holds for every input: where no choice of probes settles a made question, each choice leaves it open; else the picked probes settle it whatever they tell, and each earlier choice has an outcome after which it is open; the statement's function returns true and never panics.
-/
import Derived.Test.YtiiokdeehlfeeaaGreatVe
import Derived.Test.YtiiokdeehlfeeaaGreatRows
import Derived.OpenShut
import Derived.ProofKit
import Derived.ShutString
import Derived.ChangeOld
namespace Go.Proofs.YtiiokdeehlfeeaaGreat
open Go.MW Go.ChangeShapes Go.WideShapes Go.ChangeAt Go.RowKit
theorem few_found {a : Quest} {l : List Prb} {p : Pck} {e : Int} (h : FewP a l p e) (hn : e ≠ 94) : e = 0 ∧ (choicesL l.length)[p.fails.length]? = some p.probes ∧ ShownR a (chosenL l p.probes) p.width p.uses ∧ p.bound = p.width ∧ p.width ≤ a.width ∧
    ∀ (j : Nat) (cj : List Int), j < p.fails.length → (choicesL l.length)[j]? = some cj → (∀ m, PairS a (chosenL l cj) m → a.width < m) ∧ ∃ t, p.fails[j]? = some t ∧ TwinR a (chosenL l cj) t := by
  rcases h with ⟨h, _⟩ | ⟨h, k, h1, h2, h3, h4, h5, h6⟩
  · exact (hn h).elim
  · subst h5; exact ⟨h, h1, h2, h3, h4, h6⟩
theorem few_none {a : Quest} {l : List Prb} {p : Pck} (h : FewP a l p 94) : ∀ c ∈ choicesL l.length, ∀ m, PairS a (chosenL l c) m → a.width < m := by
  rcases h with ⟨_, _, h⟩ | ⟨h, _⟩
  · exact h
  · omega
set_option maxHeartbeats 8000000 in
theorem law_ProbeSettles_walk {H : Heap} {w : World} {σ : List Ent} {cs : List Value} {vk vn : Value} {c : Case} {picks noise : List Int} (hs : St H w σ) (hr : RCase H cs c) (hin : c.raw.In) (hpk : RI H vk picks) (hns : RI H vn noise) (hnl : noise.length ≤ 4611686018427387904) :
    Cl Tryz.prog 8 [.agg cs.toArray, vk, vn] w fun v w' => v = .bool true ∧ ∃ H', HLe H H' ∧ St H' w' σ := by
  obtain ⟨rs, vp, rfl, hrr, hp⟩ := hr
  have hrr' := hrr
  obtain ⟨vh, vl, vw, rfl, h1, h2, h3⟩ := hrr'
  obtain ⟨ak, ck, rfl⟩ := RI.shape hpk
  obtain ⟨an, cn, rfl⟩ := RI.shape hns
  have hM := madeQ_made c.raw
  generalize hq : madeQ c.raw = a at hM
  have hmany : a.sys.many = (mN c.raw : Int) := by rw [← hq]; rfl
  have hPl := fun p => prbsOf_in (a := a) hM.many.1 (l := c.prbs) (most := 4) (p := p)
  have hPn : (prbsOf a.sys.many c.prbs 4).length ≤ 4 := by rw [prbsOf_len]; omega
  rw [hmany] at hPl hPn
  generalize hl : prbsOf (mN c.raw : Int) c.prbs 4 = l at hPl hPn
  have hmn := hM.many
  have hnn : (a.sys.n : Int) = a.sys.many + 1 := by simp only [Syst.n]; omega
  refine Cl.of Tryz.func8 rfl Tryz.ntmps8 (by simp) (args_cons (k := 0) rfl (args_cons (k := 1) rfl (args_cons (k := 2) rfl (args0)))) ?_
  refine .regSeq ?_
  refine .o (.box hs rfl rfl ?_); intro b3 w hs
  refine .z zg (.nil (.regSeq (.y hs (zls [_, _, _, _, _] Tryz.isAgg78 Tryz.sizeOf78) ?_)))
  refine .o (.call Tryz.call35 rfl (law09_made_spec (most := 4) hs ⟨[_, _, _, _], _, rfl, ⟨_, _, _, rfl, h1, h2, h3⟩, hp⟩ hin (by decide)) ?_); rintro _ w ⟨H1, va, vP, hle1, rfl, hRA, hRP, hs⟩
  rw [hq] at hRA; rw [hl] at hRP
  obtain ⟨ul, uw, rfl, g1, g2⟩ := hRA
  obtain ⟨aul, cul, rfl⟩ := RL.shape g1
  obtain ⟨auw, cuw, rfl⟩ := RI.shape g2
  obtain ⟨aP, cP, rfl⟩ := RPs.shape hRP
  have hOne : l.length ≤ 8 := by omega
  have hC := hM.prbs hOne hPl
  have hok := hM.ask
  have hLn := choicesL_length (n := l.length) (by omega)
  refine .z zm (.z zex (.z zex ?_))
  refine .o (.alloc hs Tryz.zeroValue27 rfl ?_); intro b7 w hs
  refine .o (.stores (vs := [_, _, _, _]) hs rfl rfl Tryz.sizeOf27 ?_); intro w hs
  refine .z zg (.nil (.regSeq (.y hs (zls [_, _, _, _] Tryz.isAgg27 Tryz.sizeOf27) (.z zm ?_))))
  refine .o (.call Tryz.call30 rfl (probe_Fewest_spec (a := a) hs ⟨_, _, rfl, g1, g2⟩ hRP) ?_); rintro _ w ⟨H2, vk1, p1, e1, hle2, rfl, hk1, hF1, hs⟩
  obtain ⟨vp1, vu1, vf1, css1, rfl, hkp1, hku1, hkf1, hkl1, hkt1⟩ := hk1
  obtain ⟨akp1, ckp1, rfl⟩ := RI.shape hkp1
  obtain ⟨aku1, cku1, rfl⟩ := RU.shape hku1
  obtain ⟨akf1, ckf1, rfl⟩ := RS.shape hkf1
  replace hF1 : FewP a l p1 e1 := by
    rcases hF1 with ⟨q1, q2, _⟩ | ⟨_, q⟩
    · exact (q2 (q1.uniq hC)).elim
    · exact q
  refine .z zm (.z zex (.z zex ?_))
  refine .o (.alloc hs Tryz.zeroValue66 rfl ?_); intro b9 w hs
  refine .o (.stores (vs := [_, _, _, _, _]) hs rfl rfl Tryz.sizeOf66 ?_); intro w hs
  refine .z zg (.nil (.regSeq (.z zm (.z (zlen Tryz.runUnderlying28) ?_))))
  refine .o (.call Tryz.call10 rfl (probe_Choices_spec (n := (l.length : Int)) hs) ?_); rintro _ w ⟨H3, v44, rs44, e44, hle3, rfl, hRT, hch, hs⟩
  obtain ⟨rfl, rfl⟩ : e44 = 0 ∧ rs44 = choicesL l.length := by
    rcases hch with ⟨q, _⟩ | ⟨_, q1, q2⟩
    · exact (q (by omega)).elim
    · exact ⟨q1, by rw [q2, Int.toNat_natCast]⟩
  obtain ⟨aT, cT, rfl⟩ := hRT.shape
  have hle13 := hle1.trans (hle2.trans hle3)
  have hle23 := hle2.trans hle3
  replace g1 := g1.mono hle23; replace g2 := g2.mono hle23; replace hRP := hRP.mono hle23
  replace hkp1 := hkp1.mono hle3; replace hku1 := RU.mono hku1 hle3; replace hkf1 := RS.mono hkf1 hle3
  replace hkt1 := fun j c t h1 h2 => (hkt1 j c t h1 h2).mono hle3
  refine .z zm (.z zex (.z zex (.z zg (.z zg (.nil (.seq (.regSeq (.z zm (.z zneq ?_)))))))))
  refine .nil ?_
  refine (.condN rfl (fun hc48 => ?_) (fun hc48 => ?_))
  · refine .regSeq (.z zg (.nil ?_))
    refine .ret (rT (Fin.ret1 Tryz.results8 rfl ?_))
    first
      | exact ⟨rfl, H9, hleF, hs.out⟩
      | (exfalso; first | omega | (simp at *; done) | (simp_all; done))
  · refine .skip ?_
    refine nT ?_
    refine .seq (.regSeq (.z zm (.z zeql (.nil ?_))))
    refine (.condD rfl (fun hc50 => ?_) (fun hc50 => ?_))
    · refine .seq (.regSeq (.z zg (.nil (.block ?_))))
      refine .loop (fun p : Nat => ⟨187, [], [(13, I (p : Int)), (11, .slice aT (choicesL l.length).length cT), (8, .slice aP l.length cP), (7, .pointer (some ⟨b7, 0, none⟩))]⟩)
        (fun p w => p ≤ (choicesL l.length).length ∧ ∃ Hk, HLe H3 Hk ∧ St Hk w (.blk b7 [I a.sys.many, .slice aul a.sys.lims.length cul, .slice auw a.ws.length cuw, I a.width] :: σ))
        (fun p => (choicesL l.length).length - p) 0 (by repeat (first | exact .nil rfl rfl | refine .cons rfl ?_))
        ⟨by omega, H3, HLe.refl _, hs.sub (by repeat (first | exact Sub.refl _ | constructor | apply Sub.weaken))⟩ ?_
      rintro k w ⟨hk, Hk, hleK, hs⟩
      refine .seq (.regSeq (.z zm (.z zm (.z (zlen Tryz.runUnderlying29) (.z zlss (.nil ?_))))))
      refine (.condD rfl (fun hc54 => ?_) (fun hc54 => ?_))
      · refine .skip ?_
        refine nT ?_
        refine .seq (.block ?_)
        refine .cut (fun fs w => ∃ (b15 : Nat) (n : Int) (cb : List Value) (Hm : Heap), FSub fs ⟨187, [], [(16, I 0), (15, .pointer (some ⟨b15, 0, none⟩)), (14, I n), (13, I (k : Int)), (11, .slice aT (choicesL l.length).length cT), (8, .slice aP l.length cP), (7, .pointer (some ⟨b7, 0, none⟩))]⟩ ∧ HLe H3 Hm ∧ k < (choicesL l.length).length ∧ a.width < n ∧ St Hm w (.blk b15 cb :: .blk b7 [I a.sys.many, .slice aul a.sys.lims.length cul, .slice auw a.ws.length cuw, I a.width] :: σ)) ?_ ?_
        · refine .draw mix rfl hs ?_; intro w hs
          refine .ys 0 rfl hs [_, _, _, _] Tryz.isAgg27 Tryz.sizeOf27 ?_; refine .z 1 rfl zm ?_; refine .z 2 rfl zm ?_; refine .z 3 rfl zm ?_
          have hk' : k < (choicesL l.length).length := by omega
          have hcm := List.mem_of_getElem? (gr_get hk')
          obtain ⟨q1, q2, q3, q4⟩ := choice_ok hPl hcm
          refine .ixT (i := 4) hs rfl (by kernel_rfl) .none (hRT.mono hleK) rfl rfl Tryz.runUnderlying29 Tryz.sizeOf25 hk' rfl ?_; intro b62 o62 a62 c62 hc62 hR62
          refine .r (i := 5) hs rfl (by kernel_rfl) .none (q_loadR rfl Tryz.isAgg25 hc62) ?_
          refine .e2 (i := 6) (j := 12) (by kernel_rfl) rfl rfl rfl rfl .none .none hs ?_ ?_
          · refine .call Tryz.call41 rfl (ref09_Chosen_spec hs (hRP.mono hleK) hR62 q4 (by omega)) ?_; rintro v64 w ⟨H4, hle4, hR64, hs⟩
            obtain ⟨a64, c64, rfl⟩ := RPs.shape hR64
            have hleK4 := hleK.trans hle4
            refine .go ?_
            refine .e2 (i := 7) (j := 12) (by kernel_rfl) rfl rfl rfl rfl .none .none hs ?_ ?_
            · refine .call Tryz.call36 rfl (probe_Worst_spec (a := a) hs ⟨_, _, rfl, g1.mono hleK4, g2.mono hleK4⟩ hR64) ?_; rintro _ w ⟨H5, _, n, us, e5, hle5, rfl, ⟨vu, rfl, hU⟩, hcase, hs⟩
              obtain ⟨rfl, hSh⟩ := made_worst hM q1 q2 hcase
              obtain ⟨au, cu, rfl⟩ := RU.shape hU
              have hwide := few_none (hc50 ▸ hF1) _ hcm _ hSh.1
              refine .go ?_
              refine .z 8 rfl zm ?_; refine .z 9 rfl zex ?_; refine .z 10 rfl zex ?_; refine .z 11 rfl zex ?_
              refine .e1 (i := 12) (by kernel_rfl) rfl rfl .none hs ?_
              refine .alloc hs Tryz.zeroValue63 rfl ?_; intro b15 w hs
              refine .go ?_
              refine .z 13 rfl zg ?_
              refine .e1 (i := 14) (by kernel_rfl) rfl rfl .none hs ?_
              refine .stores (vs := [_, _]) hs rfl rfl Tryz.sizeOf63 ?_; intro w hs
              refine .go ?_
              refine .z 15 rfl zg ?_; refine .done (by kernel_rfl) hs ?_
              exact nT ⟨_, n, _, H5, by repeat (first | exact .nil rfl rfl | refine .cons rfl ?_), hleK4.trans hle5, hk', hwide, hs.sub (by repeat (first | exact Sub.refl _ | constructor | apply Sub.weaken))⟩
            · refine .alloc hs Tryz.zeroValue63 rfl ?_; intro b15 w hs
              refine .go ?_
              refine .e1 (i := 7) (by kernel_rfl) rfl rfl .none hs ?_
              refine .call Tryz.call36 rfl (probe_Worst_spec (a := a) hs ⟨_, _, rfl, g1.mono hleK4, g2.mono hleK4⟩ hR64) ?_; rintro _ w ⟨H5, _, n, us, e5, hle5, rfl, ⟨vu, rfl, hU⟩, hcase, hs⟩
              obtain ⟨rfl, hSh⟩ := made_worst hM q1 q2 hcase
              obtain ⟨au, cu, rfl⟩ := RU.shape hU
              have hwide := few_none (hc50 ▸ hF1) _ hcm _ hSh.1
              refine .go ?_
              refine .z 8 rfl zm ?_; refine .z 9 rfl zex ?_; refine .z 10 rfl zex ?_; refine .z 11 rfl zex ?_; refine .z 13 rfl zg ?_
              refine .e1 (i := 14) (by kernel_rfl) rfl rfl .none hs ?_
              refine .stores (vs := [_, _]) hs rfl rfl Tryz.sizeOf63 ?_; intro w hs
              refine .go ?_
              refine .z 15 rfl zg ?_; refine .done (by kernel_rfl) hs ?_
              exact nT ⟨_, n, _, H5, by repeat (first | exact .nil rfl rfl | refine .cons rfl ?_), hleK4.trans hle5, hk', hwide, hs.sub (by repeat (first | exact Sub.refl _ | constructor | apply Sub.weaken))⟩
          · refine .alloc hs Tryz.zeroValue63 rfl ?_; intro b15 w hs
            refine .go ?_
            refine .e1 (i := 6) (by kernel_rfl) rfl rfl .none hs ?_
            refine .call Tryz.call41 rfl (ref09_Chosen_spec hs (hRP.mono hleK) hR62 q4 (by omega)) ?_; rintro v64 w ⟨H4, hle4, hR64, hs⟩
            obtain ⟨a64, c64, rfl⟩ := RPs.shape hR64
            have hleK4 := hleK.trans hle4
            refine .go ?_
            refine .e1 (i := 7) (by kernel_rfl) rfl rfl .none hs ?_
            refine .call Tryz.call36 rfl (probe_Worst_spec (a := a) hs ⟨_, _, rfl, g1.mono hleK4, g2.mono hleK4⟩ hR64) ?_; rintro _ w ⟨H5, _, n, us, e5, hle5, rfl, ⟨vu, rfl, hU⟩, hcase, hs⟩
            obtain ⟨rfl, hSh⟩ := made_worst hM q1 q2 hcase
            obtain ⟨au, cu, rfl⟩ := RU.shape hU
            have hwide := few_none (hc50 ▸ hF1) _ hcm _ hSh.1
            refine .go ?_
            refine .z 8 rfl zm ?_; refine .z 9 rfl zex ?_; refine .z 10 rfl zex ?_; refine .z 11 rfl zex ?_; refine .z 13 rfl zg ?_
            refine .e1 (i := 14) (by kernel_rfl) rfl rfl .none hs ?_
            refine .stores (vs := [_, _]) hs rfl rfl Tryz.sizeOf63 ?_; intro w hs
            refine .go ?_
            refine .z 15 rfl zg ?_; refine .done (by kernel_rfl) hs ?_
            exact nT ⟨_, n, _, H5, by repeat (first | exact .nil rfl rfl | refine .cons rfl ?_), hleK4.trans hle5, hk', hwide, hs.sub (by repeat (first | exact Sub.refl _ | constructor | apply Sub.weaken))⟩
        · rintro fs w ⟨b15, n, cb, Hm, hfs, hleM, hk', hwide, hs⟩
          refine WE.sub ?_ hfs
          refine .regSeq (.z zm (.z zneq (.z zm ?_)))
          refine .bifN (t' := 71) rfl (fun hb71 => ?_) (fun hb71 => ?_)
          · refine .gFs 4 2 false rfl rfl rfl ?_
            refine .z zpT (.nil ?_)
            refine (.condT rfl rfl ?_)
            refine .regSeq (.z zg (.nil ?_))
            refine .ret (rB (rT (rT (rB (rT (rT (Fin.ret1 Tryz.results8 rfl ?_)))))))
            first
              | exact ⟨rfl, H9, hleF, hs.out⟩
              | (exfalso; first | omega | (simp at *; done) | (simp_all; done))
          · refine .gT rfl rfl ?_
            refine .z zm ?_
            refine .gT rfl rfl ?_
            refine .z (zfa fa_api_Ask_2) ?_
            refine .gT rfl rfl ?_
            refine .y hs (zld Tryz.isAgg3) ?_
            refine .gT rfl rfl ?_
            refine .z zleq (.z zpF (.nil ?_))
            refine (.condD rfl (fun hc76 => ?_) (fun hc76 => ?_))
            · refine .regSeq (.z zg (.nil ?_))
              refine .ret (rB (rT (rT (rB (rT (rT (Fin.ret1 Tryz.results8 rfl ?_)))))))
              first
                | exact ⟨rfl, H9, hleF, hs.out⟩
                | (exfalso; first | omega | (simp at *; done) | (simp_all; done))
            · refine .skip ?_
              refine nB (nT ?_)
              refine .region (.z zm (.z zadd (.z zg (.nil ?_))))
              refine nT ?_
              exact ⟨k + 1, .consI rfl (by push_cast; omega) (by repeat (first | exact .nil rfl rfl | refine .cons rfl ?_)), ⟨by omega, Hm, hleM, hs.sub (by repeat (first | exact Sub.refl _ | constructor | apply Sub.weaken))⟩, by omega⟩
      · refine .exit ?_
        refine xT (xT (xB (nT ?_)))
        refine .regSeq ?_
        refine .o (.call Tryz.call15 rfl (law09_sane_spec hs) ?_); rintro _ w ⟨rfl, H9, hle9, hs⟩
        have hleF := hle13.trans (hleK.trans hle9)
        refine .z zg (.nil ?_)
        refine .ret (rT (Fin.ret1 Tryz.results8 rfl ?_))
        first
          | exact ⟨rfl, H9, hleF, hs.out⟩
          | (exfalso; first | omega | (simp at *; done) | (simp_all; done))
    · refine .skip ?_
      refine nT ?_
      refine .seq ?_
      refine .seq (.draw mix rfl hs ?_); intro w hs
      obtain ⟨rfl, j1, j2, j3, j4, j6⟩ := few_found hF1 hc50
      have hkL : css1.length < (choicesL l.length).length := by have := (List.getElem?_eq_some_iff.1 j1).1; omega
      have hcm := List.mem_of_getElem? j1
      obtain ⟨z1, z2, z3, z4⟩ := choice_ok hPl hcm
      have hgr : gr (choicesL l.length) css1.length = p1.probes := by
        have := gr_get hkL
        rw [hkl1] at this ⊢
        rw [j1] at this
        exact (Option.some.inj this).symm
      refine .z 0 rfl zm ?_; refine .z 1 rfl zneq ?_; refine .z 2 rfl zm ?_
      refine .bifN (t' := 80) rfl (fun hb80 => ?_) (fun hb80 => ?_)
      · refine .qF (i := 3) rfl (by kernel_rfl) rfl rfl ?_
        refine .qF (i := 4) rfl (by kernel_rfl) rfl rfl ?_
        refine .qF (i := 5) rfl (by kernel_rfl) rfl rfl ?_
        refine .qF (i := 6) rfl (by kernel_rfl) rfl rfl ?_
        refine .qF (i := 7) rfl (by kernel_rfl) rfl rfl ?_
        refine .z 8 rfl zpT ?_; refine .z 9 rfl zm ?_
        refine .qF (i := 10) rfl (by kernel_rfl) rfl rfl ?_
        refine .qF (i := 11) rfl (by kernel_rfl) rfl rfl ?_
        refine .qF (i := 12) rfl (by kernel_rfl) rfl rfl ?_
        refine .qF (i := 13) rfl (by kernel_rfl) rfl rfl ?_
        refine .qF (i := 14) rfl (by kernel_rfl) rfl rfl ?_
        refine .qF (i := 15) rfl (by kernel_rfl) rfl rfl ?_
        refine .z 16 rfl zpT ?_; refine .z 17 rfl zm ?_
        refine .qF (i := 18) rfl (by kernel_rfl) rfl rfl ?_
        refine .qF (i := 19) rfl (by kernel_rfl) rfl rfl ?_
        refine .qF (i := 20) rfl (by kernel_rfl) rfl rfl ?_
        refine .qF (i := 21) rfl (by kernel_rfl) rfl rfl ?_
        refine .qF (i := 22) rfl (by kernel_rfl) rfl rfl ?_
        refine .qF (i := 23) rfl (by kernel_rfl) rfl rfl ?_
        refine .qF (i := 24) rfl (by kernel_rfl) rfl rfl ?_
        refine .qF (i := 25) rfl (by kernel_rfl) rfl rfl ?_
        refine .qF (i := 26) rfl (by kernel_rfl) rfl rfl ?_
        refine .qF (i := 27) rfl (by kernel_rfl) rfl rfl ?_
        refine .z 28 rfl zpT ?_; refine .done (by kernel_rfl) hs ?_
        refine (.condT rfl rfl ?_)
        refine .regSeq (.z zg (.nil ?_))
        refine .ret (rT (Fin.ret1 Tryz.results8 rfl ?_))
        first
          | exact ⟨rfl, H9, hleF, hs.out⟩
          | (exfalso; first | omega | (simp at *; done) | (simp_all; done))
      · refine .ys 3 rfl hs [_, _, _, _] Tryz.isAgg27 Tryz.sizeOf27 ?_; refine .z 4 rfl zm ?_; refine .ys 5 rfl hs [_, _, _, _, _] Tryz.isAgg66 Tryz.sizeOf66 ?_
        refine .e1 (i := 6) (by kernel_rfl) rfl rfl (.some rfl rfl) hs ?_
        refine .call Tryz.call32 rfl (probe_CheckPick_spec (a := a) (l := l) (p := p1) hs ⟨_, _, rfl, g1, g2⟩ hRP ⟨_, _, _, css1, rfl, hkp1, hku1, hkf1, hkl1, hkt1⟩) ?_; rintro _ w ⟨H4, e4, hle4, rfl, hPk, hs⟩
        obtain rfl : e4 = 0 := hPk.uniq (.inr ⟨hC, .inl ⟨rfl, _, FewP.good hok (made_prb hM hPl) j1 j2 j3 j4 rfl j6⟩⟩)
        refine .go ?_
        refine .z 7 rfl zneq ?_; refine .z 8 rfl zpF ?_; refine .z 9 rfl zm ?_
        refine .bifN (t' := 87) rfl (fun hb87 => ?_) (fun hb87 => ?_)
        · refine .qF (i := 10) rfl (by kernel_rfl) rfl rfl ?_
          refine .qF (i := 11) rfl (by kernel_rfl) rfl rfl ?_
          refine .qF (i := 12) rfl (by kernel_rfl) rfl rfl ?_
          refine .qF (i := 13) rfl (by kernel_rfl) rfl rfl ?_
          refine .qF (i := 14) rfl (by kernel_rfl) rfl rfl ?_
          refine .qF (i := 15) rfl (by kernel_rfl) rfl rfl ?_
          refine .z 16 rfl zpT ?_; refine .z 17 rfl zm ?_
          refine .qF (i := 18) rfl (by kernel_rfl) rfl rfl ?_
          refine .qF (i := 19) rfl (by kernel_rfl) rfl rfl ?_
          refine .qF (i := 20) rfl (by kernel_rfl) rfl rfl ?_
          refine .qF (i := 21) rfl (by kernel_rfl) rfl rfl ?_
          refine .qF (i := 22) rfl (by kernel_rfl) rfl rfl ?_
          refine .qF (i := 23) rfl (by kernel_rfl) rfl rfl ?_
          refine .qF (i := 24) rfl (by kernel_rfl) rfl rfl ?_
          refine .qF (i := 25) rfl (by kernel_rfl) rfl rfl ?_
          refine .qF (i := 26) rfl (by kernel_rfl) rfl rfl ?_
          refine .qF (i := 27) rfl (by kernel_rfl) rfl rfl ?_
          refine .z 28 rfl zpT ?_; refine .done (by kernel_rfl) hs ?_
          refine (.condT rfl rfl ?_)
          refine .regSeq (.z zg (.nil ?_))
          refine .ret (rT (Fin.ret1 Tryz.results8 rfl ?_))
          first
            | exact ⟨rfl, H9, hleF, hs.out⟩
            | (exfalso; first | omega | (simp at *; done) | (simp_all; done))
        · refine .z 10 rfl (zfa fa_api_Pick_3) ?_; refine .y 11 rfl hs Tryz.isAgg64 ?_; refine .z 12 rfl (zlen Tryz.runUnderlying64) ?_; refine .z 13 rfl zm ?_; refine .z 14 rfl (zlen Tryz.runUnderlying29) ?_; refine .z 15 rfl zgeq ?_; refine .z 16 rfl zpF ?_; refine .z 17 rfl zm ?_
          refine .bifD (t' := 95) rfl (fun hb95 => ?_) (fun hb95 => ?_)
          · refine .qF (i := 18) rfl (by kernel_rfl) rfl rfl ?_
            refine .qF (i := 19) rfl (by kernel_rfl) rfl rfl ?_
            refine .qF (i := 20) rfl (by kernel_rfl) rfl rfl ?_
            refine .qF (i := 21) rfl (by kernel_rfl) rfl rfl ?_
            refine .qF (i := 22) rfl (by kernel_rfl) rfl rfl ?_
            refine .qF (i := 23) rfl (by kernel_rfl) rfl rfl ?_
            refine .qF (i := 24) rfl (by kernel_rfl) rfl rfl ?_
            refine .qF (i := 25) rfl (by kernel_rfl) rfl rfl ?_
            refine .qF (i := 26) rfl (by kernel_rfl) rfl rfl ?_
            refine .qF (i := 27) rfl (by kernel_rfl) rfl rfl ?_
            refine .z 28 rfl zpT ?_; refine .done (by kernel_rfl) hs ?_
            refine (.condT rfl rfl ?_)
            refine .regSeq (.z zg (.nil ?_))
            refine .ret (rT (Fin.ret1 Tryz.results8 rfl ?_))
            first
              | exact ⟨rfl, H9, hleF, hs.out⟩
              | (exfalso; first | omega | (simp at *; done) | (simp_all; done))
          · refine .z 18 rfl zm ?_; refine .z 19 rfl (zfa fa_api_Pick_3) ?_; refine .y 20 rfl hs Tryz.isAgg64 ?_; refine .z 21 rfl (zlen Tryz.runUnderlying64) ?_
            refine .ixT (i := 22) hs rfl (by kernel_rfl) (.some rfl rfl) (hRT.mono hle4) rfl rfl Tryz.runUnderlying29 Tryz.sizeOf25 hkL rfl ?_; intro b100 o100 a100 c100 hc100 hR100
            refine .r (i := 23) hs rfl (by kernel_rfl) (.some rfl rfl) (q_loadR rfl Tryz.isAgg25 hc100) ?_
            refine .z 24 rfl (zfa fa_api_Pick_0) ?_; refine .y 25 rfl hs Tryz.isAgg25 ?_
            refine .e1 (i := 26) (by kernel_rfl) rfl rfl (.some rfl rfl) hs ?_
            refine .call Tryz.call20 rfl (ref02_Same_spec hs hR100 (hkp1.mono hle4)) ?_; rintro _ w ⟨rfl, hs⟩
            refine .go ?_
            refine .z 27 rfl znot ?_; refine .z 28 rfl zpF ?_; refine .done (by kernel_rfl) hs ?_
            refine (.cond rfl (fun hc106 => ?_) (fun hc106 => ?_))
            · refine .regSeq (.z zg (.nil ?_))
              refine .ret (rT (Fin.ret1 Tryz.results8 rfl ?_))
              first
                | exact ⟨rfl, H9, hleF, hs.out⟩
                | (exfalso; first | omega | (simp at *; done) | (simp_all; done))
            · refine .skip ?_
              refine nT ?_
              refine .regSeq (.z zm (.z (zfa fa_api_Pick_0) (.y hs (zld Tryz.isAgg25) ?_)))
              refine .o (.call Tryz.call41 rfl (ref09_Chosen_spec hs (hRP.mono hle4) (hkp1.mono hle4) z4 (by omega)) ?_); rintro v110 w ⟨H5, hle5, hR110, hs⟩
              obtain ⟨l1, hl1⟩ : ∃ l1, l1 = chosenL l p1.probes := ⟨_, rfl⟩
              rw [← hl1] at hR110 z1 z2 j2
              obtain ⟨a110, c110, rfl⟩ := RPs.shape hR110
              have hle35 := hle4.trans hle5
              have k1 := g1.mono hle35; have k2 := g2.mono hle35
              have hle15 := hle13.trans hle35
              refine .z zg (.nil ?_)
              refine .cut (fun fs w => ∃ b18 Hm aq cq aw9 cw9 vs, FSub fs ⟨187, [], [(19, I 0), (18, .pointer (some ⟨b18, 0, none⟩)), (11, .slice aT (choicesL l.length).length cT), (9, .pointer (some ⟨b9, 0, none⟩)), (8, .slice aP l.length cP), (7, .pointer (some ⟨b7, 0, none⟩))]⟩ ∧ HLe H5 Hm ∧ (behS a l1 vs).Sound ∧ RL Hm (.slice aq (behS a l1 vs).lims.length cq) (behS a l1 vs).lims ∧ RI Hm (.slice aw9 a.ws.length cw9) a.ws ∧ St Hm w (.blk b18 [I a.sys.many, .slice aq (behS a l1 vs).lims.length cq, .slice aw9 a.ws.length cw9, I a.width] :: .blk b9 [.slice akp1 p1.probes.length ckp1, I p1.width, I p1.bound, .slice aku1 p1.uses.length cku1, .slice akf1 css1.length ckf1] :: .blk b7 [I a.sys.many, .slice aul a.sys.lims.length cul, .slice auw a.ws.length cuw, I a.width] :: σ)) ?_ ?_
              · refine .draw mix rfl hs ?_; intro w hs
                refine .ys 0 rfl hs [_, _, _, _] Tryz.isAgg27 Tryz.sizeOf27 ?_; refine .z 1 rfl zm ?_; refine .z 2 rfl zm ?_; refine .ys 3 rfl hs [_, _, _, _] Tryz.isAgg27 Tryz.sizeOf27 ?_; refine .z 4 rfl zm ?_; refine .z 6 rfl zm ?_
                refine .e2 (i := 5) (j := 12) (by kernel_rfl) rfl rfl rfl rfl .none .none hs ?_ ?_
                · refine .call Tryz.call39 rfl (ref09_Hull_spec (a := a) hs ⟨_, _, rfl, k1, k2⟩ (hpk.mono hle15)) ?_; rintro _ w ⟨Hh, x, eh, hleh, hRx, hPt, hs⟩
                  obtain ⟨rfl, hPP⟩ := made_hull hM hPt
                  obtain ⟨hxl, hx0, hxb, hxf⟩ := hPP.feas hM.ok hM.hull
                  obtain ⟨ax, cx, rfl⟩ := RI.shape hRx
                  refine .go ?_
                  refine .e2 (i := 7) (j := 12) (by kernel_rfl) rfl rfl rfl rfl .none .none hs ?_ ?_
                  · refine .call Tryz.call38 rfl (ref09_Told_spec (n := a.sys.many) hs (hR110.mono hleh) hRx (hns.mono (hle15.trans hleh)) z2 (by omega) (by omega) hnl (fun v hv => hxb v (by omega))) ?_; rintro _ w ⟨Ht, hlet, ⟨vv, rfl, hRv⟩, hs⟩
                    have hvl := toldV_length l1 x noise l1.length
                    have hTd := toldV_told (a := a) (l := l1) (x := x) (picks := noise) z2 hx0
                    generalize toldV l1 x noise l1.length = vs at hRv hvl hTd
                    obtain ⟨av, cv, rfl⟩ := RI.shape hRv
                    have hleht := hleh.trans hlet
                    have hSd := beh_sound (made_prb hM z2) hxf hTd
                    refine .go ?_
                    refine .e2 (i := 8) (j := 12) (by kernel_rfl) rfl rfl rfl rfl .none .none hs ?_ ?_
                    · refine .call Tryz.call27 rfl (probe_After_spec (a := a) (l := l1) (vs := vs) hs ⟨_, _, rfl, k1.mono hleht, k2.mono hleht⟩ (hR110.mono hleht) ⟨_, rfl, hRv⟩) ?_; rintro _ w ⟨H6x, _, q, e6, hle6x, rfl, ⟨ul6, uw6, rfl, g6, g7⟩, hAf, hs⟩
                      obtain ⟨rfl, rfl⟩ := made_after hM z1 z2 hvl hSd hAf
                      obtain ⟨aul6, cul6, rfl⟩ := RL.shape g6
                      obtain ⟨auw6, cuw6, rfl⟩ := RI.shape g7
                      refine .go ?_
                      refine .z 9 rfl zm ?_; refine .z 10 rfl zex ?_; refine .z 11 rfl zex ?_
                      refine .e1 (i := 12) (by kernel_rfl) rfl rfl .none hs ?_
                      refine .alloc hs Tryz.zeroValue27 rfl ?_; intro b18 w hs
                      refine .go ?_
                      refine .e1 (i := 13) (by kernel_rfl) rfl rfl .none hs ?_
                      refine .stores (vs := [_, _, _, _]) hs rfl rfl Tryz.sizeOf27 ?_; intro w hs
                      refine .go ?_
                      refine .z 14 rfl zg ?_; refine .done (by kernel_rfl) hs ?_
                      exact nT ⟨_, H6x, _, _, _, _, vs, by repeat (first | exact .nil rfl rfl | refine .cons rfl ?_), hleht.trans hle6x, hSd, g6, g7, hs.sub (by repeat (first | exact Sub.refl _ | constructor | apply Sub.weaken))⟩
                    · refine .alloc hs Tryz.zeroValue27 rfl ?_; intro b18 w hs
                      refine .go ?_
                      refine .e1 (i := 8) (by kernel_rfl) rfl rfl .none hs ?_
                      refine .call Tryz.call27 rfl (probe_After_spec (a := a) (l := l1) (vs := vs) hs ⟨_, _, rfl, k1.mono hleht, k2.mono hleht⟩ (hR110.mono hleht) ⟨_, rfl, hRv⟩) ?_; rintro _ w ⟨H6x, _, q, e6, hle6x, rfl, ⟨ul6, uw6, rfl, g6, g7⟩, hAf, hs⟩
                      obtain ⟨rfl, rfl⟩ := made_after hM z1 z2 hvl hSd hAf
                      obtain ⟨aul6, cul6, rfl⟩ := RL.shape g6
                      obtain ⟨auw6, cuw6, rfl⟩ := RI.shape g7
                      refine .go ?_
                      refine .z 9 rfl zm ?_; refine .z 10 rfl zex ?_; refine .z 11 rfl zex ?_
                      refine .e1 (i := 13) (by kernel_rfl) rfl rfl .none hs ?_
                      refine .stores (vs := [_, _, _, _]) hs rfl rfl Tryz.sizeOf27 ?_; intro w hs
                      refine .go ?_
                      refine .z 14 rfl zg ?_; refine .done (by kernel_rfl) hs ?_
                      exact nT ⟨_, H6x, _, _, _, _, vs, by repeat (first | exact .nil rfl rfl | refine .cons rfl ?_), hleht.trans hle6x, hSd, g6, g7, hs.sub (by repeat (first | exact Sub.refl _ | constructor | apply Sub.weaken))⟩
                  · refine .alloc hs Tryz.zeroValue27 rfl ?_; intro b18 w hs
                    refine .go ?_
                    refine .e1 (i := 7) (by kernel_rfl) rfl rfl .none hs ?_
                    refine .call Tryz.call38 rfl (ref09_Told_spec (n := a.sys.many) hs (hR110.mono hleh) hRx (hns.mono (hle15.trans hleh)) z2 (by omega) (by omega) hnl (fun v hv => hxb v (by omega))) ?_; rintro _ w ⟨Ht, hlet, ⟨vv, rfl, hRv⟩, hs⟩
                    have hvl := toldV_length l1 x noise l1.length
                    have hTd := toldV_told (a := a) (l := l1) (x := x) (picks := noise) z2 hx0
                    generalize toldV l1 x noise l1.length = vs at hRv hvl hTd
                    obtain ⟨av, cv, rfl⟩ := RI.shape hRv
                    have hleht := hleh.trans hlet
                    have hSd := beh_sound (made_prb hM z2) hxf hTd
                    refine .go ?_
                    refine .e1 (i := 8) (by kernel_rfl) rfl rfl .none hs ?_
                    refine .call Tryz.call27 rfl (probe_After_spec (a := a) (l := l1) (vs := vs) hs ⟨_, _, rfl, k1.mono hleht, k2.mono hleht⟩ (hR110.mono hleht) ⟨_, rfl, hRv⟩) ?_; rintro _ w ⟨H6x, _, q, e6, hle6x, rfl, ⟨ul6, uw6, rfl, g6, g7⟩, hAf, hs⟩
                    obtain ⟨rfl, rfl⟩ := made_after hM z1 z2 hvl hSd hAf
                    obtain ⟨aul6, cul6, rfl⟩ := RL.shape g6
                    obtain ⟨auw6, cuw6, rfl⟩ := RI.shape g7
                    refine .go ?_
                    refine .z 9 rfl zm ?_; refine .z 10 rfl zex ?_; refine .z 11 rfl zex ?_
                    refine .e1 (i := 13) (by kernel_rfl) rfl rfl .none hs ?_
                    refine .stores (vs := [_, _, _, _]) hs rfl rfl Tryz.sizeOf27 ?_; intro w hs
                    refine .go ?_
                    refine .z 14 rfl zg ?_; refine .done (by kernel_rfl) hs ?_
                    exact nT ⟨_, H6x, _, _, _, _, vs, by repeat (first | exact .nil rfl rfl | refine .cons rfl ?_), hleht.trans hle6x, hSd, g6, g7, hs.sub (by repeat (first | exact Sub.refl _ | constructor | apply Sub.weaken))⟩
                · refine .alloc hs Tryz.zeroValue27 rfl ?_; intro b18 w hs
                  refine .go ?_
                  refine .e1 (i := 5) (by kernel_rfl) rfl rfl .none hs ?_
                  refine .call Tryz.call39 rfl (ref09_Hull_spec (a := a) hs ⟨_, _, rfl, k1, k2⟩ (hpk.mono hle15)) ?_; rintro _ w ⟨Hh, x, eh, hleh, hRx, hPt, hs⟩
                  obtain ⟨rfl, hPP⟩ := made_hull hM hPt
                  obtain ⟨hxl, hx0, hxb, hxf⟩ := hPP.feas hM.ok hM.hull
                  obtain ⟨ax, cx, rfl⟩ := RI.shape hRx
                  refine .go ?_
                  refine .e1 (i := 7) (by kernel_rfl) rfl rfl .none hs ?_
                  refine .call Tryz.call38 rfl (ref09_Told_spec (n := a.sys.many) hs (hR110.mono hleh) hRx (hns.mono (hle15.trans hleh)) z2 (by omega) (by omega) hnl (fun v hv => hxb v (by omega))) ?_; rintro _ w ⟨Ht, hlet, ⟨vv, rfl, hRv⟩, hs⟩
                  have hvl := toldV_length l1 x noise l1.length
                  have hTd := toldV_told (a := a) (l := l1) (x := x) (picks := noise) z2 hx0
                  generalize toldV l1 x noise l1.length = vs at hRv hvl hTd
                  obtain ⟨av, cv, rfl⟩ := RI.shape hRv
                  have hleht := hleh.trans hlet
                  have hSd := beh_sound (made_prb hM z2) hxf hTd
                  refine .go ?_
                  refine .e1 (i := 8) (by kernel_rfl) rfl rfl .none hs ?_
                  refine .call Tryz.call27 rfl (probe_After_spec (a := a) (l := l1) (vs := vs) hs ⟨_, _, rfl, k1.mono hleht, k2.mono hleht⟩ (hR110.mono hleht) ⟨_, rfl, hRv⟩) ?_; rintro _ w ⟨H6x, _, q, e6, hle6x, rfl, ⟨ul6, uw6, rfl, g6, g7⟩, hAf, hs⟩
                  obtain ⟨rfl, rfl⟩ := made_after hM z1 z2 hvl hSd hAf
                  obtain ⟨aul6, cul6, rfl⟩ := RL.shape g6
                  obtain ⟨auw6, cuw6, rfl⟩ := RI.shape g7
                  refine .go ?_
                  refine .z 9 rfl zm ?_; refine .z 10 rfl zex ?_; refine .z 11 rfl zex ?_
                  refine .e1 (i := 13) (by kernel_rfl) rfl rfl .none hs ?_
                  refine .stores (vs := [_, _, _, _]) hs rfl rfl Tryz.sizeOf27 ?_; intro w hs
                  refine .go ?_
                  refine .z 14 rfl zg ?_; refine .done (by kernel_rfl) hs ?_
                  exact nT ⟨_, H6x, _, _, _, _, vs, by repeat (first | exact .nil rfl rfl | refine .cons rfl ?_), hleht.trans hle6x, hSd, g6, g7, hs.sub (by repeat (first | exact Sub.refl _ | constructor | apply Sub.weaken))⟩
              · rintro fs w ⟨b18, Hm, aq, cq, aw9, cw9, vs, hfs, hlem, hSd, g6, g7, hs⟩
                refine WE.sub ?_ hfs
                refine .regSeq (.y hs (zls [_, _, _, _] Tryz.isAgg27 Tryz.sizeOf27) ?_)
                refine .o (.call Tryz.call42 rfl (probe_Settled_spec (a := behQ a l1 vs) hs ⟨_, _, rfl, g6, g7⟩) ?_); rintro _ w ⟨H7, bb, e7, hle7, rfl, hS7, hs⟩
                obtain ⟨rfl, rfl⟩ : e7 = 0 ∧ bb = true := by
                  rcases hS7 with ⟨q1, q2, _⟩ | ⟨_, q1, lo, hi, q2, q3⟩
                  · exact (q2 (q1.uniq (CAskR.zero.2 (made_beh_ask hM z1 z2 hSd)))).elim
                  · have := beh_width (made_prb hM z2) q2 j2.1
                    exact ⟨q1, by rw [q3]; exact decide_eq_true (show hi - lo ≤ a.width by omega)⟩
                have hkf' : RS H3 2 (.slice akf1 css1.length ckf1) (css1.map fun c => c) := by rw [List.map_id' css1]; exact hkf1
                have hle37 := hle35.trans (hlem.trans hle7)
                have hle17 := hle13.trans hle37
                refine .z zm (.z zex (.z zex (.z zg (.z zg (.nil (.seq (.regSeq (.z zm (.z zneq ?_)))))))))
                refine .z zm ?_
                refine .bifN (t' := 130) rfl (fun hb130 => ?_) (fun hb130 => ?_)
                · refine .gFs 2 2 false rfl rfl rfl ?_
                  refine .z zpT (.z zm ?_)
                  refine .gFs 2 6 false rfl rfl rfl ?_
                  refine .z zpT (.nil ?_)
                  refine (.condT rfl rfl ?_)
                  refine .regSeq (.z zg (.nil ?_))
                  refine .ret (rT (Fin.ret1 Tryz.results8 rfl ?_))
                  first
                    | exact ⟨rfl, H9, hleF, hs.out⟩
                    | (exfalso; first | omega | (simp at *; done) | (simp_all; done))
                · refine .gT rfl rfl ?_
                  refine .z zm ?_
                  refine .gT rfl rfl ?_
                  refine .z zneq (.z zpF (.z zm ?_))
                  refine .bifN (t' := 134) rfl (fun hb134 => ?_) (fun hb134 => ?_)
                  · refine .gFs 2 6 false rfl rfl rfl ?_
                    refine .z zpT (.nil ?_)
                    refine (.condT rfl rfl ?_)
                    refine .regSeq (.z zg (.nil ?_))
                    refine .ret (rT (Fin.ret1 Tryz.results8 rfl ?_))
                    first
                      | exact ⟨rfl, H9, hleF, hs.out⟩
                      | (exfalso; first | omega | (simp at *; done) | (simp_all; done))
                  · refine .gT rfl rfl ?_
                    refine .z zm ?_
                    refine .gT rfl rfl ?_
                    refine .z znot (.z zpF (.nil ?_))
                    refine (.cond rfl (fun hc137 => ?_) (fun hc137 => ?_))
                    · refine .regSeq (.z zg (.nil ?_))
                      refine .ret (rT (Fin.ret1 Tryz.results8 rfl ?_))
                      first
                        | exact ⟨rfl, H9, hleF, hs.out⟩
                        | (exfalso; first | omega | (simp at *; done) | (simp_all; done))
                    · refine .skip ?_
                      refine nT ?_
                      refine .seq (.regSeq (.z zg (.nil (.block ?_))))
                      refine .loop (fun p : Nat => ⟨187, [], [(22, I (p : Int)), (11, .slice aT (choicesL l.length).length cT), (9, .pointer (some ⟨b9, 0, none⟩)), (8, .slice aP l.length cP), (7, .pointer (some ⟨b7, 0, none⟩))]⟩)
                        (fun p w => p ≤ css1.length ∧ ∃ Hk, HLe H7 Hk ∧ St Hk w (.blk b9 [.slice akp1 p1.probes.length ckp1, I p1.width, I p1.bound, .slice aku1 p1.uses.length cku1, .slice akf1 css1.length ckf1] :: .blk b7 [I a.sys.many, .slice aul a.sys.lims.length cul, .slice auw a.ws.length cuw, I a.width] :: σ))
                        (fun p => css1.length - p) 0 (by repeat (first | exact .nil rfl rfl | refine .cons rfl ?_))
                        ⟨by omega, H7, HLe.refl _, hs.sub (by repeat (first | exact Sub.refl _ | constructor | apply Sub.weaken))⟩ ?_
                      rintro k w ⟨hk, Hk, hleK, hs⟩
                      have hle3K := hle37.trans hleK
                      refine .seq (.regSeq (.z zm (.z (zfa fa_api_Pick_3) (.y hs (zld Tryz.isAgg64) (.z (zlen Tryz.runUnderlying64) (.z zlss (.nil ?_)))))))
                      refine (.condD rfl (fun hc142 => ?_) (fun hc142 => ?_))
                      · refine .skip ?_
                        refine nT ?_
                        refine .seq (.block (.regSeq (.z zm (.z zm (.z zm ?_)))))
                        have hk' : k < css1.length := by omega
                        have hkL' : k < (choicesL l.length).length := by omega
                        obtain ⟨q1, q2, q3, q4⟩ := choice_ok hPl (List.mem_of_getElem? (gr_get hkL'))
                        obtain ⟨va, vb, hcs, hA, hB⟩ := RPick.twin (p := p1) hkl1 hkt1 (j := k) (by omega)
                        obtain ⟨hwide, hF⟩ : (∀ m, PairS a (chosenL l (gr (choicesL l.length) k)) m → a.width < m) ∧ TwinF a (chosenL l (gr (choicesL l.length) k)) (gtw p1 k).1 (gtw p1 k).2 := by
                          obtain ⟨y1, t, y2, y3⟩ := j6 k _ (by omega) (gr_get hkL')
                          have et : gtw p1 k = t := by
                            have := gtw_get (p := p1) (j := k) (by omega)
                            rw [y2] at this
                            exact (Option.some.inj this).symm
                          exact ⟨y1, by rw [et]; exact twin_facts hok q2 (by exact y3)⟩
                        obtain ⟨aA, cA, rfl⟩ := RI.shape hA
                        obtain ⟨aB, cB, rfl⟩ := RI.shape hB
                        refine .ixT hs (hRT.mono hle3K) rfl rfl Tryz.runUnderlying29 Tryz.sizeOf25 hkL' rfl ?_; intro b148 o148 a148 c148 hc148 hR148
                        refine .q hs (q_loadR rfl Tryz.isAgg25 hc148) ?_
                        refine .o (.call Tryz.call41 rfl (ref09_Chosen_spec hs (hRP.mono hle3K) hR148 q4 (by omega)) ?_); rintro v150 w ⟨H10, hle10, hR150, hs⟩
                        generalize chosenL l (gr (choicesL l.length) k) = lk at hR150 hwide hF q1 q2
                        obtain ⟨a150, c150, rfl⟩ := RPs.shape hR150
                        have hle310 := hle3K.trans hle10
                        refine .z zg (.nil (.regSeq (.z zm (.z (zfa fa_api_Pick_3) (.y hs (zld Tryz.isAgg64) (.z zm ?_))))))
                        refine .ixX (enc := fun c => c) hs (RS.mono hkf' hle310) rfl rfl Tryz.runUnderlying64 Tryz.sizeOf39 hcs rfl ?_; intro b156 o156 hc156
                        refine .q hs (q_loadsR (vs := [_, _]) rfl Tryz.isAgg39 Tryz.sizeOf39 hc156) ?_
                        refine .o (.call Tryz.call18 rfl (probe_Meeting_spec hs hR150 (hA.mono hle310) (hB.mono hle310) (by omega)) ?_); rintro _ w ⟨H11, vo, e11, hle11, rfl, he11, hO, hs⟩
                        rw [hF.meet] at he11
                        subst he11
                        rw [if_pos rfl] at hO
                        have hmvl : (meetVals (gtw p1 k).1 (gtw p1 k).2 lk).length = lk.length := by simp [meetVals]
                        have hSdk := beh_sound (made_prb hM q2) hF.kA.feas (meet_told hF).1
                        have hmw := fun lo hi hR => meet_width (lo := lo) (hi := hi) hok (made_prb hM q2) hF hR hF.most
                        have hwk := hwide _ hF.most
                        generalize meetVals (gtw p1 k).1 (gtw p1 k).2 lk = ok at hO hmvl hSdk hmw
                        obtain ⟨aO, cO, rfl⟩ := RI.shape hO
                        have hle311 := hle310.trans hle11
                        refine .z zm (.z zex (.z zex ?_))
                        refine .o (.alloc hs Tryz.zeroValue42 rfl ?_); intro b24 w hs
                        refine .o (.stores (vs := [_]) hs rfl rfl Tryz.sizeOf42 ?_); intro w hs
                        refine .z zg (.nil (.regSeq (.y hs (zls [_, _, _, _] Tryz.isAgg27 Tryz.sizeOf27) (.z zm (.y hs (zls [_] Tryz.isAgg42 Tryz.sizeOf42) ?_)))))
                        refine .o (.call Tryz.call27 rfl (probe_After_spec (a := a) (l := lk) (vs := ok) hs ⟨_, _, rfl, g1.mono hle311, g2.mono hle311⟩ (hR150.mono hle11) ⟨_, rfl, hO⟩) ?_); rintro _ w ⟨H12, _, q, e12, hle12, rfl, ⟨ul8, uw8, rfl, g8, g9⟩, hAf8, hs⟩
                        obtain ⟨rfl, rfl⟩ := made_after hM q1 q2 hmvl hSdk hAf8
                        obtain ⟨aul8, cul8, rfl⟩ := RL.shape g8
                        obtain ⟨auw8, cuw8, rfl⟩ := RI.shape g9
                        refine .z zm (.z zex (.z zex ?_))
                        refine .o (.alloc hs Tryz.zeroValue27 rfl ?_); intro b26 w hs
                        refine .o (.stores (vs := [_, _, _, _]) hs rfl rfl Tryz.sizeOf27 ?_); intro w hs
                        refine .z zg (.nil (.regSeq (.y hs (zls [_, _, _, _] Tryz.isAgg27 Tryz.sizeOf27) ?_)))
                        refine .o (.call Tryz.call42 rfl (probe_Settled_spec (a := behQ a lk ok) hs ⟨_, _, rfl, g8, g9⟩) ?_); rintro _ w ⟨H13, bb, e13, hle13', rfl, hS13, hs⟩
                        obtain ⟨rfl, rfl⟩ : e13 = 0 ∧ bb = false := by
                          rcases hS13 with ⟨q1', q2', _⟩ | ⟨_, q1', lo, hi, q2', q3'⟩
                          · exact (q2' (q1'.uniq (CAskR.zero.2 (made_beh_ask hM q1 q2 hSdk)))).elim
                          · have := hmw lo hi q2'
                            exact ⟨q1', by rw [q3']; exact decide_eq_false (show ¬ hi - lo ≤ a.width by omega)⟩
                        have hleK13 := hleK.trans (hle10.trans (hle11.trans (hle12.trans hle13')))
                        refine .z zm (.z zex (.z zex (.z zg (.z zg (.nil (.regSeq (.z zm (.z zneq (.z zm ?_)))))))))
                        refine .bifN (t' := 175) rfl (fun hb175 => ?_) (fun hb175 => ?_)
                        · refine .gFs 2 2 false rfl rfl rfl ?_
                          refine .z zpT (.z zm ?_)
                          refine .gFs 2 6 false rfl rfl rfl ?_
                          refine .z zpT (.z zm ?_)
                          refine .gFs 1 10 false rfl rfl rfl ?_
                          refine .z zpT (.nil ?_)
                          refine (.condT rfl rfl ?_)
                          refine .regSeq (.z zg (.nil ?_))
                          refine .ret (rB (rT (rT (rB (rT (Fin.ret1 Tryz.results8 rfl ?_))))))
                          first
                            | exact ⟨rfl, H9, hleF, hs.out⟩
                            | (exfalso; first | omega | (simp at *; done) | (simp_all; done))
                        · refine .gT rfl rfl ?_
                          refine .z zm ?_
                          refine .gT rfl rfl ?_
                          refine .z zneq (.z zpF (.z zm ?_))
                          refine .bifN (t' := 179) rfl (fun hb179 => ?_) (fun hb179 => ?_)
                          · refine .gFs 2 6 false rfl rfl rfl ?_
                            refine .z zpT (.z zm ?_)
                            refine .gFs 1 10 false rfl rfl rfl ?_
                            refine .z zpT (.nil ?_)
                            refine (.condT rfl rfl ?_)
                            refine .regSeq (.z zg (.nil ?_))
                            refine .ret (rB (rT (rT (rB (rT (Fin.ret1 Tryz.results8 rfl ?_))))))
                            first
                              | exact ⟨rfl, H9, hleF, hs.out⟩
                              | (exfalso; first | omega | (simp at *; done) | (simp_all; done))
                          · refine .gT rfl rfl ?_
                            refine .z zm ?_
                            refine .gT rfl rfl ?_
                            refine .z zneq (.z zpF (.z zm ?_))
                            refine .bifN (t' := 183) rfl (fun hb183 => ?_) (fun hb183 => ?_)
                            · refine .gFs 1 10 false rfl rfl rfl ?_
                              refine .z zpT (.nil ?_)
                              refine (.condT rfl rfl ?_)
                              refine .regSeq (.z zg (.nil ?_))
                              refine .ret (rB (rT (rT (rB (rT (Fin.ret1 Tryz.results8 rfl ?_))))))
                              first
                                | exact ⟨rfl, H9, hleF, hs.out⟩
                                | (exfalso; first | omega | (simp at *; done) | (simp_all; done))
                            · refine .gT rfl rfl ?_
                              refine .z zm (.z zpF (.nil ?_))
                              refine (.cond rfl (fun hc185 => ?_) (fun hc185 => ?_))
                              · refine .regSeq (.z zg (.nil ?_))
                                refine .ret (rB (rT (rT (rB (rT (Fin.ret1 Tryz.results8 rfl ?_))))))
                                first
                                  | exact ⟨rfl, H9, hleF, hs.out⟩
                                  | (exfalso; first | omega | (simp at *; done) | (simp_all; done))
                              · refine .skip ?_
                                refine nB (nT ?_)
                                refine .region (.z zm (.z zadd (.z zg (.nil ?_))))
                                refine nT ?_
                                exact ⟨k + 1, .consI rfl (by push_cast; omega) (by repeat (first | exact .nil rfl rfl | refine .cons rfl ?_)), ⟨by omega, H13, hleK13, hs.sub (by repeat (first | exact Sub.refl _ | constructor | apply Sub.weaken))⟩, by omega⟩
                      · refine .exit ?_
                        refine xT (xT (xB (nT ?_)))
                        refine .regSeq ?_
                        refine .o (.call Tryz.call15 rfl (law09_sane_spec hs) ?_); rintro _ w ⟨rfl, H9, hle9, hs⟩
                        have hleF := hle13.trans (hle3K.trans hle9)
                        refine .z zg (.nil ?_)
                        refine .ret (Fin.ret1 Tryz.results8 rfl ?_)
                        first
                          | exact ⟨rfl, H9, hleF, hs.out⟩
                          | (exfalso; first | omega | (simp at *; done) | (simp_all; done))
theorem law_ProbeSettles {W : World} {v0 v1 v2 : Value} {a0 : Case} {a1 a2 : List Int} (w0 : RCaseV (hp W) v0 a0) (u0 : a0.In) (w1 : RI (hp W) v1 a1) (_ : IsIn a1) (w2 : RI (hp W) v2 a2) (u2 : IsIn a2) :
    Cl Tryz.prog 8 [v0, v1, v2] W fun v w' => v = .bool true ∧ ∃ H', HLe (hp W) H' ∧ St H' w' [] := by
  obtain ⟨cs, rfl, h⟩ := w0
  exact law_ProbeSettles_walk (St.start W) h u0.raw w1 w2 (by have := u2.1; omega)
set_option maxRecDepth 100000 in
theorem lifted_ProbeSettles (os : Os) (started : os.Started) (H : Type) (enc : TypeId × Value → H) :
    ReturnsInHanded {} Tryz.checked os 8 .any (Rows.probeSettlesSpec.pre6 enc Tryz.prog Tryz.f8 Rows.probeSettlesRow.domain false) (Rows.probeSettlesSpec.post enc Tryz.prog Tryz.f8 false true false false) := by
  refine returnsInHanded_of_change_sized (C := Tryz.checked) cl_own started (by kernel_rfl) Tryz.func8
    (ChangeSpec.witness6 (enc := enc) (C := Tryz.checked) false ⟨#[], #[.agg #[.slice none 0 0, .slice none 0 0, .slice none 0 0, .int .i64 0, .slice none 0 0], .slice none 0 0, .slice none 0 0], []⟩ 8 (by kernel_rfl) (by kernel_rfl) (by kernel_rfl) (by kernel_rfl)) ?_
  intro W base args ds gs before hval0 hW hcnd hsz _
  have hval : ∀ (j : Nat) t v, Tryz.f8.params[j]? = some t → args[j]? = some v → Value.okWide Tryz.prog W .any base t v := hval0
  have hW' := hW
  obtain ⟨p, q, hA0, hV, rfl, hfz, hnd⟩ := hW
  have hA : DataW.TrodAll enc Tryz.prog W 0 (fun _ => true) true Tryz.f8.params.toList args.toList ds p := hA0
  have hAk := hA
  rw [Tryz.params8] at hA hval
  obtain ⟨v0, vs0, d0, ds0, p0, q0, hargs, rfl, rfl, h0, r0⟩ := trodAll_cons hA
  obtain ⟨v1, vs1, d1, ds1, p1, q1, rfl, rfl, rfl, h1, r1⟩ := trodAll_cons r0
  obtain ⟨v2, vs2, d2, ds2, p2, q2, rfl, rfl, rfl, h2, r2⟩ := trodAll_cons r1
  obtain ⟨rfl, rfl, rfl⟩ := trodAll_nil r2
  obtain rfl : args = #[v0, v1, v2] := by cases args; simp_all
  obtain ⟨rfl, rfl⟩ := trodVars_none hV
  have k0 : Wt Tryz.prog 78 d0 := fun n hn => (by have := List.all_eq_true.1 hsz n (DataW.weights_mem_each (j := 0) rfl rfl n hn); simpa using this)
  obtain ⟨a0, w0, u0⟩ := open_Case (hval 0 78 v0 rfl rfl) h0 k0
  have k1 : Wt Tryz.prog 25 d1 := fun n hn => (by have := List.all_eq_true.1 hsz n (DataW.weights_mem_each (j := 1) rfl rfl n hn); simpa using this)
  obtain ⟨a1, w1, u1⟩ := open_ints (hval 1 25 v1 rfl rfl) h1 k1
  have k2 : Wt Tryz.prog 25 d2 := fun n hn => (by have := List.all_eq_true.1 hsz n (DataW.weights_mem_each (j := 2) rfl rfl n hn); simpa using this)
  obtain ⟨a2, w2, u2⟩ := open_ints (hval 2 25 v2 rfl rfl) h2 k2
  refine Calls.mono (law_ProbeSettles w0 u0 w1 u1 w2 u2) fun e W' ⟨v, he, hv, H', hle, hs⟩ => ?_
  subst he; subst hv
  have kp := St.kept hle hs
  exact ⟨_, rfl, _, _, _, [], _, [], hW', trodAll_mk1 (shut_bool Tryz.underlying4 _), Kept.trodAll cl_laid kp (by rw [Tryz.params8]; intro t ht; simp only [List.mem_cons, List.not_mem_nil, or_false] at ht; rcases ht with rfl | rfl | rfl <;> exact ⟨by kernel_rfl, of_decide_eq_true (by kernel_rfl)⟩) hAk, rfl, kp.frame _, fun h => by cases h⟩
theorem closed_ProbeSettles : joinedFacts Tryz.prog 8 Tryz.f8 Rows.probeSettlesSpec Rows.probeSettlesRow = true := by
  unfold joinedFacts
  exact (band (band (band (band (band (band (band (band (band (band (band (band (band (band (band (band (band (band (band (band (band (band (band (band (band (band (band (band (band (band (band (by kernel_rfl) cl_laid) cl_maps) (by kernel_rfl)) (by kernel_rfl)) (by kernel_rfl)) (beqT cl_stops)) (by kernel_rfl)) (beqT cl_knobs)) (by kernel_rfl)) (by kernel_rfl)) (by kernel_rfl)) (by kernel_rfl)) (by kernel_rfl)) (by kernel_rfl)) (by kernel_rfl)) (by kernel_rfl)) (by kernel_rfl)) (by kernel_rfl)) (by kernel_rfl)) (by kernel_rfl)) (by kernel_rfl)) (beqT cl_keys.symm)) (by kernel_rfl)) cl_heard) cl_enter) (beqT cl_lifts.symm)) (beqT cl_make)) (by kernel_rfl)) (by kernel_rfl)) (by kernel_rfl)) (by kernel_rfl))
theorem proved_ProbeSettles : Rows.ProbeSettlesSaid :=
  OpenClaim.holds_of_wide 8 Tryz.f8 rfl rfl rfl rfl rfl rfl rfl ⟨rfl, rfl, rfl, rfl, rfl⟩ rfl rfl rfl rfl rfl (by kernel_rfl) Tryz.func8 closed_ProbeSettles
    (of_decide_eq_true (by kernel_rfl)) (by unfold Func.isWrapper; first | (rw [if_pos (by decide +kernel)]; kernel_rfl) | (rw [if_neg (by decide +kernel)]; exact ⟨rfl, rfl⟩))
    (fun os started H enc _ => lifted_ProbeSettles os started H enc)
end Go.Proofs.YtiiokdeehlfeeaaGreat
