/-
  ProbeTurns holds for every input: the statement's function returns true and never panics, for each case, each picks and each noise.
-/
import Derived.Test.YtiiokdeehlfeeaaQe
import Derived.Test.YtiiokdeehlfeeaaRows
import Derived.OpenShut
import Derived.ProofKit
import Derived.ShutString
import Derived.ChangeOld
namespace Go.Proofs.Ytiiokdeehlfeeaa
open Go.MW Go.ChangeShapes Go.WideShapes Go.ChangeAt Go.RowKit
set_option maxHeartbeats 4000000 in
theorem law_ProbeTurns_walk {H : Heap} {w : World} {σ : List Ent} {cs : List Value} {vk vn : Value} {c : Case} {picks noise : List Int} (hs : St H w σ) (hr : RCase H cs c) (hin : c.raw.In) (hpk : RI H vk picks) (hns : RI H vn noise) (hnl : noise.length ≤ 4611686018427387904) :
    Cl Try.prog 7 [.agg cs.toArray, vk, vn] w fun v w' => v = .bool true ∧ ∃ H', HLe H H' ∧ St H' w' σ := by
  obtain ⟨rs, vp, rfl, hrr, hp⟩ := hr
  have hrr' := hrr
  obtain ⟨vh, vl, vw, rfl, h1, h2, h3⟩ := hrr'
  obtain ⟨ak, ck, rfl⟩ := RI.shape hpk
  obtain ⟨an, cn, rfl⟩ := RI.shape hns
  have hM := madeQ_made c.raw
  generalize hq : madeQ c.raw = a at hM
  have hmany : a.sys.many = (mN c.raw : Int) := by rw [← hq]; rfl
  have hPl := fun p => prbsOf_in (a := a) hM.many.1 (l := c.prbs) (most := 6) (p := p)
  have hPn : (prbsOf a.sys.many c.prbs 6).length ≤ 6 := by rw [prbsOf_len]; omega
  rw [hmany] at hPl hPn
  generalize hl : prbsOf (mN c.raw : Int) c.prbs 6 = l at hPl hPn
  have hmn := hM.many
  have hnn : (a.sys.n : Int) = a.sys.many + 1 := by simp only [Syst.n]; omega
  refine Cl.of Try.func7 rfl Try.ntmps7 (by simp) (args_cons (k := 0) rfl (args_cons (k := 1) rfl (args_cons (k := 2) rfl (args0)))) ?_
  refine .regSeq ?_
  refine .o (.box hs rfl rfl ?_); intro b3 w hs
  refine .z zg (.nil (.regSeq (.y hs (zls [_, _, _, _, _] Try.isAgg28 Try.sizeOf28) ?_)))
  refine .o (.call Try.call22 rfl (law09_made_spec (most := 6) hs ⟨[_, _, _, _], _, rfl, ⟨_, _, _, rfl, h1, h2, h3⟩, hp⟩ hin (by decide)) ?_); rintro _ w ⟨H1, va, vP, hle1, rfl, hRA, hRP, hs⟩
  rw [hq] at hRA; rw [hl] at hRP
  obtain ⟨ul, uw, rfl, g1, g2⟩ := hRA
  obtain ⟨aul, cul, rfl⟩ := RL.shape g1
  obtain ⟨auw, cuw, rfl⟩ := RI.shape g2
  obtain ⟨aP, cP, rfl⟩ := RPs.shape hRP
  refine .z zm (.z zex (.z zex ?_))
  refine .o (.alloc hs Try.zeroValue34 rfl ?_); intro b7 w hs
  refine .o (.stores (vs := [_, _, _, _]) hs rfl rfl Try.sizeOf34 ?_); intro w hs
  refine .z zg (.nil (.regSeq (.z zm (.z zm (.z (zlen Try.runUnderlying35) (.z zadd ?_))))))
  refine .o (.call Try.call25 rfl (ref02_Pick_spec hs (hpk.mono hle1) (by decide) (by omega)) ?_); rintro _ w ⟨rfl, hs⟩
  have hk1 := pickI_bd picks 0 (n := (l.length : Int) + 1) (by omega)
  generalize pickI picks 0 ((l.length : Int) + 1) = kk at hk1 ⊢
  obtain ⟨k, rfl⟩ := Int.eq_ofNat_of_zero_le hk1.1
  have hkl : k ≤ l.length := by omega
  have hPone : ∀ p ∈ l.take k, PrbIn a p := fun p h => hPl p (List.mem_of_mem_take h)
  have hPtwo : ∀ p ∈ l.drop k, PrbIn a p := fun p h => hPl p (List.mem_of_mem_drop h)
  have hOne : (l.take k).length ≤ 8 := by rw [List.length_take]; omega
  have hTwo : (l.drop k).length ≤ 8 := by rw [List.length_drop]; omega
  have hlcap := (RPs.len hRP).2.1
  refine .z zg (.nil (.regSeq ?_))
  refine .o (.buildSlice (cells := []) hs bls_sl_api_Probe_0 rfl rfl ?_); intro b30 w hs
  refine .z zm (.z zm ?_)
  refine .q hs (q_sliceHX (k := k) rfl rfl Try.runUnderlying35 Try.sizeOf48 rfl (by omega)) ?_
  refine .o (.append (xs := []) hs app_sl_api_Probe_api_Probe rfl rfl (.full (len := 0) rfl) (.rs (RS.head hRP (k := k) (by omega))) (fun v hv => Prbs_cell (l.take k) v (by rw [← List.map_take] at hv; exact hv)) (fun l' h => by simp at h; obtain rfl : l' = 0 := (by omega); rw [List.length_take, List.length_map]; omega) ?_); intro v34 en34 w hO hs
  rw [List.nil_append, ← List.map_take] at hO
  obtain ⟨H2, hle2, hR1, hs⟩ := OwnS.publish (m := 2) hO (fun c hc => by simp only [List.mem_map] at hc; obtain ⟨x, _, rfl⟩ := hc; rfl) (by omega) (by rw [List.length_map]; omega) hs .here
  obtain ⟨a34, c34, rfl⟩ := RPs.shape (l := l.take k) hR1
  replace g1 := g1.mono hle2; replace g2 := g2.mono hle2; replace hRP := hRP.mono hle2
  refine .z zg (.nil (.regSeq ?_))
  refine .o (.buildSlice (cells := []) hs bls_sl_api_Probe_0 rfl rfl ?_); intro b35 w hs
  refine .z zm (.z zm ?_)
  refine .q hs (q_sliceLX (k := k) rfl rfl Try.runUnderlying35 Try.sizeOf48 rfl (by omega)) ?_
  refine .o (.append (xs := []) hs app_sl_api_Probe_api_Probe rfl rfl (.full (len := 0) rfl) (.rs (RS.tail hRP (k := k) (by omega))) (fun v hv => Prbs_cell (l.drop k) v (by rw [← List.map_drop] at hv; exact hv)) (fun l' h => by simp at h; obtain rfl : l' = 0 := (by omega); rw [List.length_drop, List.length_map]; omega) ?_); intro v39 en39 w hO hs
  rw [List.nil_append, ← List.map_drop] at hO
  obtain ⟨H3, hle3, hR2, hs⟩ := OwnS.publish (m := 2) hO (fun c hc => by simp only [List.mem_map] at hc; obtain ⟨x, _, rfl⟩ := hc; rfl) (by omega) (by rw [List.length_map]; omega) hs .here
  obtain ⟨a39, c39, rfl⟩ := RPs.shape (l := l.drop k) hR2
  replace g1 := g1.mono hle3; replace g2 := g2.mono hle3; replace hRP := hRP.mono hle3; replace hR1 := RS.mono hR1 hle3
  refine .z zg (.nil (.regSeq (.y hs (zls [_, _, _, _] Try.isAgg34 Try.sizeOf34) (.z zm ?_))))
  refine .o (.call Try.call23 rfl (probe_Worst_spec (a := a) hs ⟨_, _, rfl, g1, g2⟩ hRP) ?_); rintro _ w ⟨H4, _, m1, us1, e1, hle4, rfl, ⟨vu1, rfl, hU1⟩, hcase, hs⟩
  obtain ⟨rfl, ⟨hS1, -⟩⟩ := made_worst hM (by omega) hPl hcase
  obtain ⟨au1, cu1, rfl⟩ := RU.shape hU1
  replace g1 := g1.mono hle4; replace g2 := g2.mono hle4; replace hR1 : RPs _ _ (l.take k) := RS.mono hR1 hle4; replace hR2 : RPs _ _ (l.drop k) := RS.mono hR2 hle4
  have hle14 := hle1.trans (hle2.trans (hle3.trans hle4))
  refine .z zm (.z zex (.z zex (.z zex ?_)))
  refine .o (.alloc hs Try.zeroValue40 rfl ?_); intro b13 w hs
  refine .z zg ?_
  refine .o (.stores (vs := [_, _]) hs rfl rfl Try.sizeOf40 ?_); intro w hs
  refine .z zg (.nil ?_)
  refine .cut (fun fs w => ∃ b15 Hm aq cq aw9 cw9 vs, FSub fs ⟨84, [], [(15, .pointer (some ⟨b15, 0, none⟩)), (16, I 0), (14, I 0), (12, I m1), (11, .slice a39 (l.drop k).length c39)]⟩ ∧ HLe H4 Hm ∧ (behS a (l.take k) vs).Sound ∧ RL Hm (.slice aq (behS a (l.take k) vs).lims.length cq) (behS a (l.take k) vs).lims ∧ RI Hm (.slice aw9 a.ws.length cw9) a.ws ∧ St Hm w (.blk b15 [I a.sys.many, .slice aq (behS a (l.take k) vs).lims.length cq, .slice aw9 a.ws.length cw9, I a.width] :: σ)) ?_ ?_
  · refine .draw mix rfl hs ?_; intro w hs
    refine .ys 0 rfl hs [_, _, _, _] Try.isAgg34 Try.sizeOf34 ?_; refine .z 1 rfl zm ?_; refine .z 2 rfl zm ?_; refine .ys 3 rfl hs [_, _, _, _] Try.isAgg34 Try.sizeOf34 ?_; refine .z 4 rfl zm ?_; refine .z 6 rfl zm ?_
    refine .e2 (i := 5) (j := 12) (by kernel_rfl) rfl rfl rfl rfl .none .none hs ?_ ?_
    · refine .call Try.call46 rfl (ref09_Hull_spec (a := a) hs ⟨_, _, rfl, g1, g2⟩ (hpk.mono (hle14))) ?_; rintro _ w ⟨Hh, x, eh, hleh, hRx, hPt, hs⟩
      obtain ⟨rfl, hPP⟩ := made_hull hM hPt
      obtain ⟨hxl, hx0, hxb, hxf⟩ := hPP.feas hM.ok hM.hull
      obtain ⟨ax, cx, rfl⟩ := RI.shape hRx
      refine .go ?_
      refine .e2 (i := 7) (j := 12) (by kernel_rfl) rfl rfl rfl rfl .none .none hs ?_ ?_
      · refine .call Try.call45 rfl (ref09_Told_spec (n := a.sys.many) hs (hR1.mono hleh) hRx (hns.mono ((hle14).trans hleh)) hPone (by omega) (by omega) hnl (fun v hv => hxb v (by omega))) ?_; rintro _ w ⟨Ht, hlet, ⟨vv, rfl, hRv⟩, hs⟩
        have hvl := toldV_length (l.take k) x noise (l.take k).length
        have hTd := toldV_told (a := a) (l := l.take k) (x := x) (picks := noise) hPone hx0
        generalize toldV (l.take k) x noise (l.take k).length = vs at hRv hvl hTd
        obtain ⟨av, cv, rfl⟩ := RI.shape hRv
        have hleht := hleh.trans hlet
        have hSd := beh_sound (made_prb hM hPone) hxf hTd
        refine .go ?_
        refine .e2 (i := 8) (j := 12) (by kernel_rfl) rfl rfl rfl rfl .none .none hs ?_ ?_
        · refine .call Try.call44 rfl (probe_After_spec (a := a) (l := l.take k) (vs := vs) hs ⟨_, _, rfl, g1.mono hleht, g2.mono hleht⟩ (hR1.mono hleht) ⟨_, rfl, hRv⟩) ?_; rintro _ w ⟨H6, _, q, e6, hle6, rfl, ⟨ul6, uw6, rfl, g6, g7⟩, hAf, hs⟩
          obtain ⟨rfl, rfl⟩ := made_after hM hOne hPone hvl hSd hAf
          obtain ⟨aul6, cul6, rfl⟩ := RL.shape g6
          obtain ⟨auw6, cuw6, rfl⟩ := RI.shape g7
          refine .go ?_
          refine .z 9 rfl zm ?_; refine .z 10 rfl zex ?_; refine .z 11 rfl zex ?_
          refine .e1 (i := 12) (by kernel_rfl) rfl rfl .none hs ?_
          refine .alloc hs Try.zeroValue34 rfl ?_; intro b15 w hs
          refine .go ?_
          refine .e1 (i := 13) (by kernel_rfl) rfl rfl .none hs ?_
          refine .stores (vs := [_, _, _, _]) hs rfl rfl Try.sizeOf34 ?_; intro w hs
          refine .go ?_
          refine .z 14 rfl zg ?_; refine .done (by kernel_rfl) hs ?_
          exact nT ⟨_, H6, _, _, _, _, vs, by repeat (first | exact .nil rfl rfl | refine .cons rfl ?_), hleht.trans hle6, hSd, g6, g7, hs.sub (by repeat (first | exact Sub.refl _ | constructor | apply Sub.weaken))⟩
        · refine .alloc hs Try.zeroValue34 rfl ?_; intro b15 w hs
          refine .go ?_
          refine .e1 (i := 8) (by kernel_rfl) rfl rfl .none hs ?_
          refine .call Try.call44 rfl (probe_After_spec (a := a) (l := l.take k) (vs := vs) hs ⟨_, _, rfl, g1.mono hleht, g2.mono hleht⟩ (hR1.mono hleht) ⟨_, rfl, hRv⟩) ?_; rintro _ w ⟨H6, _, q, e6, hle6, rfl, ⟨ul6, uw6, rfl, g6, g7⟩, hAf, hs⟩
          obtain ⟨rfl, rfl⟩ := made_after hM hOne hPone hvl hSd hAf
          obtain ⟨aul6, cul6, rfl⟩ := RL.shape g6
          obtain ⟨auw6, cuw6, rfl⟩ := RI.shape g7
          refine .go ?_
          refine .z 9 rfl zm ?_; refine .z 10 rfl zex ?_; refine .z 11 rfl zex ?_
          refine .e1 (i := 13) (by kernel_rfl) rfl rfl .none hs ?_
          refine .stores (vs := [_, _, _, _]) hs rfl rfl Try.sizeOf34 ?_; intro w hs
          refine .go ?_
          refine .z 14 rfl zg ?_; refine .done (by kernel_rfl) hs ?_
          exact nT ⟨_, H6, _, _, _, _, vs, by repeat (first | exact .nil rfl rfl | refine .cons rfl ?_), hleht.trans hle6, hSd, g6, g7, hs.sub (by repeat (first | exact Sub.refl _ | constructor | apply Sub.weaken))⟩
      · refine .alloc hs Try.zeroValue34 rfl ?_; intro b15 w hs
        refine .go ?_
        refine .e1 (i := 7) (by kernel_rfl) rfl rfl .none hs ?_
        refine .call Try.call45 rfl (ref09_Told_spec (n := a.sys.many) hs (hR1.mono hleh) hRx (hns.mono ((hle14).trans hleh)) hPone (by omega) (by omega) hnl (fun v hv => hxb v (by omega))) ?_; rintro _ w ⟨Ht, hlet, ⟨vv, rfl, hRv⟩, hs⟩
        have hvl := toldV_length (l.take k) x noise (l.take k).length
        have hTd := toldV_told (a := a) (l := l.take k) (x := x) (picks := noise) hPone hx0
        generalize toldV (l.take k) x noise (l.take k).length = vs at hRv hvl hTd
        obtain ⟨av, cv, rfl⟩ := RI.shape hRv
        have hleht := hleh.trans hlet
        have hSd := beh_sound (made_prb hM hPone) hxf hTd
        refine .go ?_
        refine .e1 (i := 8) (by kernel_rfl) rfl rfl .none hs ?_
        refine .call Try.call44 rfl (probe_After_spec (a := a) (l := l.take k) (vs := vs) hs ⟨_, _, rfl, g1.mono hleht, g2.mono hleht⟩ (hR1.mono hleht) ⟨_, rfl, hRv⟩) ?_; rintro _ w ⟨H6, _, q, e6, hle6, rfl, ⟨ul6, uw6, rfl, g6, g7⟩, hAf, hs⟩
        obtain ⟨rfl, rfl⟩ := made_after hM hOne hPone hvl hSd hAf
        obtain ⟨aul6, cul6, rfl⟩ := RL.shape g6
        obtain ⟨auw6, cuw6, rfl⟩ := RI.shape g7
        refine .go ?_
        refine .z 9 rfl zm ?_; refine .z 10 rfl zex ?_; refine .z 11 rfl zex ?_
        refine .e1 (i := 13) (by kernel_rfl) rfl rfl .none hs ?_
        refine .stores (vs := [_, _, _, _]) hs rfl rfl Try.sizeOf34 ?_; intro w hs
        refine .go ?_
        refine .z 14 rfl zg ?_; refine .done (by kernel_rfl) hs ?_
        exact nT ⟨_, H6, _, _, _, _, vs, by repeat (first | exact .nil rfl rfl | refine .cons rfl ?_), hleht.trans hle6, hSd, g6, g7, hs.sub (by repeat (first | exact Sub.refl _ | constructor | apply Sub.weaken))⟩
    · refine .alloc hs Try.zeroValue34 rfl ?_; intro b15 w hs
      refine .go ?_
      refine .e1 (i := 5) (by kernel_rfl) rfl rfl .none hs ?_
      refine .call Try.call46 rfl (ref09_Hull_spec (a := a) hs ⟨_, _, rfl, g1, g2⟩ (hpk.mono (hle14))) ?_; rintro _ w ⟨Hh, x, eh, hleh, hRx, hPt, hs⟩
      obtain ⟨rfl, hPP⟩ := made_hull hM hPt
      obtain ⟨hxl, hx0, hxb, hxf⟩ := hPP.feas hM.ok hM.hull
      obtain ⟨ax, cx, rfl⟩ := RI.shape hRx
      refine .go ?_
      refine .e1 (i := 7) (by kernel_rfl) rfl rfl .none hs ?_
      refine .call Try.call45 rfl (ref09_Told_spec (n := a.sys.many) hs (hR1.mono hleh) hRx (hns.mono ((hle14).trans hleh)) hPone (by omega) (by omega) hnl (fun v hv => hxb v (by omega))) ?_; rintro _ w ⟨Ht, hlet, ⟨vv, rfl, hRv⟩, hs⟩
      have hvl := toldV_length (l.take k) x noise (l.take k).length
      have hTd := toldV_told (a := a) (l := l.take k) (x := x) (picks := noise) hPone hx0
      generalize toldV (l.take k) x noise (l.take k).length = vs at hRv hvl hTd
      obtain ⟨av, cv, rfl⟩ := RI.shape hRv
      have hleht := hleh.trans hlet
      have hSd := beh_sound (made_prb hM hPone) hxf hTd
      refine .go ?_
      refine .e1 (i := 8) (by kernel_rfl) rfl rfl .none hs ?_
      refine .call Try.call44 rfl (probe_After_spec (a := a) (l := l.take k) (vs := vs) hs ⟨_, _, rfl, g1.mono hleht, g2.mono hleht⟩ (hR1.mono hleht) ⟨_, rfl, hRv⟩) ?_; rintro _ w ⟨H6, _, q, e6, hle6, rfl, ⟨ul6, uw6, rfl, g6, g7⟩, hAf, hs⟩
      obtain ⟨rfl, rfl⟩ := made_after hM hOne hPone hvl hSd hAf
      obtain ⟨aul6, cul6, rfl⟩ := RL.shape g6
      obtain ⟨auw6, cuw6, rfl⟩ := RI.shape g7
      refine .go ?_
      refine .z 9 rfl zm ?_; refine .z 10 rfl zex ?_; refine .z 11 rfl zex ?_
      refine .e1 (i := 13) (by kernel_rfl) rfl rfl .none hs ?_
      refine .stores (vs := [_, _, _, _]) hs rfl rfl Try.sizeOf34 ?_; intro w hs
      refine .go ?_
      refine .z 14 rfl zg ?_; refine .done (by kernel_rfl) hs ?_
      exact nT ⟨_, H6, _, _, _, _, vs, by repeat (first | exact .nil rfl rfl | refine .cons rfl ?_), hleht.trans hle6, hSd, g6, g7, hs.sub (by repeat (first | exact Sub.refl _ | constructor | apply Sub.weaken))⟩
  · rintro fs w ⟨b15, Hm, aq, cq, aw9, cw9, vs, hfs, hlem, hSd, g6, g7, hs⟩
    refine WE.sub ?_ hfs
    refine .regSeq (.y hs (zls [_, _, _, _] Try.isAgg34 Try.sizeOf34) (.z zm ?_))
    refine .o (.call Try.call23 rfl (probe_Worst_spec (a := behQ a (l.take k) vs) (l := l.drop k) hs ⟨_, _, rfl, g6, g7⟩ (RS.mono hR2 hlem)) ?_); rintro _ w ⟨H7, _, m2, us2, e2, hle7, rfl, ⟨vu2, rfl, hU2⟩, hcase2, hs⟩
    obtain ⟨rfl, hS2⟩ : e2 = 0 ∧ PairS (behQ a (l.take k) vs) (l.drop k) m2 := by
      rcases hcase2 with ⟨h1, h2, _⟩ | ⟨_, h1, h2, _⟩
      · exact (h2 (h1.uniq (made_beh_prbs hM hOne hPone hSd hTwo hPtwo))).elim
      · exact ⟨h1, h2⟩
    obtain ⟨au2, cu2, rfl⟩ := RU.shape hU2
    have hlast : m2 ≤ m1 := beh_turn (made_prb hM hPone) hS2 (by rw [List.take_append_drop]; exact hS1)
    refine .z zm (.z zex (.z zex (.z zex ?_)))
    refine .o (.alloc hs Try.zeroValue40 rfl ?_); intro b18 w hs
    refine .z zg ?_
    refine .o (.stores (vs := [_, _]) hs rfl rfl Try.sizeOf40 ?_); intro w hs
    refine .z zg (.nil (.regSeq (.z zm (.z zeql (.z zm ?_)))))
    refine .bifD (t' := 68) rfl (fun hb68 => ?_) (fun hb68 => ?_)
    · refine .gT rfl rfl ?_
      refine .z zm ?_
      refine .gT rfl rfl ?_
      refine .z zeql (.z zpT (.z zm ?_))
      refine .bifD (t' := 72) rfl (fun hb72 => ?_) (fun hb72 => ?_)
      · refine .gT rfl rfl ?_
        refine .z zm ?_
        refine .gT rfl rfl ?_
        refine .z zeql (.z zpT (.z zm ?_))
        refine .bifD (t' := 76) rfl (fun hb76 => ?_) (fun hb76 => ?_)
        · refine .gT rfl rfl ?_
          refine .z zm ?_
          refine .gT rfl rfl ?_
          refine .z zm ?_
          refine .gT rfl rfl ?_
          refine .z zleq (.z zpT (.z zm ?_))
          refine .bifD (t' := 81) rfl (fun hb81 => ?_) (fun hb81 => ?_)
          · refine .gT rfl rfl ?_
            refine .o (.call Try.call26 rfl (law09_sane_spec hs) ?_); rintro _ w ⟨rfl, H8, hle8, hs⟩
            refine .z zpT (.z zg (.nil ?_))
            refine .ret (Fin.ret1 Try.results7 rfl ?_)
            first | exact ⟨rfl, H8, hle14.trans (hlem.trans (hle7.trans hle8)), hs.out⟩ | (exfalso; first | omega | (simp_all; done))
          · refine .gFs 1 15 true rfl rfl rfl ?_
            refine .z zpF (.z zg (.nil ?_))
            refine .ret (Fin.ret1 Try.results7 rfl ?_)
            first | exact ⟨rfl, H8, hle14.trans (hlem.trans (hle7.trans hle8)), hs.out⟩ | (exfalso; first | omega | (simp_all; done))
        · refine .gFs 3 10 true rfl rfl rfl ?_
          refine .z zpF (.z zm ?_)
          refine .gFs 1 15 true rfl rfl rfl ?_
          refine .z zpF (.z zg (.nil ?_))
          refine .ret (Fin.ret1 Try.results7 rfl ?_)
          first | exact ⟨rfl, H8, hle14.trans (hlem.trans (hle7.trans hle8)), hs.out⟩ | (exfalso; first | omega | (simp_all; done))
      · refine .gFs 2 6 true rfl rfl rfl ?_
        refine .z zpF (.z zm ?_)
        refine .gFs 3 10 true rfl rfl rfl ?_
        refine .z zpF (.z zm ?_)
        refine .gFs 1 15 true rfl rfl rfl ?_
        refine .z zpF (.z zg (.nil ?_))
        refine .ret (Fin.ret1 Try.results7 rfl ?_)
        first | exact ⟨rfl, H8, hle14.trans (hlem.trans (hle7.trans hle8)), hs.out⟩ | (exfalso; first | omega | (simp_all; done))
    · refine .gFs 2 2 true rfl rfl rfl ?_
      refine .z zpF (.z zm ?_)
      refine .gFs 2 6 true rfl rfl rfl ?_
      refine .z zpF (.z zm ?_)
      refine .gFs 3 10 true rfl rfl rfl ?_
      refine .z zpF (.z zm ?_)
      refine .gFs 1 15 true rfl rfl rfl ?_
      refine .z zpF (.z zg (.nil ?_))
      refine .ret (Fin.ret1 Try.results7 rfl ?_)
      first | exact ⟨rfl, H8, hle14.trans (hlem.trans (hle7.trans hle8)), hs.out⟩ | (exfalso; first | omega | (simp_all; done))
theorem law_ProbeTurns {W : World} {v0 v1 v2 : Value} {a0 : Case} {a1 a2 : List Int} (w0 : RCaseV (hp W) v0 a0) (u0 : a0.In) (w1 : RI (hp W) v1 a1) (_ : IsIn a1) (w2 : RI (hp W) v2 a2) (u2 : IsIn a2) :
    Cl Try.prog 7 [v0, v1, v2] W fun v w' => v = .bool true ∧ ∃ H', HLe (hp W) H' ∧ St H' w' [] := by
  obtain ⟨cs, rfl, h⟩ := w0
  exact law_ProbeTurns_walk (St.start W) h u0.raw w1 w2 (by have := u2.1; omega)
set_option maxRecDepth 100000 in
theorem lifted_ProbeTurns (os : Os) (started : os.Started) (H : Type) (enc : TypeId × Value → H) :
    ReturnsInHanded {} Try.checked os 7 .any (Rows.probeTurnsSpec.pre6 enc Try.prog Try.f7 Rows.probeTurnsRow.domain false) (Rows.probeTurnsSpec.post enc Try.prog Try.f7 false true false false) := by
  refine returnsInHanded_of_change_sized (C := Try.checked) cl_own started (by kernel_rfl) Try.func7
    (ChangeSpec.witness6 (enc := enc) (C := Try.checked) false ⟨#[], #[.agg #[.slice none 0 0, .slice none 0 0, .slice none 0 0, .int .i64 0, .slice none 0 0], .slice none 0 0, .slice none 0 0], []⟩ 8 (by kernel_rfl) (by kernel_rfl) (by kernel_rfl) (by kernel_rfl)) ?_
  intro W base args ds gs before hval0 hW hcnd hsz _
  have hval : ∀ (j : Nat) t v, Try.f7.params[j]? = some t → args[j]? = some v → Value.okWide Try.prog W .any base t v := hval0
  have hW' := hW
  obtain ⟨p, q, hA0, hV, rfl, hfz, hnd⟩ := hW
  have hA : DataW.TrodAll enc Try.prog W 0 (fun _ => true) true Try.f7.params.toList args.toList ds p := hA0
  have hAk := hA
  rw [Try.params7] at hA hval
  obtain ⟨v0, vs0, d0, ds0, p0, q0, hargs, rfl, rfl, h0, r0⟩ := trodAll_cons hA
  obtain ⟨v1, vs1, d1, ds1, p1, q1, rfl, rfl, rfl, h1, r1⟩ := trodAll_cons r0
  obtain ⟨v2, vs2, d2, ds2, p2, q2, rfl, rfl, rfl, h2, r2⟩ := trodAll_cons r1
  obtain ⟨rfl, rfl, rfl⟩ := trodAll_nil r2
  obtain rfl : args = #[v0, v1, v2] := by cases args; simp_all
  obtain ⟨rfl, rfl⟩ := trodVars_none hV
  have k0 : Wt Try.prog 28 d0 := fun n hn => (by have := List.all_eq_true.1 hsz n (DataW.weights_mem_each (j := 0) rfl rfl n hn); simpa using this)
  obtain ⟨a0, w0, u0⟩ := open_Case (hval 0 28 v0 rfl rfl) h0 k0
  have k1 : Wt Try.prog 22 d1 := fun n hn => (by have := List.all_eq_true.1 hsz n (DataW.weights_mem_each (j := 1) rfl rfl n hn); simpa using this)
  obtain ⟨a1, w1, u1⟩ := open_ints (hval 1 22 v1 rfl rfl) h1 k1
  have k2 : Wt Try.prog 22 d2 := fun n hn => (by have := List.all_eq_true.1 hsz n (DataW.weights_mem_each (j := 2) rfl rfl n hn); simpa using this)
  obtain ⟨a2, w2, u2⟩ := open_ints (hval 2 22 v2 rfl rfl) h2 k2
  refine Calls.mono (law_ProbeTurns w0 u0 w1 u1 w2 u2) fun e W' ⟨v, he, hv, H', hle, hs⟩ => ?_
  subst he; subst hv
  have kp := St.kept hle hs
  exact ⟨_, rfl, _, _, _, [], _, [], hW', trodAll_mk1 (shut_bool Try.underlying4 _), Kept.trodAll cl_laid kp (by rw [Try.params7]; intro t ht; simp only [List.mem_cons, List.not_mem_nil, or_false] at ht; rcases ht with rfl | rfl | rfl <;> exact ⟨by kernel_rfl, of_decide_eq_true (by kernel_rfl)⟩) hAk, rfl, kp.frame _, fun h => by cases h⟩
theorem closed_ProbeTurns : joinedFacts Try.prog 7 Try.f7 Rows.probeTurnsSpec Rows.probeTurnsRow = true := by
  unfold joinedFacts
  exact (band (band (band (band (band (band (band (band (band (band (band (band (band (band (band (band (band (band (band (band (band (band (band (band (band (band (band (band (band (band (band (by kernel_rfl) cl_laid) cl_maps) (by kernel_rfl)) (by kernel_rfl)) (by kernel_rfl)) (beqT cl_stops)) (by kernel_rfl)) (beqT cl_knobs)) (by kernel_rfl)) (by kernel_rfl)) (by kernel_rfl)) (by kernel_rfl)) (by kernel_rfl)) (by kernel_rfl)) (by kernel_rfl)) (by kernel_rfl)) (by kernel_rfl)) (by kernel_rfl)) (by kernel_rfl)) (by kernel_rfl)) (by kernel_rfl)) (beqT cl_keys.symm)) (by kernel_rfl)) cl_heard) cl_enter) (beqT cl_lifts.symm)) (beqT cl_make)) (by kernel_rfl)) (by kernel_rfl)) (by kernel_rfl)) (by kernel_rfl))
theorem proved_ProbeTurns : Rows.ProbeTurnsSaid :=
  OpenClaim.holds_of_wide 7 Try.f7 rfl rfl rfl rfl rfl rfl rfl ⟨rfl, rfl, rfl, rfl, rfl⟩ rfl rfl rfl rfl rfl (by kernel_rfl) Try.func7 closed_ProbeTurns
    (of_decide_eq_true (by kernel_rfl)) (by unfold Func.isWrapper; first | (rw [if_pos (by decide +kernel)]; kernel_rfl) | (rw [if_neg (by decide +kernel)]; exact ⟨rfl, rfl⟩))
    (fun os started H enc _ => lifted_ProbeTurns os started H enc)
end Go.Proofs.Ytiiokdeehlfeeaa
