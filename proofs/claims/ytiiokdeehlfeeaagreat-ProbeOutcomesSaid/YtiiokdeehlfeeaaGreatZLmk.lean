/-
  ProbeOutcomes holds for every input: the statement's function returns true and never panics, for each case, each picks and each noise.
-/
import Derived.Test.YtiiokdeehlfeeaaGreatSf
import Derived.Test.YtiiokdeehlfeeaaGreatRows
import Derived.OpenShut
import Derived.ProofKit
import Derived.ShutString
import Derived.ChangeOld
namespace Go.Proofs.YtiiokdeehlfeeaaGreat
open Go.MW Go.ChangeShapes Go.WideShapes Go.ChangeAt Go.RowKit
set_option maxHeartbeats 4000000 in
theorem law_ProbeOutcomes_walk {H : Heap} {w : World} {σ : List Ent} {cs : List Value} {vk vn : Value} {c : Case} {picks noise : List Int} (hs : St H w σ) (hr : RCase H cs c) (hin : c.raw.In) (hpk : RI H vk picks) (hns : RI H vn noise) (hnl : noise.length ≤ 4611686018427387904) :
    Cl Tryz.prog 7 [.agg cs.toArray, vk, vn] w fun v w' => v = .bool true ∧ ∃ H', HLe H H' ∧ St H' w' σ := by
  obtain ⟨rs, vp, rfl, hrr, hp⟩ := hr
  have hrr' := hrr
  obtain ⟨vh, vl, vw, rfl, h1, h2, h3⟩ := hrr'
  obtain ⟨ak, ck, rfl⟩ := RI.shape hpk
  obtain ⟨an, cn, rfl⟩ := RI.shape hns
  have hM := madeQ_made c.raw
  generalize hq : madeQ c.raw = a at hM
  have hmany : a.sys.many = (mN c.raw : Int) := by rw [← hq]; rfl
  have hPl := fun p => prbsOf_in (a := a) hM.many.1 (l := c.prbs) (most := 6) (p := p)
  have hPn : (prbsOf a.sys.many c.prbs 6).length ≤ 6 := by rw [prbsOf_len]; omega
  rw [hmany] at hPl hPn
  generalize hl : prbsOf (mN c.raw : Int) c.prbs 6 = l at hPl hPn
  have hmn := hM.many
  have hnn : (a.sys.n : Int) = a.sys.many + 1 := by simp only [Syst.n]; omega
  refine Cl.of Tryz.func7 rfl Tryz.ntmps7 (by simp) (args_cons (k := 0) rfl (args_cons (k := 1) rfl (args_cons (k := 2) rfl (args0)))) ?_
  refine .regSeq ?_
  refine .o (.box hs rfl rfl ?_); intro b3 w hs
  refine .z zg (.nil (.regSeq (.y hs (zls [_, _, _, _, _] Tryz.isAgg78 Tryz.sizeOf78) ?_)))
  refine .o (.call Tryz.call35 rfl (law09_made_spec (most := 6) hs ⟨[_, _, _, _], _, rfl, ⟨_, _, _, rfl, h1, h2, h3⟩, hp⟩ hin (by decide)) ?_); rintro _ w ⟨H1, va, vP, hle1, rfl, hRA, hRP, hs⟩
  rw [hq] at hRA; rw [hl] at hRP
  obtain ⟨ul, uw, rfl, g1, g2⟩ := hRA
  obtain ⟨aul, cul, rfl⟩ := RL.shape g1
  obtain ⟨auw, cuw, rfl⟩ := RI.shape g2
  obtain ⟨aP, cP, rfl⟩ := RPs.shape hRP
  have hPone := hPl
  have hOne : l.length ≤ 8 := by omega
  have hC := hM.prbs hOne hPl
  have hok := hM.ask
  refine .z zm (.z zex (.z zex ?_))
  refine .o (.alloc hs Tryz.zeroValue27 rfl ?_); intro b7 w hs
  refine .o (.stores (vs := [_, _, _, _]) hs rfl rfl Tryz.sizeOf27 ?_); intro w hs
  refine .z zg (.nil (.regSeq (.y hs (zls [_, _, _, _] Tryz.isAgg27 Tryz.sizeOf27) (.z zm ?_))))
  refine .o (.call Tryz.call36 rfl (probe_Worst_spec (a := a) hs ⟨_, _, rfl, g1, g2⟩ hRP) ?_); rintro _ w ⟨H2, _, n, us, e1, hle2, rfl, ⟨vu, rfl, hU⟩, hcase, hs⟩
  obtain ⟨rfl, hSh⟩ := made_worst hM hOne hPl hcase
  obtain ⟨au, cu, rfl⟩ := RU.shape hU
  have hPf := shown_proofU hok hSh
  have hPS := hSh.1
  have hnb : 0 ≤ n ∧ n ≤ 9216000000000000000 := by
    obtain ⟨lo, hi, hR⟩ := hok.range
    have hb := hR.bd
    obtain ⟨⟨x, y, q1, q2⟩, q3⟩ := hPS
    have h1 := Pair.le hR q1
    obtain ⟨z, hz⟩ := Pair.some hok hPl
    have h2 := q3 z z hz
    omega
  replace g1 := g1.mono hle2; replace g2 := g2.mono hle2; replace hRP := hRP.mono hle2
  refine .z zm (.z zex (.z zex (.z zex ?_)))
  refine .o (.alloc hs Tryz.zeroValue63 rfl ?_); intro b10 w hs
  refine .z zg ?_
  refine .o (.stores (vs := [_, _]) hs rfl rfl Tryz.sizeOf63 ?_); intro w hs
  refine .z zg (.nil (.regSeq (.y hs (zls [_, _, _, _] Tryz.isAgg27 Tryz.sizeOf27) (.z zm ?_))))
  refine .o (.call Tryz.call21 rfl (probe_Show_spec (a := a) hs ⟨_, _, rfl, g1, g2⟩ hRP) ?_); rintro _ w ⟨H3, va5, vb5, vo5, A5, B5, o5, e5, hle3, rfl, hA5, hB5, hO5, hShow, hs⟩
  obtain ⟨rfl, hF, rfl⟩ : e5 = 0 ∧ TwinF a l A5 B5 ∧ o5 = meetVals A5 B5 l := by
    rcases hShow with ⟨q1, q2, _⟩ | ⟨_, q2, q3, q4⟩
    · exact (q2 (q1.uniq hC)).elim
    · exact ⟨q2, q3, q4⟩
  have hmvl : (meetVals A5 B5 l).length = l.length := by simp [meetVals]
  have hSd5 := beh_sound (made_prb hM hPl) hF.kA.feas (meet_told hF).1
  have hmw := fun lo hi hR => meet_width (lo := lo) (hi := hi) hok (made_prb hM hPl) hF hR hPS
  generalize meetVals A5 B5 l = o5 at hO5 hmvl hSd5 hmw
  obtain ⟨aA5, cA5, rfl⟩ := RI.shape hA5
  obtain ⟨aB5, cB5, rfl⟩ := RI.shape hB5
  obtain ⟨aO5, cO5, rfl⟩ := RI.shape hO5
  replace g1 := g1.mono hle3; replace g2 := g2.mono hle3; replace hRP := hRP.mono hle3
  refine .z zm (.z zex (.z zex (.z zex ?_)))
  refine .o (.alloc hs Tryz.zeroValue39 rfl ?_); intro b12 w hs
  refine .o (.alloc hs Tryz.zeroValue42 rfl ?_); intro b13 w hs
  refine .o (.stores (vs := [_, _]) hs rfl rfl Tryz.sizeOf39 ?_); intro w hs
  refine .o (.stores (vs := [_]) hs rfl rfl Tryz.sizeOf42 ?_); intro w hs
  refine .z zg (.nil (.regSeq (.y hs (zls [_, _, _, _] Tryz.isAgg27 Tryz.sizeOf27) (.z zm (.y hs (zls [_, _] Tryz.isAgg39 Tryz.sizeOf39) ?_)))))
  refine .o (.call Tryz.call16 rfl (probe_CheckTwins_spec (a := a) hs ⟨_, _, rfl, g1, g2⟩ hRP hA5 hB5) ?_); rintro _ w ⟨H4, n4, e4, hle4, rfl, hT4, hs⟩
  obtain ⟨rfl, rfl⟩ : n = n4 ∧ e4 = 0 := by
    obtain ⟨q1, q2⟩ := hT4.uniq (.inr ⟨hC, .ok hF.kA hF.kB hF.near⟩)
    rw [hF.wrap hok hPl] at q1
    exact ⟨by rw [q1]; exact hPS.uniq hF.most, q2⟩
  replace g1 := g1.mono hle4; replace g2 := g2.mono hle4; replace hRP := hRP.mono hle4; replace hO5 := hO5.mono hle4
  have hU4 := (RU.mono hU hle3).mono hle4
  refine .z zm (.z zex (.z zex (.z zg (.z zg (.nil (.seq (.regSeq (.z zm (.z zneq ?_)))))))))
  refine .z zm ?_
  refine .bifN (t' := 53) rfl (fun hb53 => ?_) (fun hb53 => ?_)
  · refine .gFs 2 2 false rfl rfl rfl ?_
    refine .z zpT (.z zm ?_)
    refine .gFs 2 6 false rfl rfl rfl ?_
    refine .z zpT (.z zm ?_)
    refine .gFs 3 10 false rfl rfl rfl ?_
    refine .z zpT (.z zm ?_)
    refine .gFs 6 15 false rfl rfl rfl ?_
    refine .z zpT (.z zm ?_)
    refine .gFs 7 23 false rfl rfl rfl ?_
    refine .z zpT (.nil ?_)
    refine (.condT rfl rfl ?_)
    refine .regSeq (.z zg (.nil ?_))
    refine .ret (rT (Fin.ret1 Tryz.results7 rfl ?_))
    first | exact ⟨rfl, H11, hle16.trans (hlem.trans (hle8.trans (hle9.trans (hle10.trans hle11)))), hs.out⟩ | (exfalso; first | omega | (simp_all; done))
  · refine .gT rfl rfl ?_
    refine .z zm ?_
    refine .gT rfl rfl ?_
    refine .z zneq (.z zpF (.z zm ?_))
    refine .bifN (t' := 57) rfl (fun hb57 => ?_) (fun hb57 => ?_)
    · refine .gFs 2 6 false rfl rfl rfl ?_
      refine .z zpT (.z zm ?_)
      refine .gFs 3 10 false rfl rfl rfl ?_
      refine .z zpT (.z zm ?_)
      refine .gFs 6 15 false rfl rfl rfl ?_
      refine .z zpT (.z zm ?_)
      refine .gFs 7 23 false rfl rfl rfl ?_
      refine .z zpT (.nil ?_)
      refine (.condT rfl rfl ?_)
      refine .regSeq (.z zg (.nil ?_))
      refine .ret (rT (Fin.ret1 Tryz.results7 rfl ?_))
      first | exact ⟨rfl, H11, hle16.trans (hlem.trans (hle8.trans (hle9.trans (hle10.trans hle11)))), hs.out⟩ | (exfalso; first | omega | (simp_all; done))
    · refine .gT rfl rfl ?_
      refine .z zm ?_
      refine .gT rfl rfl ?_
      refine .z zneq (.z zpF (.z zm ?_))
      refine .bifN (t' := 61) rfl (fun hb61 => ?_) (fun hb61 => ?_)
      · refine .gFs 3 10 false rfl rfl rfl ?_
        refine .z zpT (.z zm ?_)
        refine .gFs 6 15 false rfl rfl rfl ?_
        refine .z zpT (.z zm ?_)
        refine .gFs 7 23 false rfl rfl rfl ?_
        refine .z zpT (.nil ?_)
        refine (.condT rfl rfl ?_)
        refine .regSeq (.z zg (.nil ?_))
        refine .ret (rT (Fin.ret1 Tryz.results7 rfl ?_))
        first | exact ⟨rfl, H11, hle16.trans (hlem.trans (hle8.trans (hle9.trans (hle10.trans hle11)))), hs.out⟩ | (exfalso; first | omega | (simp_all; done))
      · refine .gT rfl rfl ?_
        refine .z zm ?_
        refine .gT rfl rfl ?_
        refine .z zm ?_
        refine .gT rfl rfl ?_
        refine .z zneq (.z zpF (.z zm ?_))
        refine .bifN (t' := 66) rfl (fun hb66 => ?_) (fun hb66 => ?_)
        · refine .gFs 6 15 false rfl rfl rfl ?_
          refine .z zpT (.z zm ?_)
          refine .gFs 7 23 false rfl rfl rfl ?_
          refine .z zpT (.nil ?_)
          refine (.condT rfl rfl ?_)
          refine .regSeq (.z zg (.nil ?_))
          refine .ret (rT (Fin.ret1 Tryz.results7 rfl ?_))
          first | exact ⟨rfl, H11, hle16.trans (hlem.trans (hle8.trans (hle9.trans (hle10.trans hle11)))), hs.out⟩ | (exfalso; first | omega | (simp_all; done))
        · refine .gT rfl rfl ?_
          refine .y hs (zls [_, _, _, _] Tryz.isAgg27 Tryz.sizeOf27) ?_
          refine .gT rfl rfl ?_
          refine .z zm ?_
          refine .gT rfl rfl ?_
          refine .z zm ?_
          refine .gT rfl rfl ?_
          refine .y hs (zls [_, _] Tryz.isAgg63 Tryz.sizeOf63) ?_
          refine .gT rfl rfl ?_
          refine .o (.call Tryz.call37 rfl (probe_CheckWorst_spec (a := a) (l := l) hs ⟨_, _, rfl, g1, g2⟩ hRP ⟨_, rfl, hU4⟩) ?_); rintro _ w ⟨H5, e6, hle5, rfl, hW6, hs⟩
          obtain rfl : e6 = 0 := hW6.uniq (.ok hC hPf (by omega))
          replace g1 := g1.mono hle5; replace g2 := g2.mono hle5; replace hRP := hRP.mono hle5; replace hO5 := hO5.mono hle5
          have hU5 := RU.mono hU4 hle5
          refine .gT rfl rfl ?_
          refine .z zneq (.z zpF (.z zm ?_))
          refine .bifN (t' := 74) rfl (fun hb74 => ?_) (fun hb74 => ?_)
          · refine .gFs 7 23 false rfl rfl rfl ?_
            refine .z zpT (.nil ?_)
            refine (.condT rfl rfl ?_)
            refine .regSeq (.z zg (.nil ?_))
            refine .ret (rT (Fin.ret1 Tryz.results7 rfl ?_))
            first | exact ⟨rfl, H11, hle16.trans (hlem.trans (hle8.trans (hle9.trans (hle10.trans hle11)))), hs.out⟩ | (exfalso; first | omega | (simp_all; done))
          · refine .gT rfl rfl ?_
            refine .y hs (zls [_, _, _, _] Tryz.isAgg27 Tryz.sizeOf27) ?_
            refine .gT rfl rfl ?_
            refine .z zm ?_
            refine .gT rfl rfl ?_
            refine .z zm ?_
            refine .gT rfl rfl ?_
            refine .z zsub ?_
            refine .gT rfl rfl ?_
            refine .y hs (zls [_, _] Tryz.isAgg63 Tryz.sizeOf63) ?_
            refine .gT rfl rfl ?_
            refine .o (.call Tryz.call37 rfl (probe_CheckWorst_spec (a := a) (l := l) hs ⟨_, _, rfl, g1, g2⟩ hRP ⟨_, rfl, hU5⟩) ?_); rintro _ w ⟨H6, e7, hle6, rfl, hW7, hs⟩
            obtain rfl : e7 = 94 := hW7.uniq (.more hC hPf (by omega))
            replace g1 := g1.mono hle6; replace g2 := g2.mono hle6; replace hRP := hRP.mono hle6; replace hO5 := hO5.mono hle6
            have hle16 := hle1.trans (hle2.trans (hle3.trans (hle4.trans (hle5.trans hle6))))
            refine .gT rfl rfl ?_
            refine .z zneq (.z zpF (.nil ?_))
            refine (.condN rfl (fun hc82 => ?_) (fun hc82 => ?_))
            · refine .regSeq (.z zg (.nil ?_))
              refine .ret (rT (Fin.ret1 Tryz.results7 rfl ?_))
              first | exact ⟨rfl, H11, hle16.trans (hlem.trans (hle8.trans (hle9.trans (hle10.trans hle11)))), hs.out⟩ | (exfalso; first | omega | (simp_all; done))
            · refine .skip ?_
              refine nT ?_
              refine .cut (fun fs w => ∃ b15 Hm aq cq aw9 cw9 vs, FSub fs ⟨139, [], [(17, .pointer (some ⟨b15, 0, none⟩)), (18, I 0), (13, .pointer (some ⟨b13, 0, none⟩)), (9, I n), (8, .slice aP l.length cP), (7, .pointer (some ⟨b7, 0, none⟩))]⟩ ∧ HLe H6 Hm ∧ (behS a (l) vs).Sound ∧ RL Hm (.slice aq (behS a (l) vs).lims.length cq) (behS a (l) vs).lims ∧ RI Hm (.slice aw9 a.ws.length cw9) a.ws ∧ St Hm w (.blk b15 [I a.sys.many, .slice aq (behS a (l) vs).lims.length cq, .slice aw9 a.ws.length cw9, I a.width] :: .blk b13 [.slice aO5 o5.length cO5] :: .blk b7 [I a.sys.many, .slice aul a.sys.lims.length cul, .slice auw a.ws.length cuw, I a.width] :: σ)) ?_ ?_
              · refine .draw mix rfl hs ?_; intro w hs
                refine .ys 0 rfl hs [_, _, _, _] Tryz.isAgg27 Tryz.sizeOf27 ?_; refine .z 1 rfl zm ?_; refine .z 2 rfl zm ?_; refine .ys 3 rfl hs [_, _, _, _] Tryz.isAgg27 Tryz.sizeOf27 ?_; refine .z 4 rfl zm ?_; refine .z 6 rfl zm ?_
                refine .e2 (i := 5) (j := 12) (by kernel_rfl) rfl rfl rfl rfl .none .none hs ?_ ?_
                · refine .call Tryz.call39 rfl (ref09_Hull_spec (a := a) hs ⟨_, _, rfl, g1, g2⟩ (hpk.mono (hle16))) ?_; rintro _ w ⟨Hh, x, eh, hleh, hRx, hPt, hs⟩
                  obtain ⟨rfl, hPP⟩ := made_hull hM hPt
                  obtain ⟨hxl, hx0, hxb, hxf⟩ := hPP.feas hM.ok hM.hull
                  obtain ⟨ax, cx, rfl⟩ := RI.shape hRx
                  refine .go ?_
                  refine .e2 (i := 7) (j := 12) (by kernel_rfl) rfl rfl rfl rfl .none .none hs ?_ ?_
                  · refine .call Tryz.call38 rfl (ref09_Told_spec (n := a.sys.many) hs (hRP.mono hleh) hRx (hns.mono ((hle16).trans hleh)) hPone (by omega) (by omega) hnl (fun v hv => hxb v (by omega))) ?_; rintro _ w ⟨Ht, hlet, ⟨vv, rfl, hRv⟩, hs⟩
                    have hvl := toldV_length (l) x noise (l).length
                    have hTd := toldV_told (a := a) (l := l) (x := x) (picks := noise) hPone hx0
                    generalize toldV (l) x noise (l).length = vs at hRv hvl hTd
                    obtain ⟨av, cv, rfl⟩ := RI.shape hRv
                    have hleht := hleh.trans hlet
                    have hSd := beh_sound (made_prb hM hPone) hxf hTd
                    refine .go ?_
                    refine .e2 (i := 8) (j := 12) (by kernel_rfl) rfl rfl rfl rfl .none .none hs ?_ ?_
                    · refine .call Tryz.call27 rfl (probe_After_spec (a := a) (l := l) (vs := vs) hs ⟨_, _, rfl, g1.mono hleht, g2.mono hleht⟩ (hRP.mono hleht) ⟨_, rfl, hRv⟩) ?_; rintro _ w ⟨H6x, _, q, e6, hle6x, rfl, ⟨ul6, uw6, rfl, g6, g7⟩, hAf, hs⟩
                      obtain ⟨rfl, rfl⟩ := made_after hM hOne hPone hvl hSd hAf
                      obtain ⟨aul6, cul6, rfl⟩ := RL.shape g6
                      obtain ⟨auw6, cuw6, rfl⟩ := RI.shape g7
                      refine .go ?_
                      refine .z 9 rfl zm ?_; refine .z 10 rfl zex ?_; refine .z 11 rfl zex ?_
                      refine .e1 (i := 12) (by kernel_rfl) rfl rfl .none hs ?_
                      refine .alloc hs Tryz.zeroValue27 rfl ?_; intro b17 w hs
                      refine .go ?_
                      refine .e1 (i := 13) (by kernel_rfl) rfl rfl .none hs ?_
                      refine .stores (vs := [_, _, _, _]) hs rfl rfl Tryz.sizeOf27 ?_; intro w hs
                      refine .go ?_
                      refine .z 14 rfl zg ?_; refine .done (by kernel_rfl) hs ?_
                      exact nT ⟨_, H6x, _, _, _, _, vs, by repeat (first | exact .nil rfl rfl | refine .cons rfl ?_), hleht.trans hle6x, hSd, g6, g7, hs.sub (by repeat (first | exact Sub.refl _ | constructor | apply Sub.weaken))⟩
                    · refine .alloc hs Tryz.zeroValue27 rfl ?_; intro b17 w hs
                      refine .go ?_
                      refine .e1 (i := 8) (by kernel_rfl) rfl rfl .none hs ?_
                      refine .call Tryz.call27 rfl (probe_After_spec (a := a) (l := l) (vs := vs) hs ⟨_, _, rfl, g1.mono hleht, g2.mono hleht⟩ (hRP.mono hleht) ⟨_, rfl, hRv⟩) ?_; rintro _ w ⟨H6x, _, q, e6, hle6x, rfl, ⟨ul6, uw6, rfl, g6, g7⟩, hAf, hs⟩
                      obtain ⟨rfl, rfl⟩ := made_after hM hOne hPone hvl hSd hAf
                      obtain ⟨aul6, cul6, rfl⟩ := RL.shape g6
                      obtain ⟨auw6, cuw6, rfl⟩ := RI.shape g7
                      refine .go ?_
                      refine .z 9 rfl zm ?_; refine .z 10 rfl zex ?_; refine .z 11 rfl zex ?_
                      refine .e1 (i := 13) (by kernel_rfl) rfl rfl .none hs ?_
                      refine .stores (vs := [_, _, _, _]) hs rfl rfl Tryz.sizeOf27 ?_; intro w hs
                      refine .go ?_
                      refine .z 14 rfl zg ?_; refine .done (by kernel_rfl) hs ?_
                      exact nT ⟨_, H6x, _, _, _, _, vs, by repeat (first | exact .nil rfl rfl | refine .cons rfl ?_), hleht.trans hle6x, hSd, g6, g7, hs.sub (by repeat (first | exact Sub.refl _ | constructor | apply Sub.weaken))⟩
                  · refine .alloc hs Tryz.zeroValue27 rfl ?_; intro b17 w hs
                    refine .go ?_
                    refine .e1 (i := 7) (by kernel_rfl) rfl rfl .none hs ?_
                    refine .call Tryz.call38 rfl (ref09_Told_spec (n := a.sys.many) hs (hRP.mono hleh) hRx (hns.mono ((hle16).trans hleh)) hPone (by omega) (by omega) hnl (fun v hv => hxb v (by omega))) ?_; rintro _ w ⟨Ht, hlet, ⟨vv, rfl, hRv⟩, hs⟩
                    have hvl := toldV_length (l) x noise (l).length
                    have hTd := toldV_told (a := a) (l := l) (x := x) (picks := noise) hPone hx0
                    generalize toldV (l) x noise (l).length = vs at hRv hvl hTd
                    obtain ⟨av, cv, rfl⟩ := RI.shape hRv
                    have hleht := hleh.trans hlet
                    have hSd := beh_sound (made_prb hM hPone) hxf hTd
                    refine .go ?_
                    refine .e1 (i := 8) (by kernel_rfl) rfl rfl .none hs ?_
                    refine .call Tryz.call27 rfl (probe_After_spec (a := a) (l := l) (vs := vs) hs ⟨_, _, rfl, g1.mono hleht, g2.mono hleht⟩ (hRP.mono hleht) ⟨_, rfl, hRv⟩) ?_; rintro _ w ⟨H6x, _, q, e6, hle6x, rfl, ⟨ul6, uw6, rfl, g6, g7⟩, hAf, hs⟩
                    obtain ⟨rfl, rfl⟩ := made_after hM hOne hPone hvl hSd hAf
                    obtain ⟨aul6, cul6, rfl⟩ := RL.shape g6
                    obtain ⟨auw6, cuw6, rfl⟩ := RI.shape g7
                    refine .go ?_
                    refine .z 9 rfl zm ?_; refine .z 10 rfl zex ?_; refine .z 11 rfl zex ?_
                    refine .e1 (i := 13) (by kernel_rfl) rfl rfl .none hs ?_
                    refine .stores (vs := [_, _, _, _]) hs rfl rfl Tryz.sizeOf27 ?_; intro w hs
                    refine .go ?_
                    refine .z 14 rfl zg ?_; refine .done (by kernel_rfl) hs ?_
                    exact nT ⟨_, H6x, _, _, _, _, vs, by repeat (first | exact .nil rfl rfl | refine .cons rfl ?_), hleht.trans hle6x, hSd, g6, g7, hs.sub (by repeat (first | exact Sub.refl _ | constructor | apply Sub.weaken))⟩
                · refine .alloc hs Tryz.zeroValue27 rfl ?_; intro b17 w hs
                  refine .go ?_
                  refine .e1 (i := 5) (by kernel_rfl) rfl rfl .none hs ?_
                  refine .call Tryz.call39 rfl (ref09_Hull_spec (a := a) hs ⟨_, _, rfl, g1, g2⟩ (hpk.mono (hle16))) ?_; rintro _ w ⟨Hh, x, eh, hleh, hRx, hPt, hs⟩
                  obtain ⟨rfl, hPP⟩ := made_hull hM hPt
                  obtain ⟨hxl, hx0, hxb, hxf⟩ := hPP.feas hM.ok hM.hull
                  obtain ⟨ax, cx, rfl⟩ := RI.shape hRx
                  refine .go ?_
                  refine .e1 (i := 7) (by kernel_rfl) rfl rfl .none hs ?_
                  refine .call Tryz.call38 rfl (ref09_Told_spec (n := a.sys.many) hs (hRP.mono hleh) hRx (hns.mono ((hle16).trans hleh)) hPone (by omega) (by omega) hnl (fun v hv => hxb v (by omega))) ?_; rintro _ w ⟨Ht, hlet, ⟨vv, rfl, hRv⟩, hs⟩
                  have hvl := toldV_length (l) x noise (l).length
                  have hTd := toldV_told (a := a) (l := l) (x := x) (picks := noise) hPone hx0
                  generalize toldV (l) x noise (l).length = vs at hRv hvl hTd
                  obtain ⟨av, cv, rfl⟩ := RI.shape hRv
                  have hleht := hleh.trans hlet
                  have hSd := beh_sound (made_prb hM hPone) hxf hTd
                  refine .go ?_
                  refine .e1 (i := 8) (by kernel_rfl) rfl rfl .none hs ?_
                  refine .call Tryz.call27 rfl (probe_After_spec (a := a) (l := l) (vs := vs) hs ⟨_, _, rfl, g1.mono hleht, g2.mono hleht⟩ (hRP.mono hleht) ⟨_, rfl, hRv⟩) ?_; rintro _ w ⟨H6x, _, q, e6, hle6x, rfl, ⟨ul6, uw6, rfl, g6, g7⟩, hAf, hs⟩
                  obtain ⟨rfl, rfl⟩ := made_after hM hOne hPone hvl hSd hAf
                  obtain ⟨aul6, cul6, rfl⟩ := RL.shape g6
                  obtain ⟨auw6, cuw6, rfl⟩ := RI.shape g7
                  refine .go ?_
                  refine .z 9 rfl zm ?_; refine .z 10 rfl zex ?_; refine .z 11 rfl zex ?_
                  refine .e1 (i := 13) (by kernel_rfl) rfl rfl .none hs ?_
                  refine .stores (vs := [_, _, _, _]) hs rfl rfl Tryz.sizeOf27 ?_; intro w hs
                  refine .go ?_
                  refine .z 14 rfl zg ?_; refine .done (by kernel_rfl) hs ?_
                  exact nT ⟨_, H6x, _, _, _, _, vs, by repeat (first | exact .nil rfl rfl | refine .cons rfl ?_), hleht.trans hle6x, hSd, g6, g7, hs.sub (by repeat (first | exact Sub.refl _ | constructor | apply Sub.weaken))⟩
              · rintro fs w ⟨b15, Hm, aq, cq, aw9, cw9, vs, hfs, hlem, hSd, g6, g7, hs⟩
                refine WE.sub ?_ hfs
                refine .regSeq (.y hs (zls [_, _, _, _] Tryz.isAgg27 Tryz.sizeOf27) (.z zm (.y hs (zls [_] Tryz.isAgg42 Tryz.sizeOf42) ?_)))
                refine .o (.call Tryz.call27 rfl (probe_After_spec (a := a) (l := l) (vs := o5) hs ⟨_, _, rfl, g1.mono hlem, g2.mono hlem⟩ (hRP.mono hlem) ⟨_, rfl, hO5.mono hlem⟩) ?_); rintro _ w ⟨H8, _, q8, e8, hle8, rfl, ⟨ul8, uw8, rfl, g8, g9⟩, hAf8, hs⟩
                obtain ⟨rfl, rfl⟩ := made_after hM hOne hPl hmvl hSd5 hAf8
                obtain ⟨aul8, cul8, rfl⟩ := RL.shape g8
                obtain ⟨auw8, cuw8, rfl⟩ := RI.shape g9
                refine .z zm (.z zex (.z zex ?_))
                refine .o (.alloc hs Tryz.zeroValue27 rfl ?_); intro b19 w hs
                refine .o (.stores (vs := [_, _, _, _]) hs rfl rfl Tryz.sizeOf27 ?_); intro w hs
                refine .z zg (.nil (.regSeq (.y hs (zls [_, _, _, _] Tryz.isAgg27 Tryz.sizeOf27) ?_)))
                refine .o (.call Tryz.call40 rfl (probe_Width_spec (a := behQ a l vs) hs ⟨_, _, rfl, g6.mono hle8, g7.mono hle8⟩) ?_); rintro _ w ⟨H9, n9, e9, hle9, rfl, hW9, hs⟩
                obtain ⟨rfl, hn9⟩ : e9 = 0 ∧ n9 ≤ n := by
                  rcases hW9 with ⟨q1, q2, _⟩ | ⟨_, q1, lo, hi, q2, q3⟩
                  · exact (q2 (q1.uniq (CAskR.zero.2 (made_beh_ask hM hOne hPl hSd)))).elim
                  · have := beh_width (made_prb hM hPl) q2 hPS
                    exact ⟨q1, by omega⟩
                refine .z zm (.z zex (.z zex (.z zg (.z zg (.nil (.regSeq (.y hs (zls [_, _, _, _] Tryz.isAgg27 Tryz.sizeOf27) ?_)))))))
                refine .o (.call Tryz.call40 rfl (probe_Width_spec (a := behQ a l o5) hs ⟨_, _, rfl, RL.mono g8 hle9, RI.mono g9 hle9⟩) ?_); rintro _ w ⟨H10, n10, e10, hle10, rfl, hW10, hs⟩
                obtain ⟨rfl, rfl⟩ : e10 = 0 ∧ n = n10 := by
                  rcases hW10 with ⟨q1, q2, _⟩ | ⟨_, q1, lo, hi, q2, q3⟩
                  · exact (q2 (q1.uniq (CAskR.zero.2 (made_beh_ask hM hOne hPl hSd5)))).elim
                  · exact ⟨q1, by rw [q3]; exact (hmw _ _ q2).symm⟩
                refine .z zm (.z zex (.z zex (.z zg (.z zg (.nil (.regSeq (.z zm (.z zeql (.z zm ?_)))))))))
                refine .bifD (t' := 114) rfl (fun hb114 => ?_) (fun hb114 => ?_)
                · refine .gT rfl rfl ?_
                  refine .z zm ?_
                  refine .gT rfl rfl ?_
                  refine .z zeql (.z zpT (.z zm ?_))
                  refine .bifD (t' := 118) rfl (fun hb118 => ?_) (fun hb118 => ?_)
                  · refine .gT rfl rfl ?_
                    refine .z zm ?_
                    refine .gT rfl rfl ?_
                    refine .z zeql (.z zpT (.z zm ?_))
                    refine .bifD (t' := 122) rfl (fun hb122 => ?_) (fun hb122 => ?_)
                    · refine .gT rfl rfl ?_
                      refine .z zm ?_
                      refine .gT rfl rfl ?_
                      refine .z zeql (.z zpT (.z zm ?_))
                      refine .bifD (t' := 126) rfl (fun hb126 => ?_) (fun hb126 => ?_)
                      · refine .gT rfl rfl ?_
                        refine .z zm ?_
                        refine .gT rfl rfl ?_
                        refine .z zm ?_
                        refine .gT rfl rfl ?_
                        refine .z zleq (.z zpT (.z zm ?_))
                        refine .bifD (t' := 131) rfl (fun hb131 => ?_) (fun hb131 => ?_)
                        · refine .gT rfl rfl ?_
                          refine .z zm ?_
                          refine .gT rfl rfl ?_
                          refine .z zm ?_
                          refine .gT rfl rfl ?_
                          refine .z zeql (.z zpT (.z zm ?_))
                          refine .bifD (t' := 136) rfl (fun hb136 => ?_) (fun hb136 => ?_)
                          · refine .gT rfl rfl ?_
                            refine .o (.call Tryz.call15 rfl (law09_sane_spec hs) ?_); rintro _ w ⟨rfl, H11, hle11, hs⟩
                            refine .z zpT (.z zg (.nil ?_))
                            refine .ret (Fin.ret1 Tryz.results7 rfl ?_)
                            first | exact ⟨rfl, H11, hle16.trans (hlem.trans (hle8.trans (hle9.trans (hle10.trans hle11)))), hs.out⟩ | (exfalso; first | omega | (simp_all; done))
                          · refine .gFs 1 24 true rfl rfl rfl ?_
                            refine .z zpF (.z zg (.nil ?_))
                            refine .ret (Fin.ret1 Tryz.results7 rfl ?_)
                            first | exact ⟨rfl, H11, hle16.trans (hlem.trans (hle8.trans (hle9.trans (hle10.trans hle11)))), hs.out⟩ | (exfalso; first | omega | (simp_all; done))
                        · refine .gFs 3 19 true rfl rfl rfl ?_
                          refine .z zpF (.z zm ?_)
                          refine .gFs 1 24 true rfl rfl rfl ?_
                          refine .z zpF (.z zg (.nil ?_))
                          refine .ret (Fin.ret1 Tryz.results7 rfl ?_)
                          first | exact ⟨rfl, H11, hle16.trans (hlem.trans (hle8.trans (hle9.trans (hle10.trans hle11)))), hs.out⟩ | (exfalso; first | omega | (simp_all; done))
                      · refine .gFs 3 14 true rfl rfl rfl ?_
                        refine .z zpF (.z zm ?_)
                        refine .gFs 3 19 true rfl rfl rfl ?_
                        refine .z zpF (.z zm ?_)
                        refine .gFs 1 24 true rfl rfl rfl ?_
                        refine .z zpF (.z zg (.nil ?_))
                        refine .ret (Fin.ret1 Tryz.results7 rfl ?_)
                        first | exact ⟨rfl, H11, hle16.trans (hlem.trans (hle8.trans (hle9.trans (hle10.trans hle11)))), hs.out⟩ | (exfalso; first | omega | (simp_all; done))
                    · refine .gFs 2 10 true rfl rfl rfl ?_
                      refine .z zpF (.z zm ?_)
                      refine .gFs 3 14 true rfl rfl rfl ?_
                      refine .z zpF (.z zm ?_)
                      refine .gFs 3 19 true rfl rfl rfl ?_
                      refine .z zpF (.z zm ?_)
                      refine .gFs 1 24 true rfl rfl rfl ?_
                      refine .z zpF (.z zg (.nil ?_))
                      refine .ret (Fin.ret1 Tryz.results7 rfl ?_)
                      first | exact ⟨rfl, H11, hle16.trans (hlem.trans (hle8.trans (hle9.trans (hle10.trans hle11)))), hs.out⟩ | (exfalso; first | omega | (simp_all; done))
                  · refine .gFs 2 6 true rfl rfl rfl ?_
                    refine .z zpF (.z zm ?_)
                    refine .gFs 2 10 true rfl rfl rfl ?_
                    refine .z zpF (.z zm ?_)
                    refine .gFs 3 14 true rfl rfl rfl ?_
                    refine .z zpF (.z zm ?_)
                    refine .gFs 3 19 true rfl rfl rfl ?_
                    refine .z zpF (.z zm ?_)
                    refine .gFs 1 24 true rfl rfl rfl ?_
                    refine .z zpF (.z zg (.nil ?_))
                    refine .ret (Fin.ret1 Tryz.results7 rfl ?_)
                    first | exact ⟨rfl, H11, hle16.trans (hlem.trans (hle8.trans (hle9.trans (hle10.trans hle11)))), hs.out⟩ | (exfalso; first | omega | (simp_all; done))
                · refine .gFs 2 2 true rfl rfl rfl ?_
                  refine .z zpF (.z zm ?_)
                  refine .gFs 2 6 true rfl rfl rfl ?_
                  refine .z zpF (.z zm ?_)
                  refine .gFs 2 10 true rfl rfl rfl ?_
                  refine .z zpF (.z zm ?_)
                  refine .gFs 3 14 true rfl rfl rfl ?_
                  refine .z zpF (.z zm ?_)
                  refine .gFs 3 19 true rfl rfl rfl ?_
                  refine .z zpF (.z zm ?_)
                  refine .gFs 1 24 true rfl rfl rfl ?_
                  refine .z zpF (.z zg (.nil ?_))
                  refine .ret (Fin.ret1 Tryz.results7 rfl ?_)
                  first | exact ⟨rfl, H11, hle16.trans (hlem.trans (hle8.trans (hle9.trans (hle10.trans hle11)))), hs.out⟩ | (exfalso; first | omega | (simp_all; done))
theorem law_ProbeOutcomes {W : World} {v0 v1 v2 : Value} {a0 : Case} {a1 a2 : List Int} (w0 : RCaseV (hp W) v0 a0) (u0 : a0.In) (w1 : RI (hp W) v1 a1) (_ : IsIn a1) (w2 : RI (hp W) v2 a2) (u2 : IsIn a2) :
    Cl Tryz.prog 7 [v0, v1, v2] W fun v w' => v = .bool true ∧ ∃ H', HLe (hp W) H' ∧ St H' w' [] := by
  obtain ⟨cs, rfl, h⟩ := w0
  exact law_ProbeOutcomes_walk (St.start W) h u0.raw w1 w2 (by have := u2.1; omega)
set_option maxRecDepth 100000 in
theorem lifted_ProbeOutcomes (os : Os) (started : os.Started) (H : Type) (enc : TypeId × Value → H) :
    ReturnsInHanded {} Tryz.checked os 7 .any (Rows.probeOutcomesSpec.pre6 enc Tryz.prog Tryz.f7 Rows.probeOutcomesRow.domain false) (Rows.probeOutcomesSpec.post enc Tryz.prog Tryz.f7 false true false false) := by
  refine returnsInHanded_of_change_sized (C := Tryz.checked) cl_own started (by kernel_rfl) Tryz.func7
    (ChangeSpec.witness6 (enc := enc) (C := Tryz.checked) false ⟨#[], #[.agg #[.slice none 0 0, .slice none 0 0, .slice none 0 0, .int .i64 0, .slice none 0 0], .slice none 0 0, .slice none 0 0], []⟩ 8 (by kernel_rfl) (by kernel_rfl) (by kernel_rfl) (by kernel_rfl)) ?_
  intro W base args ds gs before hval0 hW hcnd hsz _
  have hval : ∀ (j : Nat) t v, Tryz.f7.params[j]? = some t → args[j]? = some v → Value.okWide Tryz.prog W .any base t v := hval0
  have hW' := hW
  obtain ⟨p, q, hA0, hV, rfl, hfz, hnd⟩ := hW
  have hA : DataW.TrodAll enc Tryz.prog W 0 (fun _ => true) true Tryz.f7.params.toList args.toList ds p := hA0
  have hAk := hA
  rw [Tryz.params7] at hA hval
  obtain ⟨v0, vs0, d0, ds0, p0, q0, hargs, rfl, rfl, h0, r0⟩ := trodAll_cons hA
  obtain ⟨v1, vs1, d1, ds1, p1, q1, rfl, rfl, rfl, h1, r1⟩ := trodAll_cons r0
  obtain ⟨v2, vs2, d2, ds2, p2, q2, rfl, rfl, rfl, h2, r2⟩ := trodAll_cons r1
  obtain ⟨rfl, rfl, rfl⟩ := trodAll_nil r2
  obtain rfl : args = #[v0, v1, v2] := by cases args; simp_all
  obtain ⟨rfl, rfl⟩ := trodVars_none hV
  have k0 : Wt Tryz.prog 78 d0 := fun n hn => (by have := List.all_eq_true.1 hsz n (DataW.weights_mem_each (j := 0) rfl rfl n hn); simpa using this)
  obtain ⟨a0, w0, u0⟩ := open_Case (hval 0 78 v0 rfl rfl) h0 k0
  have k1 : Wt Tryz.prog 25 d1 := fun n hn => (by have := List.all_eq_true.1 hsz n (DataW.weights_mem_each (j := 1) rfl rfl n hn); simpa using this)
  obtain ⟨a1, w1, u1⟩ := open_ints (hval 1 25 v1 rfl rfl) h1 k1
  have k2 : Wt Tryz.prog 25 d2 := fun n hn => (by have := List.all_eq_true.1 hsz n (DataW.weights_mem_each (j := 2) rfl rfl n hn); simpa using this)
  obtain ⟨a2, w2, u2⟩ := open_ints (hval 2 25 v2 rfl rfl) h2 k2
  refine Calls.mono (law_ProbeOutcomes w0 u0 w1 u1 w2 u2) fun e W' ⟨v, he, hv, H', hle, hs⟩ => ?_
  subst he; subst hv
  have kp := St.kept hle hs
  exact ⟨_, rfl, _, _, _, [], _, [], hW', trodAll_mk1 (shut_bool Tryz.underlying4 _), Kept.trodAll cl_laid kp (by rw [Tryz.params7]; intro t ht; simp only [List.mem_cons, List.not_mem_nil, or_false] at ht; rcases ht with rfl | rfl | rfl <;> exact ⟨by kernel_rfl, of_decide_eq_true (by kernel_rfl)⟩) hAk, rfl, kp.frame _, fun h => by cases h⟩
theorem closed_ProbeOutcomes : joinedFacts Tryz.prog 7 Tryz.f7 Rows.probeOutcomesSpec Rows.probeOutcomesRow = true := by
  unfold joinedFacts
  exact (band (band (band (band (band (band (band (band (band (band (band (band (band (band (band (band (band (band (band (band (band (band (band (band (band (band (band (band (band (band (band (by kernel_rfl) cl_laid) cl_maps) (by kernel_rfl)) (by kernel_rfl)) (by kernel_rfl)) (beqT cl_stops)) (by kernel_rfl)) (beqT cl_knobs)) (by kernel_rfl)) (by kernel_rfl)) (by kernel_rfl)) (by kernel_rfl)) (by kernel_rfl)) (by kernel_rfl)) (by kernel_rfl)) (by kernel_rfl)) (by kernel_rfl)) (by kernel_rfl)) (by kernel_rfl)) (by kernel_rfl)) (by kernel_rfl)) (beqT cl_keys.symm)) (by kernel_rfl)) cl_heard) cl_enter) (beqT cl_lifts.symm)) (beqT cl_make)) (by kernel_rfl)) (by kernel_rfl)) (by kernel_rfl)) (by kernel_rfl))
theorem proved_ProbeOutcomes : Rows.ProbeOutcomesSaid :=
  OpenClaim.holds_of_wide 7 Tryz.f7 rfl rfl rfl rfl rfl rfl rfl ⟨rfl, rfl, rfl, rfl, rfl⟩ rfl rfl rfl rfl rfl (by kernel_rfl) Tryz.func7 closed_ProbeOutcomes
    (of_decide_eq_true (by kernel_rfl)) (by unfold Func.isWrapper; first | (rw [if_pos (by decide +kernel)]; kernel_rfl) | (rw [if_neg (by decide +kernel)]; exact ⟨rfl, rfl⟩))
    (fun os started H enc _ => lifted_ProbeOutcomes os started H enc)
end Go.Proofs.YtiiokdeehlfeeaaGreat
