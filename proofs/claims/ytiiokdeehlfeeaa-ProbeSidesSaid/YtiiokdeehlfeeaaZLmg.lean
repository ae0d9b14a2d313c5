/-
  ProbeSides holds for every input: the statement's function returns true and never panics, for each case, each picks and each noise.
-/
import Derived.Test.YtiiokdeehlfeeaaQe
import Derived.Test.YtiiokdeehlfeeaaRows
import Derived.OpenShut
import Derived.ProofKit
import Derived.ShutString
import Derived.ChangeOld
namespace Go.Proofs.Ytiiokdeehlfeeaa
open Go.MW Go.ChangeShapes Go.WideShapes Go.ChangeAt Go.RowKit
set_option maxHeartbeats 4000000 in
theorem law_ProbeSides_walk {H : Heap} {w : World} {σ : List Ent} {cs : List Value} {vk vn : Value} {c : Case} {picks noise : List Int} (hs : St H w σ) (hr : RCase H cs c) (hin : c.raw.In) (hpk : RI H vk picks) (hns : RI H vn noise) (hnl : noise.length ≤ 4611686018427387904) :
    Cl Try.prog 9 [.agg cs.toArray, vk, vn] w fun v w' => v = .bool true ∧ ∃ H', HLe H H' ∧ St H' w' σ := by
  obtain ⟨rs, vp, rfl, hrr, hp⟩ := hr
  have hrr' := hrr
  obtain ⟨vh, vl, vw, rfl, h1, h2, h3⟩ := hrr'
  obtain ⟨ak, ck, rfl⟩ := RI.shape hpk
  obtain ⟨an, cn, rfl⟩ := RI.shape hns
  have hM := madeQ_made c.raw
  generalize hq : madeQ c.raw = a at hM
  have hmany : a.sys.many = (mN c.raw : Int) := by rw [← hq]; rfl
  have hPl := fun p => prbsOf_in (a := a) hM.many.1 (l := c.prbs) (most := 6) (p := p)
  have hPn : (prbsOf a.sys.many c.prbs 6).length ≤ 6 := by rw [prbsOf_len]; omega
  rw [hmany] at hPl hPn
  generalize hl : prbsOf (mN c.raw : Int) c.prbs 6 = l at hPl hPn
  have hmn := hM.many
  have hnn : (a.sys.n : Int) = a.sys.many + 1 := by simp only [Syst.n]; omega
  refine Cl.of Try.func9 rfl Try.ntmps9 (by simp) (args_cons (k := 0) rfl (args_cons (k := 1) rfl (args_cons (k := 2) rfl (args0)))) ?_
  refine .regSeq ?_
  refine .o (.box hs rfl rfl ?_); intro b3 w hs
  refine .z zg (.nil (.regSeq (.y hs (zls [_, _, _, _, _] Try.isAgg28 Try.sizeOf28) ?_)))
  refine .o (.call Try.call22 rfl (law09_made_spec (most := 6) hs ⟨[_, _, _, _], _, rfl, ⟨_, _, _, rfl, h1, h2, h3⟩, hp⟩ hin (by decide)) ?_); rintro _ w ⟨H1, va, vP, hle1, rfl, hRA, hRP, hs⟩
  rw [hq] at hRA; rw [hl] at hRP
  obtain ⟨ul, uw, rfl, g1, g2⟩ := hRA
  obtain ⟨aul, cul, rfl⟩ := RL.shape g1
  obtain ⟨auw, cuw, rfl⟩ := RI.shape g2
  obtain ⟨aP, cP, rfl⟩ := RPs.shape hRP
  have hPone := hPl
  have hOne : l.length ≤ 8 := by omega
  refine .z zm (.z zex (.z zex ?_))
  refine .o (.alloc hs Try.zeroValue34 rfl ?_); intro b7 w hs
  refine .o (.stores (vs := [_, _, _, _]) hs rfl rfl Try.sizeOf34 ?_); intro w hs
  refine .z zg (.nil (.regSeq (.z (zfa fa_api_Ask_0) (.y hs (zls [_, _] Try.isAgg32 Try.sizeOf32) (.z (zfa fa_api_Ask_1) (.y hs (zld Try.isAgg22) ?_))))))
  refine .o (.call Try.call50 rfl (ref02_Range_spec (s := a.sys) hs ⟨_, rfl, g1⟩ g2) ?_); rintro _ w ⟨H2, lo, hi, e, hle2, rfl, hR, hs⟩
  obtain ⟨lo', hi', hR', b1, b2⟩ := hM.range (w := a.ws) hM.wl (fun k => by have := hM.ws k; omega)
  obtain ⟨rfl, rfl, rfl⟩ := hR.uniq hR'
  have hll : lo ≤ hi := by
    obtain ⟨p, p1, p2⟩ := hR'.ends.least
    have := hR'.ends.all p p1
    omega
  replace g1 := g1.mono hle2; replace g2 := g2.mono hle2; replace hRP := hRP.mono hle2
  have hle12 := hle1.trans hle2
  refine .z zm (.z zex (.z zex (.z zex (.z zg (.z zg (.z zg (.nil (.regSeq (.z zm ?_)))))))))
  refine .z zsub (.z zm (.z zm (.z (zlen Try.runUnderlying35) (.z zm (.z zm (.z zsub (.z zadd ?_)))))))
  refine .o (.call Try.call25 rfl (ref02_Pick_spec hs (hns.mono hle12) (by omega) (by omega)) ?_); rintro _ w ⟨rfl, hs⟩
  have hk1 := pickI_bd noise (l.length : Int) (n := hi - lo + 7) (by omega)
  generalize pickI noise (l.length : Int) (hi - lo + 7) = kk at hk1 ⊢
  refine .z zadd (.z zg (.nil (.regSeq ?_)))
  generalize hz : lo - 3 + kk = z
  refine .y hs (zls [_, _, _, _] Try.isAgg34 Try.sizeOf34) (.z zm ?_)
  refine .o (.call Try.call36 rfl (probe_Side_spec (a := a) hs ⟨_, _, rfl, g1, g2⟩) ?_); rintro _ w ⟨H3, x1, e1, hle3, rfl, hD1, hs⟩
  obtain ⟨rfl, hx1⟩ : e1 = 0 ∧ x1 = if z ≤ lo then 1 else if hi < z then 0 else 2 := by
    rcases hD1 with ⟨h1, h2, _⟩ | ⟨_, h1, lo2, hi2, h2, h3⟩
    · exact (h2 (h1.uniq (CAskR.zero.2 hM.ask))).elim
    · obtain ⟨rfl, rfl, _⟩ := h2.uniq hR'
      exact ⟨h1, h3⟩
  replace g1 := g1.mono hle3; replace g2 := g2.mono hle3; replace hRP := hRP.mono hle3
  have hle13 := hle12.trans hle3
  refine .z zm (.z zex (.z zex (.z zg (.z zg (.nil ?_)))))
  refine .cut (fun fs w => ∃ b15 Hm aq cq aw9 cw9 vs, FSub fs ⟨108, [], [(15, .pointer (some ⟨b15, 0, none⟩)), (16, I 0), (14, I 0), (13, I x1), (12, I z), (11, I 0), (10, I hi), (9, I lo)]⟩ ∧ HLe H3 Hm ∧ (behS a (l) vs).Sound ∧ RL Hm (.slice aq (behS a (l) vs).lims.length cq) (behS a (l) vs).lims ∧ RI Hm (.slice aw9 a.ws.length cw9) a.ws ∧ St Hm w (.blk b15 [I a.sys.many, .slice aq (behS a (l) vs).lims.length cq, .slice aw9 a.ws.length cw9, I a.width] :: σ)) ?_ ?_
  · refine .draw mix rfl hs ?_; intro w hs
    refine .ys 0 rfl hs [_, _, _, _] Try.isAgg34 Try.sizeOf34 ?_; refine .z 1 rfl zm ?_; refine .z 2 rfl zm ?_; refine .ys 3 rfl hs [_, _, _, _] Try.isAgg34 Try.sizeOf34 ?_; refine .z 4 rfl zm ?_; refine .z 6 rfl zm ?_
    refine .e2 (i := 5) (j := 12) (by kernel_rfl) rfl rfl rfl rfl .none .none hs ?_ ?_
    · refine .call Try.call46 rfl (ref09_Hull_spec (a := a) hs ⟨_, _, rfl, g1, g2⟩ (hpk.mono (hle13))) ?_; rintro _ w ⟨Hh, x, eh, hleh, hRx, hPt, hs⟩
      obtain ⟨rfl, hPP⟩ := made_hull hM hPt
      obtain ⟨hxl, hx0, hxb, hxf⟩ := hPP.feas hM.ok hM.hull
      obtain ⟨ax, cx, rfl⟩ := RI.shape hRx
      refine .go ?_
      refine .e2 (i := 7) (j := 12) (by kernel_rfl) rfl rfl rfl rfl .none .none hs ?_ ?_
      · refine .call Try.call45 rfl (ref09_Told_spec (n := a.sys.many) hs (hRP.mono hleh) hRx (hns.mono ((hle13).trans hleh)) hPone (by omega) (by omega) hnl (fun v hv => hxb v (by omega))) ?_; rintro _ w ⟨Ht, hlet, ⟨vv, rfl, hRv⟩, hs⟩
        have hvl := toldV_length (l) x noise (l).length
        have hTd := toldV_told (a := a) (l := l) (x := x) (picks := noise) hPone hx0
        generalize toldV (l) x noise (l).length = vs at hRv hvl hTd
        obtain ⟨av, cv, rfl⟩ := RI.shape hRv
        have hleht := hleh.trans hlet
        have hSd := beh_sound (made_prb hM hPone) hxf hTd
        refine .go ?_
        refine .e2 (i := 8) (j := 12) (by kernel_rfl) rfl rfl rfl rfl .none .none hs ?_ ?_
        · refine .call Try.call44 rfl (probe_After_spec (a := a) (l := l) (vs := vs) hs ⟨_, _, rfl, g1.mono hleht, g2.mono hleht⟩ (hRP.mono hleht) ⟨_, rfl, hRv⟩) ?_; rintro _ w ⟨H6, _, q, e6, hle6, rfl, ⟨ul6, uw6, rfl, g6, g7⟩, hAf, hs⟩
          obtain ⟨rfl, rfl⟩ := made_after hM hOne hPone hvl hSd hAf
          obtain ⟨aul6, cul6, rfl⟩ := RL.shape g6
          obtain ⟨auw6, cuw6, rfl⟩ := RI.shape g7
          refine .go ?_
          refine .z 9 rfl zm ?_; refine .z 10 rfl zex ?_; refine .z 11 rfl zex ?_
          refine .e1 (i := 12) (by kernel_rfl) rfl rfl .none hs ?_
          refine .alloc hs Try.zeroValue34 rfl ?_; intro b15 w hs
          refine .go ?_
          refine .e1 (i := 13) (by kernel_rfl) rfl rfl .none hs ?_
          refine .stores (vs := [_, _, _, _]) hs rfl rfl Try.sizeOf34 ?_; intro w hs
          refine .go ?_
          refine .z 14 rfl zg ?_; refine .done (by kernel_rfl) hs ?_
          exact nT ⟨_, H6, _, _, _, _, vs, by repeat (first | exact .nil rfl rfl | refine .cons rfl ?_), hleht.trans hle6, hSd, g6, g7, hs.sub (by repeat (first | exact Sub.refl _ | constructor | apply Sub.weaken))⟩
        · refine .alloc hs Try.zeroValue34 rfl ?_; intro b15 w hs
          refine .go ?_
          refine .e1 (i := 8) (by kernel_rfl) rfl rfl .none hs ?_
          refine .call Try.call44 rfl (probe_After_spec (a := a) (l := l) (vs := vs) hs ⟨_, _, rfl, g1.mono hleht, g2.mono hleht⟩ (hRP.mono hleht) ⟨_, rfl, hRv⟩) ?_; rintro _ w ⟨H6, _, q, e6, hle6, rfl, ⟨ul6, uw6, rfl, g6, g7⟩, hAf, hs⟩
          obtain ⟨rfl, rfl⟩ := made_after hM hOne hPone hvl hSd hAf
          obtain ⟨aul6, cul6, rfl⟩ := RL.shape g6
          obtain ⟨auw6, cuw6, rfl⟩ := RI.shape g7
          refine .go ?_
          refine .z 9 rfl zm ?_; refine .z 10 rfl zex ?_; refine .z 11 rfl zex ?_
          refine .e1 (i := 13) (by kernel_rfl) rfl rfl .none hs ?_
          refine .stores (vs := [_, _, _, _]) hs rfl rfl Try.sizeOf34 ?_; intro w hs
          refine .go ?_
          refine .z 14 rfl zg ?_; refine .done (by kernel_rfl) hs ?_
          exact nT ⟨_, H6, _, _, _, _, vs, by repeat (first | exact .nil rfl rfl | refine .cons rfl ?_), hleht.trans hle6, hSd, g6, g7, hs.sub (by repeat (first | exact Sub.refl _ | constructor | apply Sub.weaken))⟩
      · refine .alloc hs Try.zeroValue34 rfl ?_; intro b15 w hs
        refine .go ?_
        refine .e1 (i := 7) (by kernel_rfl) rfl rfl .none hs ?_
        refine .call Try.call45 rfl (ref09_Told_spec (n := a.sys.many) hs (hRP.mono hleh) hRx (hns.mono ((hle13).trans hleh)) hPone (by omega) (by omega) hnl (fun v hv => hxb v (by omega))) ?_; rintro _ w ⟨Ht, hlet, ⟨vv, rfl, hRv⟩, hs⟩
        have hvl := toldV_length (l) x noise (l).length
        have hTd := toldV_told (a := a) (l := l) (x := x) (picks := noise) hPone hx0
        generalize toldV (l) x noise (l).length = vs at hRv hvl hTd
        obtain ⟨av, cv, rfl⟩ := RI.shape hRv
        have hleht := hleh.trans hlet
        have hSd := beh_sound (made_prb hM hPone) hxf hTd
        refine .go ?_
        refine .e1 (i := 8) (by kernel_rfl) rfl rfl .none hs ?_
        refine .call Try.call44 rfl (probe_After_spec (a := a) (l := l) (vs := vs) hs ⟨_, _, rfl, g1.mono hleht, g2.mono hleht⟩ (hRP.mono hleht) ⟨_, rfl, hRv⟩) ?_; rintro _ w ⟨H6, _, q, e6, hle6, rfl, ⟨ul6, uw6, rfl, g6, g7⟩, hAf, hs⟩
        obtain ⟨rfl, rfl⟩ := made_after hM hOne hPone hvl hSd hAf
        obtain ⟨aul6, cul6, rfl⟩ := RL.shape g6
        obtain ⟨auw6, cuw6, rfl⟩ := RI.shape g7
        refine .go ?_
        refine .z 9 rfl zm ?_; refine .z 10 rfl zex ?_; refine .z 11 rfl zex ?_
        refine .e1 (i := 13) (by kernel_rfl) rfl rfl .none hs ?_
        refine .stores (vs := [_, _, _, _]) hs rfl rfl Try.sizeOf34 ?_; intro w hs
        refine .go ?_
        refine .z 14 rfl zg ?_; refine .done (by kernel_rfl) hs ?_
        exact nT ⟨_, H6, _, _, _, _, vs, by repeat (first | exact .nil rfl rfl | refine .cons rfl ?_), hleht.trans hle6, hSd, g6, g7, hs.sub (by repeat (first | exact Sub.refl _ | constructor | apply Sub.weaken))⟩
    · refine .alloc hs Try.zeroValue34 rfl ?_; intro b15 w hs
      refine .go ?_
      refine .e1 (i := 5) (by kernel_rfl) rfl rfl .none hs ?_
      refine .call Try.call46 rfl (ref09_Hull_spec (a := a) hs ⟨_, _, rfl, g1, g2⟩ (hpk.mono (hle13))) ?_; rintro _ w ⟨Hh, x, eh, hleh, hRx, hPt, hs⟩
      obtain ⟨rfl, hPP⟩ := made_hull hM hPt
      obtain ⟨hxl, hx0, hxb, hxf⟩ := hPP.feas hM.ok hM.hull
      obtain ⟨ax, cx, rfl⟩ := RI.shape hRx
      refine .go ?_
      refine .e1 (i := 7) (by kernel_rfl) rfl rfl .none hs ?_
      refine .call Try.call45 rfl (ref09_Told_spec (n := a.sys.many) hs (hRP.mono hleh) hRx (hns.mono ((hle13).trans hleh)) hPone (by omega) (by omega) hnl (fun v hv => hxb v (by omega))) ?_; rintro _ w ⟨Ht, hlet, ⟨vv, rfl, hRv⟩, hs⟩
      have hvl := toldV_length (l) x noise (l).length
      have hTd := toldV_told (a := a) (l := l) (x := x) (picks := noise) hPone hx0
      generalize toldV (l) x noise (l).length = vs at hRv hvl hTd
      obtain ⟨av, cv, rfl⟩ := RI.shape hRv
      have hleht := hleh.trans hlet
      have hSd := beh_sound (made_prb hM hPone) hxf hTd
      refine .go ?_
      refine .e1 (i := 8) (by kernel_rfl) rfl rfl .none hs ?_
      refine .call Try.call44 rfl (probe_After_spec (a := a) (l := l) (vs := vs) hs ⟨_, _, rfl, g1.mono hleht, g2.mono hleht⟩ (hRP.mono hleht) ⟨_, rfl, hRv⟩) ?_; rintro _ w ⟨H6, _, q, e6, hle6, rfl, ⟨ul6, uw6, rfl, g6, g7⟩, hAf, hs⟩
      obtain ⟨rfl, rfl⟩ := made_after hM hOne hPone hvl hSd hAf
      obtain ⟨aul6, cul6, rfl⟩ := RL.shape g6
      obtain ⟨auw6, cuw6, rfl⟩ := RI.shape g7
      refine .go ?_
      refine .z 9 rfl zm ?_; refine .z 10 rfl zex ?_; refine .z 11 rfl zex ?_
      refine .e1 (i := 13) (by kernel_rfl) rfl rfl .none hs ?_
      refine .stores (vs := [_, _, _, _]) hs rfl rfl Try.sizeOf34 ?_; intro w hs
      refine .go ?_
      refine .z 14 rfl zg ?_; refine .done (by kernel_rfl) hs ?_
      exact nT ⟨_, H6, _, _, _, _, vs, by repeat (first | exact .nil rfl rfl | refine .cons rfl ?_), hleht.trans hle6, hSd, g6, g7, hs.sub (by repeat (first | exact Sub.refl _ | constructor | apply Sub.weaken))⟩
  · rintro fs w ⟨b15, Hm, aq, cq, aw9, cw9, vs, hfs, hlem, hSd, g6, g7, hs⟩
    refine WE.sub ?_ hfs
    refine .regSeq (.y hs (zls [_, _, _, _] Try.isAgg34 Try.sizeOf34) (.z zm ?_))
    refine .o (.call Try.call36 rfl (probe_Side_spec (a := behQ a l vs) (z := z) hs ⟨_, _, rfl, g6, g7⟩) ?_); rintro _ w ⟨H7, x2, e2, hle7, rfl, hD2, hs⟩
    obtain ⟨rfl, lo2, hi2, hx2, hlo2, hhi2, hll2⟩ : e2 = 0 ∧ ∃ lo2 hi2, (x2 = if z ≤ lo2 then 1 else if hi2 < z then 0 else 2) ∧ lo ≤ lo2 ∧ hi2 ≤ hi ∧ lo2 ≤ hi2 := by
      obtain ⟨lo3, hi3, q1, q2, q3⟩ := beh_range hM.ask hOne (made_prb hM hPl) hSd hR'
      rcases hD2 with ⟨h1, h2, _⟩ | ⟨_, h1, lo2, hi2, h2, h3⟩
      · exact (h2 (h1.uniq (CAskR.zero.2 (made_beh_ask hM hOne hPl hSd)))).elim
      · obtain ⟨rfl, rfl, _⟩ := h2.uniq q1
        obtain ⟨p, p1, p2⟩ := q1.ends.least
        have := q1.ends.all p p1
        exact ⟨h1, _, _, h3, q2, q3, by omega⟩
    have key : (x1 = 2 ∨ x2 = x1) ∧ (x1 = 1 ↔ z ≤ lo) ∧ (x1 = 0 ↔ hi < z) := by
      rw [hx1, hx2]
      split <;> split <;> (try split) <;> (try split) <;> omega
    refine .z zm (.z zex (.z zex (.z zg (.z zg (.nil (.seq (.regSeq (.z zm (.z zneq ?_)))))))))
    refine .z zm ?_
    refine .bifN (t' := 70) rfl (fun hb70 => ?_) (fun hb70 => ?_)
    · refine .gFs 2 2 false rfl rfl rfl ?_
      refine .z zpT (.z zm ?_)
      refine .gFs 2 6 false rfl rfl rfl ?_
      refine .z zpT (.z zm ?_)
      refine .gFs 2 10 false rfl rfl rfl ?_
      refine .z zpT (.nil ?_)
      refine (.condT rfl rfl ?_)
      refine .regSeq (.z zg (.nil ?_))
      refine .ret (rT (Fin.ret1 Try.results9 rfl ?_))
      first | exact ⟨rfl, H8, hle13.trans (hlem.trans (hle7.trans hle8)), hs.out⟩ | (exfalso; clear hD1 hD2 hx1 hx2; first | omega | (simp_all; done) | (obtain ⟨k1, k2, k3⟩ := key; first | (simp_all; done) | (simp_all; omega)))
    · refine .gT rfl rfl ?_
      refine .z zm ?_
      refine .gT rfl rfl ?_
      refine .z zneq (.z zpF (.z zm ?_))
      refine .bifN (t' := 74) rfl (fun hb74 => ?_) (fun hb74 => ?_)
      · refine .gFs 2 6 false rfl rfl rfl ?_
        refine .z zpT (.z zm ?_)
        refine .gFs 2 10 false rfl rfl rfl ?_
        refine .z zpT (.nil ?_)
        refine (.condT rfl rfl ?_)
        refine .regSeq (.z zg (.nil ?_))
        refine .ret (rT (Fin.ret1 Try.results9 rfl ?_))
        first | exact ⟨rfl, H8, hle13.trans (hlem.trans (hle7.trans hle8)), hs.out⟩ | (exfalso; clear hD1 hD2 hx1 hx2; first | omega | (simp_all; done) | (obtain ⟨k1, k2, k3⟩ := key; first | (simp_all; done) | (simp_all; omega)))
      · refine .gT rfl rfl ?_
        refine .z zm ?_
        refine .gT rfl rfl ?_
        refine .z zneq (.z zpF (.z zm ?_))
        refine .bifN (t' := 78) rfl (fun hb78 => ?_) (fun hb78 => ?_)
        · refine .gFs 2 10 false rfl rfl rfl ?_
          refine .z zpT (.nil ?_)
          refine (.condT rfl rfl ?_)
          refine .regSeq (.z zg (.nil ?_))
          refine .ret (rT (Fin.ret1 Try.results9 rfl ?_))
          first | exact ⟨rfl, H8, hle13.trans (hlem.trans (hle7.trans hle8)), hs.out⟩ | (exfalso; clear hD1 hD2 hx1 hx2; first | omega | (simp_all; done) | (obtain ⟨k1, k2, k3⟩ := key; first | (simp_all; done) | (simp_all; omega)))
        · refine .gT rfl rfl ?_
          refine .z zm ?_
          refine .gT rfl rfl ?_
          refine .z zneq (.z zpF (.nil ?_))
          refine (.condN rfl (fun hc81 => ?_) (fun hc81 => ?_))
          · refine .regSeq (.z zg (.nil ?_))
            refine .ret (rT (Fin.ret1 Try.results9 rfl ?_))
            first | exact ⟨rfl, H8, hle13.trans (hlem.trans (hle7.trans hle8)), hs.out⟩ | (exfalso; clear hD1 hD2 hx1 hx2; first | omega | (simp_all; done) | (obtain ⟨k1, k2, k3⟩ := key; first | (simp_all; done) | (simp_all; omega)))
          · refine .skip ?_
            refine nT ?_
            refine .regSeq (.z zm (.z zeql (.z zm ?_)))
            refine .bifD (t' := 84) rfl (fun hb84 => ?_) (fun hb84 => ?_)
            · refine .gFs 3 2 false rfl rfl rfl ?_
              refine .z zpT (.z zm ?_)
              refine .gT rfl rfl ?_
              refine .z zm ?_
              refine .gT rfl rfl ?_
              refine .z zeql ?_
              refine .gT rfl rfl ?_
              refine .z zm ?_
              refine .gT rfl rfl ?_
              refine .z zm ?_
              refine .gT rfl rfl ?_
              refine .z zgeq ?_
              refine .gT rfl rfl ?_
              refine .q hs (q_eqB rfl rfl Try.runUnderlying4) ?_
              refine .z zpT (.z zm ?_)
              refine .bif (t' := 97) rfl (fun hb97 => ?_) (fun hb97 => ?_)
              · refine .gT rfl rfl ?_
                refine .z zm ?_
                refine .gT rfl rfl ?_
                refine .z zeql ?_
                refine .gT rfl rfl ?_
                refine .z zm ?_
                refine .gT rfl rfl ?_
                refine .z zm ?_
                refine .gT rfl rfl ?_
                refine .z zlss ?_
                refine .gT rfl rfl ?_
                refine .q hs (q_eqB rfl rfl Try.runUnderlying4) ?_
                refine .z zpT (.z zm ?_)
                refine .bif (t' := 105) rfl (fun hb105 => ?_) (fun hb105 => ?_)
                · refine .gT rfl rfl ?_
                  refine .o (.call Try.call26 rfl (law09_sane_spec hs) ?_); rintro _ w ⟨rfl, H8, hle8, hs⟩
                  refine .z zpT (.z zg (.nil ?_))
                  refine .ret (Fin.ret1 Try.results9 rfl ?_)
                  first | exact ⟨rfl, H8, hle13.trans (hlem.trans (hle7.trans hle8)), hs.out⟩ | (exfalso; clear hD1 hD2 hx1 hx2; first | omega | (simp_all; done) | (obtain ⟨k1, k2, k3⟩ := key; first | (simp_all; done) | (simp_all; omega)))
                · refine .gFs 1 23 true rfl rfl rfl ?_
                  refine .z zpF (.z zg (.nil ?_))
                  refine .ret (Fin.ret1 Try.results9 rfl ?_)
                  first | exact ⟨rfl, H8, hle13.trans (hlem.trans (hle7.trans hle8)), hs.out⟩ | (exfalso; clear hD1 hD2 hx1 hx2; first | omega | (simp_all; done) | (obtain ⟨k1, k2, k3⟩ := key; first | (simp_all; done) | (simp_all; omega)))
              · refine .gFs 6 15 true rfl rfl rfl ?_
                refine .z zpF (.z zm ?_)
                refine .gFs 1 23 true rfl rfl rfl ?_
                refine .z zpF (.z zg (.nil ?_))
                refine .ret (Fin.ret1 Try.results9 rfl ?_)
                first | exact ⟨rfl, H8, hle13.trans (hlem.trans (hle7.trans hle8)), hs.out⟩ | (exfalso; clear hD1 hD2 hx1 hx2; first | omega | (simp_all; done) | (obtain ⟨k1, k2, k3⟩ := key; first | (simp_all; done) | (simp_all; omega)))
            · refine .gT rfl rfl ?_
              refine .z zm ?_
              refine .gT rfl rfl ?_
              refine .z zm ?_
              refine .gT rfl rfl ?_
              refine .z zeql (.z zpF (.z zm ?_))
              refine .bifD (t' := 89) rfl (fun hb89 => ?_) (fun hb89 => ?_)
              · refine .gT rfl rfl ?_
                refine .z zm ?_
                refine .gT rfl rfl ?_
                refine .z zeql ?_
                refine .gT rfl rfl ?_
                refine .z zm ?_
                refine .gT rfl rfl ?_
                refine .z zm ?_
                refine .gT rfl rfl ?_
                refine .z zgeq ?_
                refine .gT rfl rfl ?_
                refine .q hs (q_eqB rfl rfl Try.runUnderlying4) ?_
                refine .z zpT (.z zm ?_)
                refine .bif (t' := 97) rfl (fun hb97 => ?_) (fun hb97 => ?_)
                · refine .gT rfl rfl ?_
                  refine .z zm ?_
                  refine .gT rfl rfl ?_
                  refine .z zeql ?_
                  refine .gT rfl rfl ?_
                  refine .z zm ?_
                  refine .gT rfl rfl ?_
                  refine .z zm ?_
                  refine .gT rfl rfl ?_
                  refine .z zlss ?_
                  refine .gT rfl rfl ?_
                  refine .q hs (q_eqB rfl rfl Try.runUnderlying4) ?_
                  refine .z zpT (.z zm ?_)
                  refine .bif (t' := 105) rfl (fun hb105 => ?_) (fun hb105 => ?_)
                  · refine .gT rfl rfl ?_
                    refine .o (.call Try.call26 rfl (law09_sane_spec hs) ?_); rintro _ w ⟨rfl, H8, hle8, hs⟩
                    refine .z zpT (.z zg (.nil ?_))
                    refine .ret (Fin.ret1 Try.results9 rfl ?_)
                    first | exact ⟨rfl, H8, hle13.trans (hlem.trans (hle7.trans hle8)), hs.out⟩ | (exfalso; clear hD1 hD2 hx1 hx2; first | omega | (simp_all; done) | (obtain ⟨k1, k2, k3⟩ := key; first | (simp_all; done) | (simp_all; omega)))
                  · refine .gFs 1 23 true rfl rfl rfl ?_
                    refine .z zpF (.z zg (.nil ?_))
                    refine .ret (Fin.ret1 Try.results9 rfl ?_)
                    first | exact ⟨rfl, H8, hle13.trans (hlem.trans (hle7.trans hle8)), hs.out⟩ | (exfalso; clear hD1 hD2 hx1 hx2; first | omega | (simp_all; done) | (obtain ⟨k1, k2, k3⟩ := key; first | (simp_all; done) | (simp_all; omega)))
                · refine .gFs 6 15 true rfl rfl rfl ?_
                  refine .z zpF (.z zm ?_)
                  refine .gFs 1 23 true rfl rfl rfl ?_
                  refine .z zpF (.z zg (.nil ?_))
                  refine .ret (Fin.ret1 Try.results9 rfl ?_)
                  first | exact ⟨rfl, H8, hle13.trans (hlem.trans (hle7.trans hle8)), hs.out⟩ | (exfalso; clear hD1 hD2 hx1 hx2; first | omega | (simp_all; done) | (obtain ⟨k1, k2, k3⟩ := key; first | (simp_all; done) | (simp_all; omega)))
              · refine .gFs 6 7 true rfl rfl rfl ?_
                refine .z zpF (.z zm ?_)
                refine .gFs 6 15 true rfl rfl rfl ?_
                refine .z zpF (.z zm ?_)
                refine .gFs 1 23 true rfl rfl rfl ?_
                refine .z zpF (.z zg (.nil ?_))
                refine .ret (Fin.ret1 Try.results9 rfl ?_)
                first | exact ⟨rfl, H8, hle13.trans (hlem.trans (hle7.trans hle8)), hs.out⟩ | (exfalso; clear hD1 hD2 hx1 hx2; first | omega | (simp_all; done) | (obtain ⟨k1, k2, k3⟩ := key; first | (simp_all; done) | (simp_all; omega)))
theorem law_ProbeSides {W : World} {v0 v1 v2 : Value} {a0 : Case} {a1 a2 : List Int} (w0 : RCaseV (hp W) v0 a0) (u0 : a0.In) (w1 : RI (hp W) v1 a1) (_ : IsIn a1) (w2 : RI (hp W) v2 a2) (u2 : IsIn a2) :
    Cl Try.prog 9 [v0, v1, v2] W fun v w' => v = .bool true ∧ ∃ H', HLe (hp W) H' ∧ St H' w' [] := by
  obtain ⟨cs, rfl, h⟩ := w0
  exact law_ProbeSides_walk (St.start W) h u0.raw w1 w2 (by have := u2.1; omega)
set_option maxRecDepth 100000 in
theorem lifted_ProbeSides (os : Os) (started : os.Started) (H : Type) (enc : TypeId × Value → H) :
    ReturnsInHanded {} Try.checked os 9 .any (Rows.probeSidesSpec.pre6 enc Try.prog Try.f9 Rows.probeSidesRow.domain false) (Rows.probeSidesSpec.post enc Try.prog Try.f9 false true false false) := by
  refine returnsInHanded_of_change_sized (C := Try.checked) cl_own started (by kernel_rfl) Try.func9
    (ChangeSpec.witness6 (enc := enc) (C := Try.checked) false ⟨#[], #[.agg #[.slice none 0 0, .slice none 0 0, .slice none 0 0, .int .i64 0, .slice none 0 0], .slice none 0 0, .slice none 0 0], []⟩ 8 (by kernel_rfl) (by kernel_rfl) (by kernel_rfl) (by kernel_rfl)) ?_
  intro W base args ds gs before hval0 hW hcnd hsz _
  have hval : ∀ (j : Nat) t v, Try.f9.params[j]? = some t → args[j]? = some v → Value.okWide Try.prog W .any base t v := hval0
  have hW' := hW
  obtain ⟨p, q, hA0, hV, rfl, hfz, hnd⟩ := hW
  have hA : DataW.TrodAll enc Try.prog W 0 (fun _ => true) true Try.f9.params.toList args.toList ds p := hA0
  have hAk := hA
  rw [Try.params9] at hA hval
  obtain ⟨v0, vs0, d0, ds0, p0, q0, hargs, rfl, rfl, h0, r0⟩ := trodAll_cons hA
  obtain ⟨v1, vs1, d1, ds1, p1, q1, rfl, rfl, rfl, h1, r1⟩ := trodAll_cons r0
  obtain ⟨v2, vs2, d2, ds2, p2, q2, rfl, rfl, rfl, h2, r2⟩ := trodAll_cons r1
  obtain ⟨rfl, rfl, rfl⟩ := trodAll_nil r2
  obtain rfl : args = #[v0, v1, v2] := by cases args; simp_all
  obtain ⟨rfl, rfl⟩ := trodVars_none hV
  have k0 : Wt Try.prog 28 d0 := fun n hn => (by have := List.all_eq_true.1 hsz n (DataW.weights_mem_each (j := 0) rfl rfl n hn); simpa using this)
  obtain ⟨a0, w0, u0⟩ := open_Case (hval 0 28 v0 rfl rfl) h0 k0
  have k1 : Wt Try.prog 22 d1 := fun n hn => (by have := List.all_eq_true.1 hsz n (DataW.weights_mem_each (j := 1) rfl rfl n hn); simpa using this)
  obtain ⟨a1, w1, u1⟩ := open_ints (hval 1 22 v1 rfl rfl) h1 k1
  have k2 : Wt Try.prog 22 d2 := fun n hn => (by have := List.all_eq_true.1 hsz n (DataW.weights_mem_each (j := 2) rfl rfl n hn); simpa using this)
  obtain ⟨a2, w2, u2⟩ := open_ints (hval 2 22 v2 rfl rfl) h2 k2
  refine Calls.mono (law_ProbeSides w0 u0 w1 u1 w2 u2) fun e W' ⟨v, he, hv, H', hle, hs⟩ => ?_
  subst he; subst hv
  have kp := St.kept hle hs
  exact ⟨_, rfl, _, _, _, [], _, [], hW', trodAll_mk1 (shut_bool Try.underlying4 _), Kept.trodAll cl_laid kp (by rw [Try.params9]; intro t ht; simp only [List.mem_cons, List.not_mem_nil, or_false] at ht; rcases ht with rfl | rfl | rfl <;> exact ⟨by kernel_rfl, of_decide_eq_true (by kernel_rfl)⟩) hAk, rfl, kp.frame _, fun h => by cases h⟩
theorem closed_ProbeSides : joinedFacts Try.prog 9 Try.f9 Rows.probeSidesSpec Rows.probeSidesRow = true := by
  unfold joinedFacts
  exact (band (band (band (band (band (band (band (band (band (band (band (band (band (band (band (band (band (band (band (band (band (band (band (band (band (band (band (band (band (band (band (by kernel_rfl) cl_laid) cl_maps) (by kernel_rfl)) (by kernel_rfl)) (by kernel_rfl)) (beqT cl_stops)) (by kernel_rfl)) (beqT cl_knobs)) (by kernel_rfl)) (by kernel_rfl)) (by kernel_rfl)) (by kernel_rfl)) (by kernel_rfl)) (by kernel_rfl)) (by kernel_rfl)) (by kernel_rfl)) (by kernel_rfl)) (by kernel_rfl)) (by kernel_rfl)) (by kernel_rfl)) (by kernel_rfl)) (beqT cl_keys.symm)) (by kernel_rfl)) cl_heard) cl_enter) (beqT cl_lifts.symm)) (beqT cl_make)) (by kernel_rfl)) (by kernel_rfl)) (by kernel_rfl)) (by kernel_rfl))
theorem proved_ProbeSides : Rows.ProbeSidesSaid :=
  OpenClaim.holds_of_wide 9 Try.f9 rfl rfl rfl rfl rfl rfl rfl ⟨rfl, rfl, rfl, rfl, rfl⟩ rfl rfl rfl rfl rfl (by kernel_rfl) Try.func9 closed_ProbeSides
    (of_decide_eq_true (by kernel_rfl)) (by unfold Func.isWrapper; first | (rw [if_pos (by decide +kernel)]; kernel_rfl) | (rw [if_neg (by decide +kernel)]; exact ⟨rfl, rfl⟩))
    (fun os started H enc _ => lifted_ProbeSides os started H enc)
end Go.Proofs.Ytiiokdeehlfeeaa
