/-
  ProbeTrue holds for every input: the statement's function returns true and never panics, for each case, each picks and each noise.
-/
import Derived.Test.YtiiokdeehlfeeaaQe
import Derived.Test.YtiiokdeehlfeeaaRows
import Derived.OpenShut
import Derived.ProofKit
import Derived.ShutString
import Derived.ChangeOld
namespace Go.Proofs.Ytiiokdeehlfeeaa
open Go.MW Go.ChangeShapes Go.WideShapes Go.ChangeAt Go.RowKit
set_option maxHeartbeats 4000000 in
theorem law_ProbeTrue_walk {H : Heap} {w : World} {σ : List Ent} {cs : List Value} {vk vn : Value} {c : Case} {picks noise : List Int} (hs : St H w σ) (hr : RCase H cs c) (hin : c.raw.In) (hpk : RI H vk picks) (hns : RI H vn noise) (hnl : noise.length ≤ 4611686018427387904) :
    Cl Try.prog 8 [.agg cs.toArray, vk, vn] w fun v w' => v = .bool true ∧ ∃ H', HLe H H' ∧ St H' w' σ := by
  obtain ⟨rs, vp, rfl, hrr, hp⟩ := hr
  have hrr' := hrr
  obtain ⟨vh, vl, vw, rfl, h1, h2, h3⟩ := hrr'
  obtain ⟨ak, ck, rfl⟩ := RI.shape hpk
  obtain ⟨an, cn, rfl⟩ := RI.shape hns
  have hM := madeQ_made c.raw
  generalize hq : madeQ c.raw = a at hM
  have hmany : a.sys.many = (mN c.raw : Int) := by rw [← hq]; rfl
  have hPl := fun p => prbsOf_in (a := a) hM.many.1 (l := c.prbs) (most := 8) (p := p)
  have hPn : (prbsOf a.sys.many c.prbs 8).length ≤ 8 := by rw [prbsOf_len]; omega
  rw [hmany] at hPl hPn
  generalize hl : prbsOf (mN c.raw : Int) c.prbs 8 = l at hPl hPn
  have hmn := hM.many
  have hnn : (a.sys.n : Int) = a.sys.many + 1 := by simp only [Syst.n]; omega
  refine Cl.of Try.func8 rfl Try.ntmps8 (by simp) (args_cons (k := 0) rfl (args_cons (k := 1) rfl (args_cons (k := 2) rfl (args0)))) ?_
  refine .regSeq ?_
  refine .o (.box hs rfl rfl ?_); intro b3 w hs
  refine .z zg (.nil (.regSeq (.y hs (zls [_, _, _, _, _] Try.isAgg28 Try.sizeOf28) ?_)))
  refine .o (.call Try.call22 rfl (law09_made_spec (most := 8) hs ⟨[_, _, _, _], _, rfl, ⟨_, _, _, rfl, h1, h2, h3⟩, hp⟩ hin (by decide)) ?_); rintro _ w ⟨H1, va, vP, hle1, rfl, hRA, hRP, hs⟩
  rw [hq] at hRA; rw [hl] at hRP
  obtain ⟨ul, uw, rfl, g1, g2⟩ := hRA
  obtain ⟨aul, cul, rfl⟩ := RL.shape g1
  obtain ⟨auw, cuw, rfl⟩ := RI.shape g2
  obtain ⟨aP, cP, rfl⟩ := RPs.shape hRP
  refine .z zm (.z zex (.z zex ?_))
  refine .o (.alloc hs Try.zeroValue34 rfl ?_); intro b7 w hs
  refine .o (.stores (vs := [_, _, _, _]) hs rfl rfl Try.sizeOf34 ?_); intro w hs
  refine .z zg (.nil (.regSeq (.y hs (zls [_, _, _, _] Try.isAgg34 Try.sizeOf34) (.z zm ?_))))
  refine .o (.call Try.call46 rfl (ref09_Hull_spec (a := a) hs ⟨_, _, rfl, g1, g2⟩ (hpk.mono hle1)) ?_); rintro _ w ⟨H2, x, e, hle2, hRx, hPt, hs⟩
  obtain ⟨rfl, hPP⟩ := made_hull hM hPt
  obtain ⟨hxl, hx0, hxb, hxf⟩ := hPP.feas hM.ok hM.hull
  obtain ⟨ax, cx, rfl⟩ := RI.shape hRx
  have hle12 := hle1.trans hle2
  refine .z zg (.nil (.regSeq (.z zm (.z zm (.z zm ?_)))))
  refine .o (.call Try.call45 rfl (ref09_Told_spec (n := a.sys.many) hs (hRP.mono hle2) hRx (hns.mono hle12) hPl (by omega) (by omega) hnl (fun v hv => hxb v (by omega))) ?_); rintro _ w ⟨H3, hle3, ⟨vv, rfl, hRv⟩, hs⟩
  have hvl := toldV_length l x noise l.length
  have hTd := toldV_told (a := a) (l := l) (x := x) (picks := noise) hPl hx0
  generalize toldV l x noise l.length = vs at hRv hvl hTd
  obtain ⟨av, cv, rfl⟩ := RI.shape hRv
  have hle23 := hle2.trans hle3
  replace g1 := g1.mono hle23; replace g2 := g2.mono hle23; replace hRP := hRP.mono hle23; replace hRx := hRx.mono hle3
  have hSd := beh_sound (made_prb hM hPl) hxf hTd
  refine .o (.alloc hs Try.zeroValue71 rfl ?_); intro b10 w hs
  refine .o (.stores (vs := [_]) hs rfl rfl Try.sizeOf71 ?_); intro w hs
  refine .nil (.seq (.regSeq (.z zg (.nil (.block ?_)))))
  refine .loop (fun p : Nat => ⟨100, [], [(11, I (p : Int)), (10, .pointer (some ⟨b10, 0, none⟩)), (9, .slice ax x.length cx), (8, .slice aP l.length cP), (7, .pointer (some ⟨b7, 0, none⟩))]⟩)
    (fun p w => p ≤ l.length ∧ ∃ Hk, HLe H3 Hk ∧ St Hk w (.blk b10 [.slice av vs.length cv] :: .blk b7 [I a.sys.many, .slice aul a.sys.lims.length cul, .slice auw a.ws.length cuw, I a.width] :: σ))
    (fun p => l.length - p) 0 (by repeat (first | exact .nil rfl rfl | refine .cons rfl ?_))
    ⟨by omega, H3, HLe.refl _, hs.sub (by repeat (first | exact Sub.refl _ | constructor | apply Sub.weaken))⟩ ?_
  rintro k w ⟨hk, Hk, hleK, hs⟩
  refine .seq (.regSeq (.z zm (.z zm (.z (zlen Try.runUnderlying35) (.z zlss (.nil ?_))))))
  refine (.condD rfl (fun hc33 => ?_) (fun hc33 => ?_))
  · refine .skip ?_
    refine nT ?_
    refine .seq (.block ?_)
    refine .cut (fun fs w => ∃ b12 lo hi e Hm, FSub fs ⟨100, [], [(12, .pointer (some ⟨b12, 0, none⟩)), (13, I e), (11, I (k : Int)), (10, .pointer (some ⟨b10, 0, none⟩)), (9, .slice ax x.length cx), (8, .slice aP l.length cP), (7, .pointer (some ⟨b7, 0, none⟩))]⟩ ∧ HLe H3 Hm ∧ k < l.length ∧ ValR a (getP l k) lo hi e ∧ St Hm w (.blk b12 [I lo, I hi] :: .blk b10 [.slice av vs.length cv] :: .blk b7 [I a.sys.many, .slice aul a.sys.lims.length cul, .slice auw a.ws.length cuw, I a.width] :: σ)) ?_ ?_
    · refine .draw mix rfl hs ?_; intro w hs
      refine .ys 0 rfl hs [_, _, _, _] Try.isAgg34 Try.sizeOf34 ?_; refine .z 1 rfl zm ?_; refine .z 2 rfl zm ?_
      have hk' : k < l.length := by omega
      refine .ixX (enc := Prb.c) (i := 3) hs rfl (by kernel_rfl) .none (hRP.mono hleK) rfl rfl Try.runUnderlying35 Try.sizeOf48 (getP_get hk') rfl ?_; intro b40 o40 hc40
      refine .r (i := 4) hs rfl (by kernel_rfl) .none (q_loadsR (vs := (getP l k).c) rfl Try.isAgg48 Try.sizeOf48 hc40) ?_
      refine .e2 (i := 5) (j := 9) (by kernel_rfl) rfl rfl rfl rfl .none .none hs ?_ ?_
      · refine .call Try.call47 rfl (probe_Values_spec (a := a) (p := getP l k) hs ⟨_, _, rfl, g1.mono hleK, g2.mono hleK⟩) ?_; rintro _ w ⟨Hm, lo, hi, e, hlem, rfl, hV, hs⟩
        refine .go ?_
        refine .z 6 rfl zm ?_; refine .z 7 rfl zex ?_; refine .z 8 rfl zex ?_
        refine .e1 (i := 9) (by kernel_rfl) rfl rfl .none hs ?_
        refine .alloc hs Try.zeroValue76 rfl ?_; intro b12 w hs
        refine .go ?_
        refine .e1 (i := 10) (by kernel_rfl) rfl rfl .none hs ?_
        refine .stores (vs := [_, _]) hs rfl rfl Try.sizeOf76 ?_; intro w hs
        refine .go ?_
        refine .z 11 rfl zg ?_; refine .done (by kernel_rfl) hs ?_
        exact nT ⟨_, lo, hi, e, Hm, by repeat (first | exact .nil rfl rfl | refine .cons rfl ?_), hleK.trans hlem, hk', hV, hs.sub (by repeat (first | exact Sub.refl _ | constructor | apply Sub.weaken))⟩
      · refine .alloc hs Try.zeroValue76 rfl ?_; intro b12 w hs
        refine .go ?_
        refine .e1 (i := 5) (by kernel_rfl) rfl rfl .none hs ?_
        refine .call Try.call47 rfl (probe_Values_spec (a := a) (p := getP l k) hs ⟨_, _, rfl, g1.mono hleK, g2.mono hleK⟩) ?_; rintro _ w ⟨Hm, lo, hi, e, hlem, rfl, hV, hs⟩
        refine .go ?_
        refine .z 6 rfl zm ?_; refine .z 7 rfl zex ?_; refine .z 8 rfl zex ?_
        refine .e1 (i := 10) (by kernel_rfl) rfl rfl .none hs ?_
        refine .stores (vs := [_, _]) hs rfl rfl Try.sizeOf76 ?_; intro w hs
        refine .go ?_
        refine .z 11 rfl zg ?_; refine .done (by kernel_rfl) hs ?_
        exact nT ⟨_, lo, hi, e, Hm, by repeat (first | exact .nil rfl rfl | refine .cons rfl ?_), hleK.trans hlem, hk', hV, hs.sub (by repeat (first | exact Sub.refl _ | constructor | apply Sub.weaken))⟩
    · rintro fs w ⟨b12, lo, hi, e, Hm, hfs, hleM, hk', hV, hs⟩
      refine WE.sub ?_ hfs
      obtain ⟨rfl, l0, u0, hR0, rfl, rfl⟩ := made_val hM (hPl _ (getP_mem hk')) hV
      have hfar := beh_far (made_prb hM hPl) hk' hR0 hSd
      have hRv' := hRv.mono hleM
      have hgv := gi_get (l := vs) (i := k) (by omega)
      refine .seq (.draw mix rfl hs ?_); intro w hs
      refine .z 0 rfl zm ?_; refine .z 1 rfl zneq ?_; refine .z 2 rfl zm ?_
      refine .bifN (t' := 47) rfl (fun hb47 => ?_) (fun hb47 => ?_)
      · refine .qF (i := 3) rfl (by kernel_rfl) rfl rfl ?_
        refine .qF (i := 4) rfl (by kernel_rfl) rfl rfl ?_
        refine .qF (i := 5) rfl (by kernel_rfl) rfl rfl ?_
        refine .qF (i := 6) rfl (by kernel_rfl) rfl rfl ?_
        refine .qF (i := 7) rfl (by kernel_rfl) rfl rfl ?_
        refine .qF (i := 8) rfl (by kernel_rfl) rfl rfl ?_
        refine .qF (i := 9) rfl (by kernel_rfl) rfl rfl ?_
        refine .qF (i := 10) rfl (by kernel_rfl) rfl rfl ?_
        refine .z 11 rfl zpT ?_; refine .z 12 rfl zm ?_
        refine .qF (i := 13) rfl (by kernel_rfl) rfl rfl ?_
        refine .qF (i := 14) rfl (by kernel_rfl) rfl rfl ?_
        refine .qF (i := 15) rfl (by kernel_rfl) rfl rfl ?_
        refine .qF (i := 16) rfl (by kernel_rfl) rfl rfl ?_
        refine .qF (i := 17) rfl (by kernel_rfl) rfl rfl ?_
        refine .qF (i := 18) rfl (by kernel_rfl) rfl rfl ?_
        refine .qF (i := 19) rfl (by kernel_rfl) rfl rfl ?_
        refine .qF (i := 20) rfl (by kernel_rfl) rfl rfl ?_
        refine .z 21 rfl zpT ?_; refine .done (by kernel_rfl) hs ?_
        refine (.condT rfl rfl ?_)
        refine .regSeq (.z zg (.nil ?_))
        refine .ret (rB (rT (rT (rB (rT (Fin.ret1 Try.results8 rfl ?_))))))
        first | exact ⟨rfl, H8, hle12.trans (hle3.trans (hleK6.trans hle8)), hs.out⟩ | (exfalso; first | omega | (simp_all; done))
      · refine .z 3 rfl (zfa fa_api_Outcome_0) ?_; refine .y 4 rfl hs Try.isAgg22 ?_; refine .z 5 rfl zm ?_
        first | (refine .ixv 6 rfl hs Try.runUnderlying22 Try.sizeOf3 ?_; intro b51 o51 hc51) | refine .z 6 rfl (zix Try.runUnderlying22 Try.sizeOf3) ?_
        refine .y 7 rfl hs Try.isAgg3 ?_; refine .z 8 rfl (zfa fa_api_Range_0) ?_; refine .y 9 rfl hs Try.isAgg3 ?_; refine .z 10 rfl zlss ?_; refine .z 11 rfl zpF ?_; refine .z 12 rfl zm ?_
        refine .bifD (t' := 57) rfl (fun hb57 => ?_) (fun hb57 => ?_)
        · refine .qF (i := 13) rfl (by kernel_rfl) rfl rfl ?_
          refine .qF (i := 14) rfl (by kernel_rfl) rfl rfl ?_
          refine .qF (i := 15) rfl (by kernel_rfl) rfl rfl ?_
          refine .qF (i := 16) rfl (by kernel_rfl) rfl rfl ?_
          refine .qF (i := 17) rfl (by kernel_rfl) rfl rfl ?_
          refine .qF (i := 18) rfl (by kernel_rfl) rfl rfl ?_
          refine .qF (i := 19) rfl (by kernel_rfl) rfl rfl ?_
          refine .qF (i := 20) rfl (by kernel_rfl) rfl rfl ?_
          refine .z 21 rfl zpT ?_; refine .done (by kernel_rfl) hs ?_
          refine (.condT rfl rfl ?_)
          refine .regSeq (.z zg (.nil ?_))
          refine .ret (rB (rT (rT (rB (rT (Fin.ret1 Try.results8 rfl ?_))))))
          first | exact ⟨rfl, H8, hle12.trans (hle3.trans (hleK6.trans hle8)), hs.out⟩ | (exfalso; first | omega | (simp_all; done))
        · refine .z 13 rfl (zfa fa_api_Outcome_0) ?_; refine .y 14 rfl hs Try.isAgg22 ?_; refine .z 15 rfl zm ?_
          first | (refine .ixv 16 rfl hs Try.runUnderlying22 Try.sizeOf3 ?_; intro b61 o61 hc61) | refine .z 16 rfl (zix Try.runUnderlying22 Try.sizeOf3) ?_
          refine .y 17 rfl hs Try.isAgg3 ?_; refine .z 18 rfl (zfa fa_api_Range_1) ?_; refine .y 19 rfl hs Try.isAgg3 ?_; refine .z 20 rfl zgtr ?_; refine .z 21 rfl zpF ?_; refine .done (by kernel_rfl) hs ?_
          refine (.condD rfl (fun hc66 => ?_) (fun hc66 => ?_))
          · refine .regSeq (.z zg (.nil ?_))
            refine .ret (rB (rT (rT (rB (rT (Fin.ret1 Try.results8 rfl ?_))))))
            first | exact ⟨rfl, H8, hle12.trans (hle3.trans (hleK6.trans hle8)), hs.out⟩ | (exfalso; first | omega | (simp_all; done))
          · refine .skip ?_
            refine nB (nT ?_)
            refine .region (.z zm (.z zadd (.z zg (.nil ?_))))
            refine nT ?_
            exact ⟨k + 1, .consI rfl (by push_cast; omega) (by repeat (first | exact .nil rfl rfl | refine .cons rfl ?_)), ⟨by omega, Hm, hleM, hs.sub (by repeat (first | exact Sub.refl _ | constructor | apply Sub.weaken))⟩, by omega⟩
  · refine .exit ?_
    refine xT (xT (xB (nT ?_)))
    refine .regSeq (.y hs (zls [_, _, _, _] Try.isAgg34 Try.sizeOf34) (.z zm (.y hs (zls [_] Try.isAgg71 Try.sizeOf71) ?_)))
    refine .o (.call Try.call48 rfl (probe_Possible_spec (a := a) (l := l) (vs := vs) hs ⟨_, _, rfl, g1.mono hleK, g2.mono hleK⟩ (hRP.mono hleK) ⟨_, rfl, hRv.mono hleK⟩) ?_); rintro _ w ⟨H5, b, e5, hle5, rfl, hPo, hs⟩
    obtain ⟨rfl, rfl⟩ := made_poss hM hPn hPl hvl hSd hPo
    have hleK5 := hleK.trans hle5
    refine .z zm (.z zex (.z zex (.z zg (.z zg (.nil (.regSeq (.y hs (zls [_, _, _, _] Try.isAgg34 Try.sizeOf34) (.z zm (.y hs (zls [_] Try.isAgg71 Try.sizeOf71) ?_)))))))))
    refine .o (.call Try.call44 rfl (probe_After_spec (a := a) (l := l) (vs := vs) hs ⟨_, _, rfl, g1.mono hleK5, g2.mono hleK5⟩ (hRP.mono hleK5) ⟨_, rfl, hRv.mono hleK5⟩) ?_); rintro _ w ⟨H6, _, q, e6, hle6, rfl, ⟨ul6, uw6, rfl, g6, g7⟩, hAf, hs⟩
    obtain ⟨rfl, rfl⟩ := made_after hM hPn hPl hvl hSd hAf
    obtain ⟨aul6, cul6, rfl⟩ := RL.shape g6
    obtain ⟨auw6, cuw6, rfl⟩ := RI.shape g7
    have hleK6 := hleK5.trans hle6
    refine .z zm (.z zex (.z zex ?_))
    refine .o (.alloc hs Try.zeroValue34 rfl ?_); intro b16 w hs
    refine .o (.stores (vs := [_, _, _, _]) hs rfl rfl Try.sizeOf34 ?_); intro w hs
    refine .z zg (.nil (.regSeq (.z zm (.z zeql (.z zm ?_)))))
    refine .bifD (t' := 83) rfl (fun hb83 => ?_) (fun hb83 => ?_)
    · refine .gT rfl rfl ?_
      refine .z zm (.z zpT (.z zm ?_))
      refine .bif (t' := 86) rfl (fun hb86 => ?_) (fun hb86 => ?_)
      · refine .gT rfl rfl ?_
        refine .z zm ?_
        refine .gT rfl rfl ?_
        refine .z zeql (.z zpT (.z zm ?_))
        refine .bifD (t' := 90) rfl (fun hb90 => ?_) (fun hb90 => ?_)
        · refine .gT rfl rfl ?_
          refine .z (zfa fa_api_Ask_0) ?_
          refine .gT rfl rfl ?_
          refine .y hs (zls [_, _] Try.isAgg32 Try.sizeOf32) ?_
          refine .gT rfl rfl ?_
          refine .z zm ?_
          refine .gT rfl rfl ?_
          refine .o (.call Try.call49 rfl (ref02_CheckPoint_spec (s := behS a l vs) (x := x) hs ⟨_, rfl, g6⟩ (hRx.mono hleK6)) ?_); rintro _ w ⟨e7, rfl, hCp, hs⟩
          obtain rfl : e7 = 0 := hCp.uniq (.ok (behS_ok hM.ask hPn hPl (beh_near (made_prb hM hPl) hSd)) (keeps_beh (made_prb hM hPl) hxl hx0 hxb hxf hTd))
          refine .gT rfl rfl ?_
          refine .z zeql (.z zpT (.z zm ?_))
          refine .bifD (t' := 97) rfl (fun hb97 => ?_) (fun hb97 => ?_)
          · refine .gT rfl rfl ?_
            refine .o (.call Try.call26 rfl (law09_sane_spec hs) ?_); rintro _ w ⟨rfl, H8, hle8, hs⟩
            refine .z zpT (.z zg (.nil ?_))
            refine .ret (Fin.ret1 Try.results8 rfl ?_)
            first | exact ⟨rfl, H8, hle12.trans (hle3.trans (hleK6.trans hle8)), hs.out⟩ | (exfalso; first | omega | (simp_all; done))
          · refine .gFs 1 16 true rfl rfl rfl ?_
            refine .z zpF (.z zg (.nil ?_))
            refine .ret (Fin.ret1 Try.results8 rfl ?_)
            first | exact ⟨rfl, H8, hle12.trans (hle3.trans (hleK6.trans hle8)), hs.out⟩ | (exfalso; first | omega | (simp_all; done))
        · refine .gFs 5 9 true rfl rfl rfl ?_
          refine .z zpF (.z zm ?_)
          refine .gFs 1 16 true rfl rfl rfl ?_
          refine .z zpF (.z zg (.nil ?_))
          refine .ret (Fin.ret1 Try.results8 rfl ?_)
          first | exact ⟨rfl, H8, hle12.trans (hle3.trans (hleK6.trans hle8)), hs.out⟩ | (exfalso; first | omega | (simp_all; done))
      · refine .gFs 2 5 true rfl rfl rfl ?_
        refine .z zpF (.z zm ?_)
        refine .gFs 5 9 true rfl rfl rfl ?_
        refine .z zpF (.z zm ?_)
        refine .gFs 1 16 true rfl rfl rfl ?_
        refine .z zpF (.z zg (.nil ?_))
        refine .ret (Fin.ret1 Try.results8 rfl ?_)
        first | exact ⟨rfl, H8, hle12.trans (hle3.trans (hleK6.trans hle8)), hs.out⟩ | (exfalso; first | omega | (simp_all; done))
    · refine .gFs 1 2 true rfl rfl rfl ?_
      refine .z zpF (.z zm ?_)
      refine .gFs 2 5 true rfl rfl rfl ?_
      refine .z zpF (.z zm ?_)
      refine .gFs 5 9 true rfl rfl rfl ?_
      refine .z zpF (.z zm ?_)
      refine .gFs 1 16 true rfl rfl rfl ?_
      refine .z zpF (.z zg (.nil ?_))
      refine .ret (Fin.ret1 Try.results8 rfl ?_)
      first | exact ⟨rfl, H8, hle12.trans (hle3.trans (hleK6.trans hle8)), hs.out⟩ | (exfalso; first | omega | (simp_all; done))
theorem law_ProbeTrue {W : World} {v0 v1 v2 : Value} {a0 : Case} {a1 a2 : List Int} (w0 : RCaseV (hp W) v0 a0) (u0 : a0.In) (w1 : RI (hp W) v1 a1) (_ : IsIn a1) (w2 : RI (hp W) v2 a2) (u2 : IsIn a2) :
    Cl Try.prog 8 [v0, v1, v2] W fun v w' => v = .bool true ∧ ∃ H', HLe (hp W) H' ∧ St H' w' [] := by
  obtain ⟨cs, rfl, h⟩ := w0
  exact law_ProbeTrue_walk (St.start W) h u0.raw w1 w2 (by have := u2.1; omega)
set_option maxRecDepth 100000 in
theorem lifted_ProbeTrue (os : Os) (started : os.Started) (H : Type) (enc : TypeId × Value → H) :
    ReturnsInHanded {} Try.checked os 8 .any (Rows.probeTrueSpec.pre6 enc Try.prog Try.f8 Rows.probeTrueRow.domain false) (Rows.probeTrueSpec.post enc Try.prog Try.f8 false true false false) := by
  refine returnsInHanded_of_change_sized (C := Try.checked) cl_own started (by kernel_rfl) Try.func8
    (ChangeSpec.witness6 (enc := enc) (C := Try.checked) false ⟨#[], #[.agg #[.slice none 0 0, .slice none 0 0, .slice none 0 0, .int .i64 0, .slice none 0 0], .slice none 0 0, .slice none 0 0], []⟩ 8 (by kernel_rfl) (by kernel_rfl) (by kernel_rfl) (by kernel_rfl)) ?_
  intro W base args ds gs before hval0 hW hcnd hsz _
  have hval : ∀ (j : Nat) t v, Try.f8.params[j]? = some t → args[j]? = some v → Value.okWide Try.prog W .any base t v := hval0
  have hW' := hW
  obtain ⟨p, q, hA0, hV, rfl, hfz, hnd⟩ := hW
  have hA : DataW.TrodAll enc Try.prog W 0 (fun _ => true) true Try.f8.params.toList args.toList ds p := hA0
  have hAk := hA
  rw [Try.params8] at hA hval
  obtain ⟨v0, vs0, d0, ds0, p0, q0, hargs, rfl, rfl, h0, r0⟩ := trodAll_cons hA
  obtain ⟨v1, vs1, d1, ds1, p1, q1, rfl, rfl, rfl, h1, r1⟩ := trodAll_cons r0
  obtain ⟨v2, vs2, d2, ds2, p2, q2, rfl, rfl, rfl, h2, r2⟩ := trodAll_cons r1
  obtain ⟨rfl, rfl, rfl⟩ := trodAll_nil r2
  obtain rfl : args = #[v0, v1, v2] := by cases args; simp_all
  obtain ⟨rfl, rfl⟩ := trodVars_none hV
  have k0 : Wt Try.prog 28 d0 := fun n hn => (by have := List.all_eq_true.1 hsz n (DataW.weights_mem_each (j := 0) rfl rfl n hn); simpa using this)
  obtain ⟨a0, w0, u0⟩ := open_Case (hval 0 28 v0 rfl rfl) h0 k0
  have k1 : Wt Try.prog 22 d1 := fun n hn => (by have := List.all_eq_true.1 hsz n (DataW.weights_mem_each (j := 1) rfl rfl n hn); simpa using this)
  obtain ⟨a1, w1, u1⟩ := open_ints (hval 1 22 v1 rfl rfl) h1 k1
  have k2 : Wt Try.prog 22 d2 := fun n hn => (by have := List.all_eq_true.1 hsz n (DataW.weights_mem_each (j := 2) rfl rfl n hn); simpa using this)
  obtain ⟨a2, w2, u2⟩ := open_ints (hval 2 22 v2 rfl rfl) h2 k2
  refine Calls.mono (law_ProbeTrue w0 u0 w1 u1 w2 u2) fun e W' ⟨v, he, hv, H', hle, hs⟩ => ?_
  subst he; subst hv
  have kp := St.kept hle hs
  exact ⟨_, rfl, _, _, _, [], _, [], hW', trodAll_mk1 (shut_bool Try.underlying4 _), Kept.trodAll cl_laid kp (by rw [Try.params8]; intro t ht; simp only [List.mem_cons, List.not_mem_nil, or_false] at ht; rcases ht with rfl | rfl | rfl <;> exact ⟨by kernel_rfl, of_decide_eq_true (by kernel_rfl)⟩) hAk, rfl, kp.frame _, fun h => by cases h⟩
theorem closed_ProbeTrue : joinedFacts Try.prog 8 Try.f8 Rows.probeTrueSpec Rows.probeTrueRow = true := by
  unfold joinedFacts
  exact (band (band (band (band (band (band (band (band (band (band (band (band (band (band (band (band (band (band (band (band (band (band (band (band (band (band (band (band (band (band (band (by kernel_rfl) cl_laid) cl_maps) (by kernel_rfl)) (by kernel_rfl)) (by kernel_rfl)) (beqT cl_stops)) (by kernel_rfl)) (beqT cl_knobs)) (by kernel_rfl)) (by kernel_rfl)) (by kernel_rfl)) (by kernel_rfl)) (by kernel_rfl)) (by kernel_rfl)) (by kernel_rfl)) (by kernel_rfl)) (by kernel_rfl)) (by kernel_rfl)) (by kernel_rfl)) (by kernel_rfl)) (by kernel_rfl)) (beqT cl_keys.symm)) (by kernel_rfl)) cl_heard) cl_enter) (beqT cl_lifts.symm)) (beqT cl_make)) (by kernel_rfl)) (by kernel_rfl)) (by kernel_rfl)) (by kernel_rfl))
theorem proved_ProbeTrue : Rows.ProbeTrueSaid :=
  OpenClaim.holds_of_wide 8 Try.f8 rfl rfl rfl rfl rfl rfl rfl ⟨rfl, rfl, rfl, rfl, rfl⟩ rfl rfl rfl rfl rfl (by kernel_rfl) Try.func8 closed_ProbeTrue
    (of_decide_eq_true (by kernel_rfl)) (by unfold Func.isWrapper; first | (rw [if_pos (by decide +kernel)]; kernel_rfl) | (rw [if_neg (by decide +kernel)]; exact ⟨rfl, rfl⟩))
    (fun os started H enc _ => lifted_ProbeTrue os started H enc)
end Go.Proofs.Ytiiokdeehlfeeaa
