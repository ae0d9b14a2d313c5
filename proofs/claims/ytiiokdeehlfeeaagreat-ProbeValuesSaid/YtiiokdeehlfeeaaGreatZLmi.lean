/-
  ProbeValues holds for every input: Values, Possible and After agree with the reference, for each question, all probes and outcomes; the statement's function returns true and never panics.
-/
import Derived.Test.YtiiokdeehlfeeaaGreatSf
import Derived.Test.YtiiokdeehlfeeaaGreatRows
import Derived.OpenShut
import Derived.ProofKit
import Derived.ShutString
import Derived.ChangeOld
namespace Go.Proofs.YtiiokdeehlfeeaaGreat
open Go.MW Go.ChangeShapes Go.WideShapes Go.ChangeAt Go.RowKit
set_option maxRecDepth 100000 in
theorem rng_stood : Tryz.prog.stoodInHeld 50 = false := by kernel_rfl
set_option maxRecDepth 100000 in
theorem rng_guard : Tryz.prog.eqGuardType Tryz.prog.depth 50 = false := by kernel_rfl
theorem PossR.uniq {a : Quest} {l : List Prb} {vs : List Int} {b c : Bool} {e f : Int} (h : PossR a l vs b e) (g : PossR a l vs c f) : b = c ∧ e = f := by
  cases h with
  | bad h he =>
    cases g with
    | bad g _ => exact ⟨rfl, h.uniq g⟩
    | ok g _ => exact (he (h.uniq g)).elim
  | ok h h1 =>
    cases g with
    | bad g ge => exact (ge (g.uniq h)).elim
    | ok _ g1 => exact ⟨by cases b <;> cases c <;> simp_all, rfl⟩
theorem AfterR.uniq {a : Quest} {l : List Prb} {vs : List Int} {q r : Quest} {e f : Int} (h : AfterR a l vs q e) (g : AfterR a l vs r f) : q = r ∧ e = f := by
  cases h with
  | bad h he =>
    cases g with
    | bad g _ => exact ⟨rfl, h.uniq g⟩
    | none g _ => exact (he (h.uniq g)).elim
    | long g _ _ => exact (he (h.uniq g)).elim
    | ok g _ _ => exact (he (h.uniq g)).elim
  | none h h1 =>
    cases g with
    | bad g ge => exact (ge (g.uniq h)).elim
    | none => exact ⟨rfl, rfl⟩
    | long _ g1 _ => exact (h1 g1).elim
    | ok _ g1 _ => exact (h1 g1).elim
  | long h h1 h2 =>
    cases g with
    | bad g ge => exact (ge (g.uniq h)).elim
    | none _ g1 => exact (g1 h1).elim
    | long => exact ⟨rfl, rfl⟩
    | ok _ _ g2 => exact (g2 h2).elim
  | ok h h1 h2 =>
    cases g with
    | bad g ge => exact (ge (g.uniq h)).elim
    | none _ g1 => exact (g1 h1).elim
    | long _ _ g2 => exact (h2 g2).elim
    | ok => exact ⟨rfl, rfl⟩
set_option maxHeartbeats 4000000 in
theorem law_ProbeValues_walk {H : Heap} {w : World} {σ : List Ent} {v vl vo : Value} {a : Quest} {l : List Prb} {vs : List Int} (hs : St H w σ) (hr : RAsk H v a) (hp : RPs H vl l) (ho : ROut H vo vs) :
    Cl Tryz.prog 5 [v, vl, vo] w fun v w' => v = .bool true ∧ ∃ H', HLe H H' ∧ St H' w' σ := by
  obtain ⟨ul, uw, rfl, hl, hw⟩ := hr
  obtain ⟨ap, cp, rfl⟩ := RPs.shape hp
  obtain ⟨uo, rfl, hvs⟩ := ho
  have hplen := (RPs.len hp).2.2
  refine Cl.of Tryz.func5 rfl Tryz.ntmps5 (by simp) (args_cons (k := 0) rfl (args_cons (k := 1) rfl (args_cons (k := 2) rfl (args0)))) ?_
  refine .regSeq ?_
  refine .o (.box hs rfl rfl ?_); intro b3 w hs
  refine .o (.box hs rfl rfl ?_); intro b5 w hs
  refine .z zg (.nil (.seq (.regSeq (.z zg (.nil (.block ?_))))))
  refine .loop (fun p : Nat => ⟨105, [], [(7, I (p : Int)), (5, .pointer (some ⟨b5, 0, none⟩)), (3, .pointer (some ⟨b3, 0, none⟩)), (1, .slice ap l.length cp)]⟩)
    (fun p w => p ≤ l.length ∧ p ≤ 3 ∧ ∃ Hk, HLe H Hk ∧ St Hk w (.blk b5 [uo] :: .blk b3 [I a.sys.many, ul, uw, I a.width] :: σ))
    (fun p => 3 - p) 0 (by repeat (first | exact .nil rfl rfl | refine .cons rfl ?_))
    ⟨by omega, by omega, H, HLe.refl _, hs⟩ ?_
  rintro k w ⟨hk, hk3, Hk, hleK, hs⟩
  refine .seq (.regSeq (.z zm (.z zm (.z (zlen Tryz.runUnderlying28) (.z zlss (.z zm ?_))))))
  refine .bifD (t' := 24) rfl (fun hb24 => ?_) (fun hb24 => ?_)
  · refine .gT rfl rfl ?_
    refine .z zm ?_
    refine .gT rfl rfl ?_
    refine .z zlss (.z zpT (.nil ?_))
    refine (.condD rfl (fun hc27 => ?_) (fun hc27 => ?_))
    · refine .skip ?_
      refine nT ?_
      refine .seq (.block ?_)
      refine .cut (fun fs w => ∃ b8 lo hi e Hm, FSub fs ⟨105, [], [(8, .pointer (some ⟨b8, 0, none⟩)), (9, I e), (7, I (k : Int)), (5, .pointer (some ⟨b5, 0, none⟩)), (3, .pointer (some ⟨b3, 0, none⟩)), (1, .slice ap l.length cp)]⟩ ∧ HLe H Hm ∧ k < l.length ∧ k < 3 ∧ ValR a (getP l k) lo hi e ∧ St Hm w (.blk b8 [I lo, I hi] :: .blk b5 [uo] :: .blk b3 [I a.sys.many, ul, uw, I a.width] :: σ)) ?_ ?_
      · refine .draw mix rfl hs ?_; intro w hs
        refine .ys 0 rfl hs [_, _, _, _] Tryz.isAgg27 Tryz.sizeOf27 ?_; refine .z 1 rfl zm ?_; refine .z 2 rfl zm ?_
        have hk' : k < l.length := by omega
        have hk3' : k < 3 := by omega
        refine .ixX (enc := Prb.c) (i := 3) hs rfl (by kernel_rfl) .none (hp.mono hleK) rfl rfl Tryz.runUnderlying28 Tryz.sizeOf54 (getP_get hk') rfl ?_; intro b34 o34 hc34
        refine .r (i := 4) hs rfl (by kernel_rfl) .none (q_loadsR (vs := (getP l k).c) rfl Tryz.isAgg54 Tryz.sizeOf54 hc34) ?_
        refine .e2 (i := 5) (j := 9) (by kernel_rfl) rfl rfl rfl rfl .none .none hs ?_ ?_
        · refine .call Tryz.call23 rfl (probe_Values_spec (a := a) (p := getP l k) hs ⟨_, _, rfl, hl.mono hleK, hw.mono hleK⟩) ?_; rintro _ w ⟨Hm, lo, hi, e, hlem, rfl, hV, hs⟩
          refine .go ?_
          refine .z 6 rfl zm ?_; refine .z 7 rfl zex ?_; refine .z 8 rfl zex ?_
          refine .e1 (i := 9) (by kernel_rfl) rfl rfl .none hs ?_
          refine .alloc hs Tryz.zeroValue50 rfl ?_; intro b8 w hs
          refine .go ?_
          refine .e1 (i := 10) (by kernel_rfl) rfl rfl .none hs ?_
          refine .stores (vs := [_, _]) hs rfl rfl Tryz.sizeOf50 ?_; intro w hs
          refine .go ?_
          refine .z 11 rfl zg ?_; refine .done (by kernel_rfl) hs ?_
          exact nT ⟨_, lo, hi, e, Hm, by repeat (first | exact .nil rfl rfl | refine .cons rfl ?_), hleK.trans hlem, hk', hk3', hV, hs.sub (by repeat (first | exact Sub.refl _ | constructor | apply Sub.weaken))⟩
        · refine .alloc hs Tryz.zeroValue50 rfl ?_; intro b8 w hs
          refine .go ?_
          refine .e1 (i := 5) (by kernel_rfl) rfl rfl .none hs ?_
          refine .call Tryz.call23 rfl (probe_Values_spec (a := a) (p := getP l k) hs ⟨_, _, rfl, hl.mono hleK, hw.mono hleK⟩) ?_; rintro _ w ⟨Hm, lo, hi, e, hlem, rfl, hV, hs⟩
          refine .go ?_
          refine .z 6 rfl zm ?_; refine .z 7 rfl zex ?_; refine .z 8 rfl zex ?_
          refine .e1 (i := 10) (by kernel_rfl) rfl rfl .none hs ?_
          refine .stores (vs := [_, _]) hs rfl rfl Tryz.sizeOf50 ?_; intro w hs
          refine .go ?_
          refine .z 11 rfl zg ?_; refine .done (by kernel_rfl) hs ?_
          exact nT ⟨_, lo, hi, e, Hm, by repeat (first | exact .nil rfl rfl | refine .cons rfl ?_), hleK.trans hlem, hk', hk3', hV, hs.sub (by repeat (first | exact Sub.refl _ | constructor | apply Sub.weaken))⟩
      · rintro fs w ⟨b8, lo, hi, e, Hm, hfs, hleM, hk', hk3', hV, hs⟩
        refine WE.sub ?_ hfs
        refine .cut (fun fs w => ∃ b10 Hm, FSub fs ⟨105, [], [(10, .pointer (some ⟨b10, 0, none⟩)), (11, I e), (8, .pointer (some ⟨b8, 0, none⟩)), (9, I e), (7, I (k : Int)), (5, .pointer (some ⟨b5, 0, none⟩)), (3, .pointer (some ⟨b3, 0, none⟩)), (1, .slice ap l.length cp)]⟩ ∧ HLe H Hm ∧ St Hm w (.blk b10 [I lo, I hi] :: .blk b8 [I lo, I hi] :: .blk b5 [uo] :: .blk b3 [I a.sys.many, ul, uw, I a.width] :: σ)) ?_ ?_
        · refine .draw mix rfl hs ?_; intro w hs
          refine .ys 0 rfl hs [_, _, _, _] Tryz.isAgg27 Tryz.sizeOf27 ?_; refine .z 1 rfl zm ?_; refine .z 2 rfl zm ?_
          refine .ixX (enc := Prb.c) (i := 3) hs rfl (by kernel_rfl) .none (hp.mono hleM) rfl rfl Tryz.runUnderlying28 Tryz.sizeOf54 (getP_get hk') rfl ?_; intro b43 o43 hc43
          refine .r (i := 4) hs rfl (by kernel_rfl) .none (q_loadsR (vs := (getP l k).c) rfl Tryz.isAgg54 Tryz.sizeOf54 hc43) ?_
          refine .e2 (i := 5) (j := 9) (by kernel_rfl) rfl rfl rfl rfl .none .none hs ?_ ?_
          · refine .call Tryz.call24 rfl (ref09_Values_spec (a := a) (p := getP l k) hs ⟨_, _, rfl, hl.mono hleM, hw.mono hleM⟩) ?_; rintro _ w ⟨Hn, lo2, hi2, e2, hlen, rfl, hV2, hs⟩
            obtain ⟨rfl, rfl, rfl⟩ := hV2.uniq hV
            refine .go ?_
            refine .z 6 rfl zm ?_; refine .z 7 rfl zex ?_; refine .z 8 rfl zex ?_
            refine .e1 (i := 9) (by kernel_rfl) rfl rfl .none hs ?_
            refine .alloc hs Tryz.zeroValue50 rfl ?_; intro b10 w hs
            refine .go ?_
            refine .e1 (i := 10) (by kernel_rfl) rfl rfl .none hs ?_
            refine .stores (vs := [_, _]) hs rfl rfl Tryz.sizeOf50 ?_; intro w hs
            refine .go ?_
            refine .z 11 rfl zg ?_; refine .done (by kernel_rfl) hs ?_
            exact nT ⟨_, Hn, by repeat (first | exact .nil rfl rfl | refine .cons rfl ?_), hleM.trans hlen, hs.sub (by repeat (first | exact Sub.refl _ | constructor | apply Sub.weaken))⟩
          · refine .alloc hs Tryz.zeroValue50 rfl ?_; intro b10 w hs
            refine .go ?_
            refine .e1 (i := 5) (by kernel_rfl) rfl rfl .none hs ?_
            refine .call Tryz.call24 rfl (ref09_Values_spec (a := a) (p := getP l k) hs ⟨_, _, rfl, hl.mono hleM, hw.mono hleM⟩) ?_; rintro _ w ⟨Hn, lo2, hi2, e2, hlen, rfl, hV2, hs⟩
            obtain ⟨rfl, rfl, rfl⟩ := hV2.uniq hV
            refine .go ?_
            refine .z 6 rfl zm ?_; refine .z 7 rfl zex ?_; refine .z 8 rfl zex ?_
            refine .e1 (i := 10) (by kernel_rfl) rfl rfl .none hs ?_
            refine .stores (vs := [_, _]) hs rfl rfl Tryz.sizeOf50 ?_; intro w hs
            refine .go ?_
            refine .z 11 rfl zg ?_; refine .done (by kernel_rfl) hs ?_
            exact nT ⟨_, Hn, by repeat (first | exact .nil rfl rfl | refine .cons rfl ?_), hleM.trans hlen, hs.sub (by repeat (first | exact Sub.refl _ | constructor | apply Sub.weaken))⟩
        · rintro fs w ⟨b10, Hn, hfs, hleN, hs⟩
          refine WE.sub ?_ hfs
          refine .regSeq (.y hs (zls [_, _] Tryz.isAgg50 Tryz.sizeOf50) (.y hs (zls [_, _] Tryz.isAgg50 Tryz.sizeOf50) ?_))
          refine .q hs (q_neS2 rfl rfl Tryz.runUnderlying50 rng_stood rng_guard (fun f hf => by
            simp only [List.mem_cons, List.not_mem_nil, or_false] at hf
            rcases hf with rfl | rfl <;> exact ⟨by decide, Tryz.runUnderlying3, Tryz.isAgg3⟩)) ?_
          refine .z zm ?_
          refine .bif (t' := 51) rfl (fun hb51 => ?_) (fun hb51 => ?_)
          · refine .gFs 3 3 false rfl rfl rfl ?_
            refine .z zpT (.nil ?_)
            refine (.condT rfl rfl ?_)
            refine .regSeq (.z zg (.nil ?_))
            refine .ret (rB (rT (rT (rB (rT (Fin.ret1 Tryz.results5 rfl ?_))))))
            first
              | exact ⟨rfl, H9, hl4.trans hle9, hs.out⟩
              | (exfalso; first | omega | (simp_all; done))
          · refine .gT rfl rfl ?_
            refine .z zm ?_
            refine .gT rfl rfl ?_
            refine .z zm ?_
            refine .gT rfl rfl ?_
            refine .z zneq (.z zpF (.nil ?_))
            refine (.condN rfl (fun hc55 => ?_) (fun hc55 => ?_))
            · refine .regSeq (.z zg (.nil ?_))
              refine .ret (rB (rT (rT (rB (rT (Fin.ret1 Tryz.results5 rfl ?_))))))
              first
                | exact ⟨rfl, H9, hl4.trans hle9, hs.out⟩
                | (exfalso; first | omega | (simp_all; done))
            · refine .skip ?_
              refine nB (nT ?_)
              refine .region (.z zm (.z zadd (.z zg (.nil ?_))))
              refine nT ?_
              exact ⟨k + 1, .consI rfl (by push_cast; omega) (by repeat (first | exact .nil rfl rfl | refine .cons rfl ?_)), ⟨by omega, by omega, Hn, hleN, hs.sub (by repeat (first | exact Sub.refl _ | constructor | apply Sub.weaken))⟩, by omega⟩
    · refine .exit ?_
      refine xT (xT (xB (nT ?_)))
      refine .regSeq (.y hs (zls [_, _, _, _] Tryz.isAgg27 Tryz.sizeOf27) (.z zm (.y hs (zls [_] Tryz.isAgg42 Tryz.sizeOf42) ?_)))
      refine .o (.call Tryz.call25 rfl (probe_Possible_spec (a := a) (l := l) (vs := vs) hs ⟨_, _, rfl, hl.mono hleK, hw.mono hleK⟩ (hp.mono hleK) ⟨_, rfl, hvs.mono hleK⟩) ?_); rintro _ w ⟨H1, b1, e1, hle1, rfl, hP1, hs⟩
      have hl1 := hleK.trans hle1
      refine .z zm (.z zex (.z zex (.z zg (.z zg (.nil (.regSeq (.y hs (zls [_, _, _, _] Tryz.isAgg27 Tryz.sizeOf27) (.z zm (.y hs (zls [_] Tryz.isAgg42 Tryz.sizeOf42) ?_)))))))))
      refine .o (.call Tryz.call26 rfl (ref09_Possible_spec (a := a) (l := l) (vs := vs) hs ⟨_, _, rfl, hl.mono hl1, hw.mono hl1⟩ (hp.mono hl1) ⟨_, rfl, hvs.mono hl1⟩) ?_); rintro _ w ⟨H2, b2, e2, hle2, rfl, hP2, hs⟩
      obtain ⟨rfl, rfl⟩ := hP2.uniq hP1
      have hl2 := hl1.trans hle2
      refine .z zm (.z zex (.z zex (.z zg (.z zg (.nil (.regSeq (.y hs (zls [_, _, _, _] Tryz.isAgg27 Tryz.sizeOf27) (.z zm (.y hs (zls [_] Tryz.isAgg42 Tryz.sizeOf42) ?_)))))))))
      refine .o (.call Tryz.call27 rfl (probe_After_spec (a := a) (l := l) (vs := vs) hs ⟨_, _, rfl, hl.mono hl2, hw.mono hl2⟩ (hp.mono hl2) ⟨_, rfl, hvs.mono hl2⟩) ?_); rintro _ w ⟨H3, _, q3, e3, hle3, rfl, ⟨ul3, uw3, rfl, g1, g2⟩, hA3, hs⟩
      have hl3 := hl2.trans hle3
      obtain ⟨a31, c31, rfl⟩ := RL.shape g1
      obtain ⟨a32, c32, rfl⟩ := RI.shape g2
      refine .z zm (.z zex (.z zex ?_))
      refine .o (.alloc hs Tryz.zeroValue27 rfl ?_); intro b16 w hs
      refine .o (.stores (vs := [_, _, _, _]) hs rfl rfl Tryz.sizeOf27 ?_); intro w hs
      refine .z zg (.nil (.regSeq (.y hs (zls [_, _, _, _] Tryz.isAgg27 Tryz.sizeOf27) (.z zm (.y hs (zls [_] Tryz.isAgg42 Tryz.sizeOf42) ?_)))))
      refine .o (.call Tryz.call28 rfl (ref09_After_spec (a := a) (l := l) (vs := vs) hs ⟨_, _, rfl, hl.mono hl3, hw.mono hl3⟩ (hp.mono hl3) ⟨_, rfl, hvs.mono hl3⟩) ?_); rintro _ w ⟨H4, _, q4, e4, hle4, rfl, ⟨ul4, uw4, rfl, g3, g4⟩, hA4, hs⟩
      obtain ⟨rfl, rfl⟩ := hA4.uniq hA3
      have hl4 := hl3.trans hle4
      obtain ⟨a41, c41, rfl⟩ := RL.shape g3
      obtain ⟨a42, c42, rfl⟩ := RI.shape g4
      refine .z zm (.z zex (.z zex ?_))
      refine .o (.alloc hs Tryz.zeroValue27 rfl ?_); intro b18 w hs
      refine .o (.stores (vs := [_, _, _, _]) hs rfl rfl Tryz.sizeOf27 ?_); intro w hs
      refine .z zg (.nil (.regSeq (.z zm (.z zm ?_))))
      refine .q hs (q_eqB rfl rfl Tryz.runUnderlying4) ?_
      refine .z zm ?_
      refine .bif (t' := 87) rfl (fun hb87 => ?_) (fun hb87 => ?_)
      · refine .gT rfl rfl ?_
        refine .z zm ?_
        refine .gT rfl rfl ?_
        refine .z zm ?_
        refine .gT rfl rfl ?_
        refine .z zeql (.z zpT (.z zm ?_))
        refine .bifD (t' := 92) rfl (fun hb92 => ?_) (fun hb92 => ?_)
        · refine .gT rfl rfl ?_
          refine .y hs (zls [_, _, _, _] Tryz.isAgg27 Tryz.sizeOf27) ?_
          refine .gT rfl rfl ?_
          refine .y hs (zls [_, _, _, _] Tryz.isAgg27 Tryz.sizeOf27) ?_
          refine .gT rfl rfl ?_
          refine .o (.call Tryz.call29 rfl (ref09_SameAsk_spec hs ⟨_, _, rfl, g1.mono hle4, g2.mono hle4⟩ ⟨_, _, rfl, g3, g4⟩) ?_); rintro _ w ⟨rfl, hs⟩
          refine .z zpT (.z zm ?_)
          refine .bif (t' := 97) rfl (fun hb97 => ?_) (fun hb97 => ?_)
          · refine .gT rfl rfl ?_
            refine .z zm ?_
            refine .gT rfl rfl ?_
            refine .z zm ?_
            refine .gT rfl rfl ?_
            refine .z zeql (.z zpT (.z zm ?_))
            refine .bifD (t' := 102) rfl (fun hb102 => ?_) (fun hb102 => ?_)
            · refine .gT rfl rfl ?_
              refine .o (.call Tryz.call15 rfl (law09_sane_spec hs) ?_); rintro _ w ⟨rfl, H9, hle9, hs⟩
              refine .z zpT (.z zg (.nil ?_))
              refine .ret (Fin.ret1 Tryz.results5 rfl ?_)
              first
                | exact ⟨rfl, H9, hl4.trans hle9, hs.out⟩
                | (exfalso; first | omega | (simp_all; done))
            · refine .gFs 1 18 true rfl rfl rfl ?_
              refine .z zpF (.z zg (.nil ?_))
              refine .ret (Fin.ret1 Tryz.results5 rfl ?_)
              first
                | exact ⟨rfl, H9, hl4.trans hle9, hs.out⟩
                | (exfalso; first | omega | (simp_all; done))
          · refine .gFs 3 13 true rfl rfl rfl ?_
            refine .z zpF (.z zm ?_)
            refine .gFs 1 18 true rfl rfl rfl ?_
            refine .z zpF (.z zg (.nil ?_))
            refine .ret (Fin.ret1 Tryz.results5 rfl ?_)
            first
              | exact ⟨rfl, H9, hl4.trans hle9, hs.out⟩
              | (exfalso; first | omega | (simp_all; done))
        · refine .gFs 3 8 true rfl rfl rfl ?_
          refine .z zpF (.z zm ?_)
          refine .gFs 3 13 true rfl rfl rfl ?_
          refine .z zpF (.z zm ?_)
          refine .gFs 1 18 true rfl rfl rfl ?_
          refine .z zpF (.z zg (.nil ?_))
          refine .ret (Fin.ret1 Tryz.results5 rfl ?_)
          first
            | exact ⟨rfl, H9, hl4.trans hle9, hs.out⟩
            | (exfalso; first | omega | (simp_all; done))
      · refine .gFs 3 3 true rfl rfl rfl ?_
        refine .z zpF (.z zm ?_)
        refine .gFs 3 8 true rfl rfl rfl ?_
        refine .z zpF (.z zm ?_)
        refine .gFs 3 13 true rfl rfl rfl ?_
        refine .z zpF (.z zm ?_)
        refine .gFs 1 18 true rfl rfl rfl ?_
        refine .z zpF (.z zg (.nil ?_))
        refine .ret (Fin.ret1 Tryz.results5 rfl ?_)
        first
          | exact ⟨rfl, H9, hl4.trans hle9, hs.out⟩
          | (exfalso; first | omega | (simp_all; done))
  · refine .gFs 2 4 true rfl rfl rfl ?_
    refine .z zpF (.nil ?_)
    refine (.condF rfl rfl ?_)
    refine .exit ?_
    refine xT (xT (xB (nT ?_)))
    refine .regSeq (.y hs (zls [_, _, _, _] Tryz.isAgg27 Tryz.sizeOf27) (.z zm (.y hs (zls [_] Tryz.isAgg42 Tryz.sizeOf42) ?_)))
    refine .o (.call Tryz.call25 rfl (probe_Possible_spec (a := a) (l := l) (vs := vs) hs ⟨_, _, rfl, hl.mono hleK, hw.mono hleK⟩ (hp.mono hleK) ⟨_, rfl, hvs.mono hleK⟩) ?_); rintro _ w ⟨H1, b1, e1, hle1, rfl, hP1, hs⟩
    have hl1 := hleK.trans hle1
    refine .z zm (.z zex (.z zex (.z zg (.z zg (.nil (.regSeq (.y hs (zls [_, _, _, _] Tryz.isAgg27 Tryz.sizeOf27) (.z zm (.y hs (zls [_] Tryz.isAgg42 Tryz.sizeOf42) ?_)))))))))
    refine .o (.call Tryz.call26 rfl (ref09_Possible_spec (a := a) (l := l) (vs := vs) hs ⟨_, _, rfl, hl.mono hl1, hw.mono hl1⟩ (hp.mono hl1) ⟨_, rfl, hvs.mono hl1⟩) ?_); rintro _ w ⟨H2, b2, e2, hle2, rfl, hP2, hs⟩
    obtain ⟨rfl, rfl⟩ := hP2.uniq hP1
    have hl2 := hl1.trans hle2
    refine .z zm (.z zex (.z zex (.z zg (.z zg (.nil (.regSeq (.y hs (zls [_, _, _, _] Tryz.isAgg27 Tryz.sizeOf27) (.z zm (.y hs (zls [_] Tryz.isAgg42 Tryz.sizeOf42) ?_)))))))))
    refine .o (.call Tryz.call27 rfl (probe_After_spec (a := a) (l := l) (vs := vs) hs ⟨_, _, rfl, hl.mono hl2, hw.mono hl2⟩ (hp.mono hl2) ⟨_, rfl, hvs.mono hl2⟩) ?_); rintro _ w ⟨H3, _, q3, e3, hle3, rfl, ⟨ul3, uw3, rfl, g1, g2⟩, hA3, hs⟩
    have hl3 := hl2.trans hle3
    obtain ⟨a31, c31, rfl⟩ := RL.shape g1
    obtain ⟨a32, c32, rfl⟩ := RI.shape g2
    refine .z zm (.z zex (.z zex ?_))
    refine .o (.alloc hs Tryz.zeroValue27 rfl ?_); intro b16 w hs
    refine .o (.stores (vs := [_, _, _, _]) hs rfl rfl Tryz.sizeOf27 ?_); intro w hs
    refine .z zg (.nil (.regSeq (.y hs (zls [_, _, _, _] Tryz.isAgg27 Tryz.sizeOf27) (.z zm (.y hs (zls [_] Tryz.isAgg42 Tryz.sizeOf42) ?_)))))
    refine .o (.call Tryz.call28 rfl (ref09_After_spec (a := a) (l := l) (vs := vs) hs ⟨_, _, rfl, hl.mono hl3, hw.mono hl3⟩ (hp.mono hl3) ⟨_, rfl, hvs.mono hl3⟩) ?_); rintro _ w ⟨H4, _, q4, e4, hle4, rfl, ⟨ul4, uw4, rfl, g3, g4⟩, hA4, hs⟩
    obtain ⟨rfl, rfl⟩ := hA4.uniq hA3
    have hl4 := hl3.trans hle4
    obtain ⟨a41, c41, rfl⟩ := RL.shape g3
    obtain ⟨a42, c42, rfl⟩ := RI.shape g4
    refine .z zm (.z zex (.z zex ?_))
    refine .o (.alloc hs Tryz.zeroValue27 rfl ?_); intro b18 w hs
    refine .o (.stores (vs := [_, _, _, _]) hs rfl rfl Tryz.sizeOf27 ?_); intro w hs
    refine .z zg (.nil (.regSeq (.z zm (.z zm ?_))))
    refine .q hs (q_eqB rfl rfl Tryz.runUnderlying4) ?_
    refine .z zm ?_
    refine .bif (t' := 87) rfl (fun hb87 => ?_) (fun hb87 => ?_)
    · refine .gT rfl rfl ?_
      refine .z zm ?_
      refine .gT rfl rfl ?_
      refine .z zm ?_
      refine .gT rfl rfl ?_
      refine .z zeql (.z zpT (.z zm ?_))
      refine .bifD (t' := 92) rfl (fun hb92 => ?_) (fun hb92 => ?_)
      · refine .gT rfl rfl ?_
        refine .y hs (zls [_, _, _, _] Tryz.isAgg27 Tryz.sizeOf27) ?_
        refine .gT rfl rfl ?_
        refine .y hs (zls [_, _, _, _] Tryz.isAgg27 Tryz.sizeOf27) ?_
        refine .gT rfl rfl ?_
        refine .o (.call Tryz.call29 rfl (ref09_SameAsk_spec hs ⟨_, _, rfl, g1.mono hle4, g2.mono hle4⟩ ⟨_, _, rfl, g3, g4⟩) ?_); rintro _ w ⟨rfl, hs⟩
        refine .z zpT (.z zm ?_)
        refine .bif (t' := 97) rfl (fun hb97 => ?_) (fun hb97 => ?_)
        · refine .gT rfl rfl ?_
          refine .z zm ?_
          refine .gT rfl rfl ?_
          refine .z zm ?_
          refine .gT rfl rfl ?_
          refine .z zeql (.z zpT (.z zm ?_))
          refine .bifD (t' := 102) rfl (fun hb102 => ?_) (fun hb102 => ?_)
          · refine .gT rfl rfl ?_
            refine .o (.call Tryz.call15 rfl (law09_sane_spec hs) ?_); rintro _ w ⟨rfl, H9, hle9, hs⟩
            refine .z zpT (.z zg (.nil ?_))
            refine .ret (Fin.ret1 Tryz.results5 rfl ?_)
            first
              | exact ⟨rfl, H9, hl4.trans hle9, hs.out⟩
              | (exfalso; first | omega | (simp_all; done))
          · refine .gFs 1 18 true rfl rfl rfl ?_
            refine .z zpF (.z zg (.nil ?_))
            refine .ret (Fin.ret1 Tryz.results5 rfl ?_)
            first
              | exact ⟨rfl, H9, hl4.trans hle9, hs.out⟩
              | (exfalso; first | omega | (simp_all; done))
        · refine .gFs 3 13 true rfl rfl rfl ?_
          refine .z zpF (.z zm ?_)
          refine .gFs 1 18 true rfl rfl rfl ?_
          refine .z zpF (.z zg (.nil ?_))
          refine .ret (Fin.ret1 Tryz.results5 rfl ?_)
          first
            | exact ⟨rfl, H9, hl4.trans hle9, hs.out⟩
            | (exfalso; first | omega | (simp_all; done))
      · refine .gFs 3 8 true rfl rfl rfl ?_
        refine .z zpF (.z zm ?_)
        refine .gFs 3 13 true rfl rfl rfl ?_
        refine .z zpF (.z zm ?_)
        refine .gFs 1 18 true rfl rfl rfl ?_
        refine .z zpF (.z zg (.nil ?_))
        refine .ret (Fin.ret1 Tryz.results5 rfl ?_)
        first
          | exact ⟨rfl, H9, hl4.trans hle9, hs.out⟩
          | (exfalso; first | omega | (simp_all; done))
    · refine .gFs 3 3 true rfl rfl rfl ?_
      refine .z zpF (.z zm ?_)
      refine .gFs 3 8 true rfl rfl rfl ?_
      refine .z zpF (.z zm ?_)
      refine .gFs 3 13 true rfl rfl rfl ?_
      refine .z zpF (.z zm ?_)
      refine .gFs 1 18 true rfl rfl rfl ?_
      refine .z zpF (.z zg (.nil ?_))
      refine .ret (Fin.ret1 Tryz.results5 rfl ?_)
      first
        | exact ⟨rfl, H9, hl4.trans hle9, hs.out⟩
        | (exfalso; first | omega | (simp_all; done))
theorem law_ProbeValues {W : World} {v0 v1 v2 : Value} {a0 : Quest} {a1 : List Prb} {a2 : List Int} (w0 : RAsk (hp W) v0 a0) (_ : a0.In) (w1 : RPs (hp W) v1 a1) (_ : PrbsIn a1) (w2 : ROu (hp W) v2 a2) (_ : IsIn a2) :
    Cl Tryz.prog 5 [v0, v1, v2] W fun v w' => v = .bool true ∧ ∃ H', HLe (hp W) H' ∧ St H' w' [] := law_ProbeValues_walk (St.start W) w0 w1 w2
set_option maxRecDepth 100000 in
theorem lifted_ProbeValues (os : Os) (started : os.Started) (H : Type) (enc : TypeId × Value → H) :
    ReturnsInHanded {} Tryz.checked os 5 .any (Rows.probeValuesSpec.pre6 enc Tryz.prog Tryz.f5 Rows.probeValuesRow.domain false) (Rows.probeValuesSpec.post enc Tryz.prog Tryz.f5 false true false false) := by
  refine returnsInHanded_of_change_sized (C := Tryz.checked) cl_own started (by kernel_rfl) Tryz.func5
    (ChangeSpec.witness6 (enc := enc) (C := Tryz.checked) false ⟨#[], #[.agg #[.int .i64 0, .slice none 0 0, .slice none 0 0, .int .i64 0], .slice none 0 0, .agg #[.slice none 0 0]], []⟩ 8 (by kernel_rfl) (by kernel_rfl) (by kernel_rfl) (by kernel_rfl)) ?_
  intro W base args ds gs before hval0 hW hcnd hsz _
  have hval : ∀ (j : Nat) t v, Tryz.f5.params[j]? = some t → args[j]? = some v → Value.okWide Tryz.prog W .any base t v := hval0
  have hW' := hW
  obtain ⟨p, q, hA0, hV, rfl, hfz, hnd⟩ := hW
  have hA : DataW.TrodAll enc Tryz.prog W 0 (fun _ => true) true Tryz.f5.params.toList args.toList ds p := hA0
  have hAk := hA
  rw [Tryz.params5] at hA hval
  obtain ⟨v0, vs0, d0, ds0, p0, q0, hargs, rfl, rfl, h0, r0⟩ := trodAll_cons hA
  obtain ⟨v1, vs1, d1, ds1, p1, q1, rfl, rfl, rfl, h1, r1⟩ := trodAll_cons r0
  obtain ⟨v2, vs2, d2, ds2, p2, q2, rfl, rfl, rfl, h2, r2⟩ := trodAll_cons r1
  obtain ⟨rfl, rfl, rfl⟩ := trodAll_nil r2
  obtain rfl : args = #[v0, v1, v2] := by cases args; simp_all
  obtain ⟨rfl, rfl⟩ := trodVars_none hV
  have k0 : Wt Tryz.prog 27 d0 := fun n hn => (by have := List.all_eq_true.1 hsz n (DataW.weights_mem_each (j := 0) rfl rfl n hn); simpa using this)
  obtain ⟨a0, w0, u0⟩ := open_Ask (hval 0 27 v0 rfl rfl) h0 k0
  have k1 : Wt Tryz.prog 28 d1 := fun n hn => (by have := List.all_eq_true.1 hsz n (DataW.weights_mem_each (j := 1) rfl rfl n hn); simpa using this)
  obtain ⟨a1, w1, u1⟩ := open_probes (hval 1 28 v1 rfl rfl) h1 k1
  have k2 : Wt Tryz.prog 42 d2 := fun n hn => (by have := List.all_eq_true.1 hsz n (DataW.weights_mem_each (j := 2) rfl rfl n hn); simpa using this)
  obtain ⟨a2, w2, u2⟩ := open_Outcome (hval 2 42 v2 rfl rfl) h2 k2
  refine Calls.mono (law_ProbeValues w0 u0 w1 u1 w2 u2) fun e W' ⟨v, he, hv, H', hle, hs⟩ => ?_
  subst he; subst hv
  have kp := St.kept hle hs
  exact ⟨_, rfl, _, _, _, [], _, [], hW', trodAll_mk1 (shut_bool Tryz.underlying4 _), Kept.trodAll cl_laid kp (by rw [Tryz.params5]; intro t ht; simp only [List.mem_cons, List.not_mem_nil, or_false] at ht; rcases ht with rfl | rfl | rfl <;> exact ⟨by kernel_rfl, of_decide_eq_true (by kernel_rfl)⟩) hAk, rfl, kp.frame _, fun h => by cases h⟩
theorem closed_ProbeValues : joinedFacts Tryz.prog 5 Tryz.f5 Rows.probeValuesSpec Rows.probeValuesRow = true := by
  unfold joinedFacts
  exact (band (band (band (band (band (band (band (band (band (band (band (band (band (band (band (band (band (band (band (band (band (band (band (band (band (band (band (band (band (band (band (by kernel_rfl) cl_laid) cl_maps) (by kernel_rfl)) (by kernel_rfl)) (by kernel_rfl)) (beqT cl_stops)) (by kernel_rfl)) (beqT cl_knobs)) (by kernel_rfl)) (by kernel_rfl)) (by kernel_rfl)) (by kernel_rfl)) (by kernel_rfl)) (by kernel_rfl)) (by kernel_rfl)) (by kernel_rfl)) (by kernel_rfl)) (by kernel_rfl)) (by kernel_rfl)) (by kernel_rfl)) (by kernel_rfl)) (beqT cl_keys.symm)) (by kernel_rfl)) cl_heard) cl_enter) (beqT cl_lifts.symm)) (beqT cl_make)) (by kernel_rfl)) (by kernel_rfl)) (by kernel_rfl)) (by kernel_rfl))
theorem proved_ProbeValues : Rows.ProbeValuesSaid :=
  OpenClaim.holds_of_wide 5 Tryz.f5 rfl rfl rfl rfl rfl rfl rfl ⟨rfl, rfl, rfl, rfl, rfl⟩ rfl rfl rfl rfl rfl (by kernel_rfl) Tryz.func5 closed_ProbeValues
    (of_decide_eq_true (by kernel_rfl)) (by unfold Func.isWrapper; first | (rw [if_pos (by decide +kernel)]; kernel_rfl) | (rw [if_neg (by decide +kernel)]; exact ⟨rfl, rfl⟩))
    (fun os started H enc _ => lifted_ProbeValues os started H enc)
end Go.Proofs.YtiiokdeehlfeeaaGreat
