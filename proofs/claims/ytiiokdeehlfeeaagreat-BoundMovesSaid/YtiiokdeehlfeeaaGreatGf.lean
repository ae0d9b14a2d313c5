/-
  Texts of these claims, joined: Yq Yr Yx.
-/
import Derived.Test.YtiiokdeehlfeeaaGreatGe
namespace Go.Proofs.YtiiokdeehlfeeaaGreat
open Go.MW
theorem slices_IndexFunc_known {H : Heap} {w : World} {σ : List Ent} {v : Value} {xs : List Int} {g : Nat} {cap : List Value} (q : Int → Prop) (hs : St H w σ) (hR : RI H v xs) (hc : ∀ args w, (callFunc g args).run Tryz.prog w = .ok (.enter g args) w)
    (hp : ∀ H' w σ (n : Int), n ∈ xs → HLe H H' → St H' w σ → Cl Tryz.prog g ([I n] ++ cap) w fun u w' => ∃ H1 b, HLe H' H1 ∧ u = .bool b ∧ (b = true ↔ q n) ∧ St H1 w' σ) :
    Cl Tryz.prog 161 [v, .func (.func g) #[] cap.toArray] w fun u w' => ∃ H1 i, HLe H H1 ∧ u = I i ∧ (0 ≤ i ↔ ∃ x ∈ xs, q x) ∧ St H1 w' σ := by
  obtain ⟨a, c, rfl⟩ := RI.shape hR
  have hl := (RI.len hR).2.2
  refine Cl.of Tryz.func161 rfl Tryz.ntmps161 (by simp) (args_cons (k := 0) rfl (args_cons (k := 1) rfl (args0))) ?_
  refine .regSeq (.z zg (.nil (.seq (.regSeq (.z zm (.z (zlen Tryz.runUnderlying25) (.z zm (.nil ?_))))))))
  refine .for (N := xs.length) (J := fun k fr w => fr = [(1, .func (.func g) #[] cap.toArray), (0, .slice a xs.length c)] ∧ ∃ H1, HLe H H1 ∧ (∀ j < k, ∀ y, xs[j]? = some y → ¬ q y) ∧ St H1 w σ) (by omega) ?_ ?_ ?_
  · exact .mk ⟨rfl, H, HLe.refl H, fun j hj => by omega, hs⟩
  · rintro k fr w hk ⟨rfl, H1, hle1, hno, hs⟩
    obtain ⟨x, hx⟩ := nth hk
    refine .block (.regSeq (.z zm (.z zg (.nil (.regSeq (.z zm (.z zm (.z zm ?_))))))))
    refine .ixY hs (hR.mono hle1) rfl rfl Tryz.runUnderlying25 Tryz.sizeOf3 hx rfl ?_; intro b14 o14 hc14
    refine .q hs (q_loadR rfl Tryz.isAgg3 hc14) ?_
    refine .o (.callG (first := []) (cap := cap) rfl rfl hc (hp _ _ _ x (List.mem_of_getElem? hx) hle1 hs) ?_); rintro _ w ⟨H2, b16, hle2, rfl, hb16, hs⟩
    refine .nil ?_
    refine (.cond rfl (fun hc16 => ?_) (fun hc16 => ?_))
    · refine .regSeq (.z zm (.z zg (.nil ?_)))
      refine .ret (rB (rT (rB (rT (Fin.ret1 Tryz.results161 rfl ?_)))))
      exact ⟨H2, _, hle1.trans hle2, rfl, ⟨fun _ => ⟨x, List.mem_of_getElem? hx, hb16.1 hc16⟩, fun _ => by omega⟩, hs⟩
    · refine .skip ?_
      refine nB (nT ?_)
      exact .mk ⟨rfl, H2, hle1.trans hle2, upto_succ hno hx (fun h => by rw [hb16.2 h] at hc16; cases hc16), hs⟩
  · rintro fr w ⟨rfl, H1, hle1, hno, hs⟩
    refine nT ?_
    refine .regSeq (.z zg (.nil ?_))
    refine .ret (Fin.ret1 Tryz.results161 rfl ?_)
    exact ⟨H1, _, hle1, rfl, ⟨fun h => by omega, fun ⟨x, h1, h2⟩ => by
      obtain ⟨j, hj⟩ := List.getElem?_of_mem h1
      exact (hno j (List.getElem?_eq_some_iff.1 hj).1 x hj h2).elim⟩, hs⟩
theorem slices_ContainsFunc_known {H : Heap} {w : World} {σ : List Ent} {v : Value} {xs : List Int} {g : Nat} {cap : List Value} (q : Int → Prop) (hs : St H w σ) (hR : RI H v xs) (hc : ∀ args w, (callFunc g args).run Tryz.prog w = .ok (.enter g args) w)
    (hp : ∀ H' w σ (n : Int), n ∈ xs → HLe H H' → St H' w σ → Cl Tryz.prog g ([I n] ++ cap) w fun u w' => ∃ H1 b, HLe H' H1 ∧ u = .bool b ∧ (b = true ↔ q n) ∧ St H1 w' σ) :
    Cl Tryz.prog 129 [v, .func (.func g) #[] cap.toArray] w fun u w' => ∃ H1 b, HLe H H1 ∧ u = .bool b ∧ (b = true ↔ ∃ x ∈ xs, q x) ∧ St H1 w' σ := by
  refine Cl.of Tryz.func129 rfl Tryz.ntmps129 (by simp) (args_cons (k := 0) rfl (args_cons (k := 1) rfl (args0))) ?_
  refine .regSeq (.z zg (.nil (.regSeq (.z zm (.z zm ?_)))))
  refine .o (.call Tryz.call161 rfl (slices_IndexFunc_known q hs hR hc hp) ?_); rintro _ w ⟨H1, i, hle1, rfl, hi, hs⟩
  refine .z zgeq (.z zg (.nil ?_))
  refine .ret (Fin.ret1 Tryz.results129 rfl ?_)
  exact ⟨H1, _, hle1, rfl, by simp only [decide_eq_true_eq]; exact hi, hs⟩
theorem bound_CheckConflict_1 {H : Heap} {w : World} {σ : List Ent} {b : Nat} {i : Int} {l : Lim} {vb : Value} {bs : List Int} (hs : St H w σ) (hb : Row H b [vb]) (hr : RI H vb bs) :
    Cl Tryz.prog 128 [I i, .agg l.c.toArray, .pointer (some ⟨b, 0, none⟩)] w fun u w' => u = .bool (decide (l.S ∈ bs)) ∧ St H w' σ := by
  have hb0 : cellAt H b 0 = some vb := by rw [hb.cell]; rfl
  refine Cl.of Tryz.func128 rfl Tryz.ntmps128 (by simp) (args_cons (k := 0) rfl (args_cons (k := 1) rfl (args_cons (k := 2) rfl (args0)))) ?_
  refine .regSeq ?_
  refine .o (.box hs rfl rfl ?_); intro b4 w hs
  refine .z zg (.nil (.regSeq (.y hs (zld Tryz.isAgg25) (.z (zfa fa_api_Limit_3) (.y hs (zld Tryz.isAgg3) ?_)))))
  refine .o (.call Tryz.call127 rfl (slices_Contains_int hs hr) ?_); rintro _ w ⟨rfl, hs⟩
  refine .z zg (.nil ?_)
  refine .ret (Fin.ret1 Tryz.results128 rfl ?_)
  exact ⟨rfl, hs.out⟩
theorem bound_CheckConflict_2 {H : Heap} {w : World} {σ : List Ent} {n : Int} {b : Nat} {s : Syst} {ul : Value} (hs : St H w σ) (r : Row H b [I s.many, ul]) (hl : RL H ul s.lims) (hok : s.Ok) :
    Cl Tryz.prog 130 [I n, .pointer (some ⟨b, 0, none⟩)] w fun u w' => ∃ H1 bb, HLe H H1 ∧ u = .bool bb ∧ (bb = true ↔ ¬ (s.wo [n]).Sound) ∧ St H1 w' σ := by
  obtain ⟨al, cl, rfl⟩ := RL.shape hl
  have c1 := r.cells 0 [I s.many, .slice al s.lims.length cl]
  have hll := hok.len
  refine Cl.of Tryz.func130 rfl Tryz.ntmps130 (by simp) (args_cons (k := 0) rfl (args_cons (k := 1) rfl (args0))) ?_
  refine .regSeq (.z zg (.nil (.regSeq (.y hs (zls [_, _] Tryz.isAgg24 Tryz.sizeOf24) (.z zm ?_)))))
  refine .o (.buildSlice (cells := [_]) hs bls_sl_int_1 rfl rfl ?_); intro b6 w hs
  obtain ⟨H1, hle1, r6, hs⟩ := OwnS.publishI (xs := [n]) (v := .slice (some ⟨b6, 0, none⟩) 1 1) (.full (len := 1) rfl) (by simp) hs (by repeat constructor)
  refine .o (.call Tryz.call109 rfl (bound_Without_spec (s := s) hs ⟨_, rfl, hl.mono hle1⟩ r6 (by omega)) ?_); rintro _ w ⟨H2, hle2, hS7, hs⟩
  refine .o (.call Tryz.call114 rfl (bound_isSound_spec (s := s.wo [n]) hs (hok.wo _) hS7) ?_); rintro _ w ⟨H3, b8, hle3, rfl, hb8, hs⟩
  refine .z znot (.z zg (.nil ?_))
  refine .ret (Fin.ret1 Tryz.results130 rfl ?_)
  exact ⟨H3, _, hle1.trans (hle2.trans hle3), rfl, by rw [← hb8]; cases b8 <;> simp, hs.out⟩
theorem pw_adj {bs : List Int} (h : ∀ j < bs.length, 0 < j → gi bs (j - 1) < gi bs j) : bs.Pairwise (· < ·) := by
  have key : ∀ j i, i < j → j < bs.length → gi bs i < gi bs j := by
    intro j
    induction j with
    | zero => intro i hi; omega
    | succ j ih =>
      intro i hi hj
      have h1 := h (j + 1) hj (by omega)
      rw [Nat.add_sub_cancel] at h1
      by_cases e : i = j
      · subst e; exact h1
      · have := ih i (by omega) (by omega); omega
  rw [List.pairwise_iff_getElem]
  intro i j hi hj hij
  have h1 := key j i hij hj
  have e1 : gi bs i = bs[i] := by have := gi_get hi; rw [List.getElem?_eq_getElem hi] at this; exact (Option.some.inj this).symm
  have e2 : gi bs j = bs[j] := by have := gi_get hj; rw [List.getElem?_eq_getElem hj] at this; exact (Option.some.inj this).symm
  rw [e1, e2] at h1
  exact h1
set_option maxHeartbeats 2000000 in
theorem bound_CheckConflict_spec {H : Heap} {w : World} {σ : List Ent} {v vb : Value} {s : Syst} {bs : List Int} (hs : St H w σ) (hr : RSy H v s) (hb : RI H vb bs) :
    Cl Tryz.prog 49 [v, vb] w fun u w' => ∃ H1 e, HLe H H1 ∧ u = I e ∧ CConfR s bs e ∧ St H1 w' σ := by
  obtain ⟨ul, rfl, hl⟩ := hr
  obtain ⟨al, cl, rfl⟩ := RL.shape hl
  obtain ⟨ab, cb, rfl⟩ := RI.shape hb
  have hbl := (RI.len hb).2.2
  refine Cl.of Tryz.func49 rfl Tryz.ntmps49 (by simp) (args_cons (k := 0) rfl (args_cons (k := 1) rfl (args0))) ?_
  refine .regSeq ?_
  refine .o (.box hs rfl rfl ?_); intro b2 w hs
  refine .o (.box hs rfl rfl ?_); intro b3 w hs
  refine .z zg (.nil (.seq (.regSeq (.y hs (zls [_, _] Tryz.isAgg24 Tryz.sizeOf24) ?_))))
  refine .o (.call Tryz.call113 rfl (bound_Check_spec (s := s) hs ⟨_, rfl, hl⟩) ?_); rintro _ w ⟨rfl, hs⟩
  refine .z zg (.nil (.regSeq (.z zm (.z zneq (.nil ?_)))))
  refine (.condN rfl (fun hc13 => ?_) (fun hc13 => ?_))
  · refine .regSeq (.z zm (.z zg (.nil ?_)))
    refine .ret (rT (Fin.ret1 Tryz.results49 rfl ?_))
    exact ⟨H, _, HLe.refl H, rfl, .bad hc13, hs.out⟩
  · refine .skip ?_
    refine nT ?_
    refine .regSeq (.y hs (zls [_, _] Tryz.isAgg24 Tryz.sizeOf24) ?_)
    have hok : s.Ok := s.ok_iff.1 (by simpa using hc13)
    have hll := hok.len
    refine .o (.call Tryz.call107 rfl (bound_Sources_spec (s := s) hs ⟨_, rfl, hl⟩ (by omega)) ?_); rintro v16 w ⟨L, en, hO, hLl, hRise, hs⟩
    obtain ⟨H1, hle1, rL, hs⟩ := OwnS.publishI hO (by omega) hs .here
    obtain ⟨aL, cL, rfl⟩ := RI.shape rL
    refine .z zg (.nil (.seq (.regSeq (.y hs (zld Tryz.isAgg25) (.z (zlen Tryz.runUnderlying25) (.z zm (.nil ?_)))))))
    refine .for (N := bs.length) (J := fun k fr w => fr = [(17, .slice ab bs.length cb), (6, .slice aL L.length cL), (3, .pointer (some ⟨b3, 0, none⟩)), (2, .pointer (some ⟨b2, 0, none⟩))] ∧ (∀ j < k, SrcS s.lims (gi bs j) ∧ (0 < j → gi bs (j - 1) < gi bs j)) ∧ St H1 w (.blk b3 [.slice ab bs.length cb] :: .blk b2 [I s.many, .slice al s.lims.length cl] :: σ)) (by omega) ?_ ?_ ?_
    · exact .mk ⟨rfl, fun j hj => by omega, hs⟩
    · rintro k fr w hk ⟨rfl, hno, hs⟩
      have hx := gi_get hk
      refine .block (.regSeq (.z zm ?_))
      refine .ixY hs (hb.mono hle1) rfl rfl Tryz.runUnderlying25 Tryz.sizeOf3 hx rfl ?_; intro b22 o22 hc22
      refine .q hs (q_loadR rfl Tryz.isAgg3 hc22) ?_
      refine .z zg (.z zg (.nil (.regSeq (.z zm (.z zm ?_)))))
      refine .o (.call Tryz.call127 rfl (slices_Contains_int hs rL) ?_); rintro _ w ⟨rfl, hs⟩
      refine .z znot (.z zm ?_)
      refine .bif (t' := 28) rfl (fun hb28 => ?_) (fun hb28 => ?_)
      · refine .gFs 3 4 false rfl rfl rfl ?_
        refine .gFs 7 7 true rfl rfl rfl ?_
        refine .gFs 1 4 false rfl rfl rfl ?_
        refine .z zpT (.nil ?_)
        refine (.condT rfl rfl ?_)
        refine .regSeq (.z zg (.nil ?_))
        refine .ret (rB (rT (rB (rT (Fin.ret1 Tryz.results49 rfl ?_)))))
        exact ⟨H1, _, hle1, rfl, .no hok (fun h => by
          have := (hRise.mem _).2 (h.src _ (List.mem_of_getElem? hx))
          simp [this] at hb28), hs.out⟩
      · refine .gT rfl rfl ?_
        refine .z zm ?_
        refine .gT rfl rfl ?_
        refine .z zgtr ?_
        refine .gT rfl rfl ?_
        refine .z zm ?_
        refine .bifD (t' := 31) rfl (fun hb31 => ?_) (fun hb31 => ?_)
        · refine .gT rfl rfl ?_
          refine .y hs (zld Tryz.isAgg25) ?_
          refine .gT rfl rfl ?_
          refine .z zm ?_
          refine .gT rfl rfl ?_
          refine .z zsub ?_
          refine .gT rfl rfl ?_
          refine .ixY hs (hb.mono hle1) rfl rfl Tryz.runUnderlying25 Tryz.sizeOf3 (gi_get (l := bs) (i := k - 1) (by omega)) (by omega) ?_; intro b35 o35 hc35
          refine .gT rfl rfl ?_
          refine .q hs (q_loadR rfl Tryz.isAgg3 hc35) ?_
          refine .gT rfl rfl ?_
          refine .z zm ?_
          refine .gT rfl rfl ?_
          refine .z zgeq ?_
          refine .gT rfl rfl ?_
          refine .z zpT (.z zpF (.nil ?_))
          refine (.condD rfl (fun hc40 => ?_) (fun hc40 => ?_))
          · refine .regSeq (.z zg (.nil ?_))
            refine .ret (rB (rT (rB (rT (Fin.ret1 Tryz.results49 rfl ?_)))))
            exact ⟨H1, _, hle1, rfl, .no hok (fun h => by
              have := rise_gi (S := fun x => x ∈ bs) ⟨h.up, fun _ => Iff.rfl⟩ (i := k - 1) (j := k) (by omega) hk
              omega), hs.out⟩
          · refine .skip ?_
            refine nB (nT ?_)
            have hm : gi bs k ∈ L := by simpa using hb28
            exact .mk ⟨rfl, fun j hj => by
              by_cases e : j = k
              · subst e; exact ⟨(hRise.mem _).1 hm, fun h0 => by omega⟩
              · exact hno j (by omega), hs⟩
        · refine .gFs 7 7 true rfl rfl rfl ?_
          refine .gT rfl rfl ?_
          refine .z zpF (.z zpF (.nil ?_))
          refine (.condF rfl rfl ?_)
          refine .skip ?_
          refine nB (nT ?_)
          have hm : gi bs k ∈ L := by simpa using hb28
          exact .mk ⟨rfl, fun j hj => by
            by_cases e : j = k
            · subst e; exact ⟨(hRise.mem _).1 hm, fun h0 => by omega⟩
            · exact hno j (by omega), hs⟩
    · rintro fr w ⟨rfl, hno, hs⟩
      have hup : bs.Pairwise (· < ·) := pw_adj fun j hj h0 => (hno j hj).2 h0
      have hsrc : ∀ x ∈ bs, SrcS s.lims x := fun x hx => by
        obtain ⟨j, hj⟩ := List.getElem?_of_mem hx
        have hjl := (List.getElem?_eq_some_iff.1 hj).1
        have := gi_get hjl
        rw [hj] at this
        rw [Option.some.inj this]
        exact (hno j hjl).1
      refine nT ?_
      refine .regSeq (.y hs (zls [_, _] Tryz.isAgg24 Tryz.sizeOf24) ?_)
      refine .q hs (q_makeFunc (f := []) (c := [_]) rfl rfl) ?_
      obtain ⟨H2, hle2, r3, hs⟩ := hs.publish (b := b3) (by repeat constructor)
      have hle02 := hle1.trans hle2
      refine .o (.call Tryz.call121 rfl (bound_only_spec (g := 128) (cap := [.pointer (some ⟨b3, 0, none⟩)]) (s := s) (fun _ l => decide (l.S ∈ bs)) hs ⟨_, rfl, hl.mono hle02⟩ (by omega) Tryz.call128 (fun w σ k l _ hs => bound_CheckConflict_1 hs r3 (hb.mono hle02))) ?_); rintro _ w ⟨H3, hle3, ⟨u44, rfl, hL44⟩, hs⟩
      rw [pickTo_all] at hL44
      obtain ⟨a44, c44, rfl⟩ := RL.shape hL44
      replace hL44 : RL H3 _ (s.only bs).lims := hL44
      have hle03 := hle02.trans hle3
      refine .o (.alloc hs Tryz.zeroValue24 rfl ?_); intro b9 w hs
      refine .o (.stores (vs := [_, _]) hs rfl rfl Tryz.sizeOf24 ?_); intro w hs
      refine .nil (.seq (.regSeq (.y hs (zls [_, _] Tryz.isAgg24 Tryz.sizeOf24) ?_)))
      refine .o (.call Tryz.call114 rfl (bound_isSound_spec (s := s.only bs) hs (hok.only bs) ⟨_, rfl, hL44⟩) ?_); rintro _ w ⟨H4, b46, hle4, rfl, hq46, hs⟩
      have hle04 := hle03.trans hle4
      have c3 := (r3.mono (hle3.trans hle4)).at 0
      refine .z zm ?_
      refine .bif (t' := 47) rfl (fun hb47 => ?_) (fun hb47 => ?_)
      · refine .gFs 3 2 false rfl rfl rfl ?_
        refine .z zpT (.nil ?_)
        refine (.condT rfl rfl ?_)
        refine .regSeq (.z zg (.nil ?_))
        refine .ret (rT (Fin.ret1 Tryz.results49 rfl ?_))
        exact ⟨H4, _, hle04, rfl, .no hok (fun h => h.bad (hq46.1 hb47)), hs.out⟩
      · refine .gT rfl rfl ?_
        refine .q hs (q_loadR rfl Tryz.isAgg25 c3) ?_
        refine .gT rfl rfl ?_
        refine .q hs (q_makeFunc (f := []) (c := [_]) rfl rfl) ?_
        refine .gT rfl rfl ?_
        obtain ⟨H5, hle5, r9, hs⟩ := hs.publish (b := b9) (by repeat constructor)
        have hle05 := hle04.trans hle5
        refine .o (.call Tryz.call129 rfl (slices_ContainsFunc_known (g := 130) (cap := [.pointer (some ⟨b9, 0, none⟩)]) (fun n => ¬ ((s.only bs).wo [n]).Sound) hs (hb.mono hle05) Tryz.call130 (fun H' w σ n _ hle hs => bound_CheckConflict_2 (s := s.only bs) hs (r9.mono hle) (hL44.mono ((hle4.trans hle5).trans hle)) (hok.only bs))) ?_); rintro _ w ⟨H6, b50, hle6, rfl, hq50, hs⟩
        have hle06 := hle05.trans hle6
        refine .z zpF (.nil ?_)
        refine (.cond rfl (fun hc51 => ?_) (fun hc51 => ?_))
        · refine .regSeq (.z zg (.nil ?_))
          refine .ret (rT (Fin.ret1 Tryz.results49 rfl ?_))
          exact ⟨H6, _, hle06, rfl, .no hok (fun h => by
            obtain ⟨x, hx, hn⟩ := hq50.1 hc51
            exact hn (h.least x hx)), hs.out⟩
        · refine .skip ?_
          refine nT ?_
          refine .regSeq (.z zg (.nil ?_))
          refine .ret (Fin.ret1 Tryz.results49 rfl ?_)
          exact ⟨H6, _, hle06, rfl, .ok hok ⟨hsrc, hup, fun h => by simp [hq46.2 h] at hb47, fun x hx => Classical.byContradiction fun hn => by simp [hq50.2 ⟨x, hx, hn⟩] at hc51⟩, hs.out⟩
theorem EqualFunc_rows {H : Heap} {w : World} {σ : List Ent} {v1 v2 : Value} {as_ bs : List (List Int)} (hs : St H w σ) (h1 : RT H v1 as_) (h2 : RT H v2 bs) :
    Cl Tryz.prog 123 [v1, v2, .func (.func 91) #[] #[]] w fun u w' => u = .bool (decide (as_ = bs)) ∧ St H w' σ := by
  obtain ⟨a1, c1, rfl⟩ := h1.shape
  obtain ⟨a2, c2, rfl⟩ := h2.shape
  have hl1 := h1.len.2.2
  refine Cl.of Tryz.func123 rfl Tryz.ntmps123 (by simp) (args_cons (k := 0) rfl (args_cons (k := 1) rfl (args_cons (k := 2) rfl (args0)))) ?_
  refine .regSeq (.z zg (.nil (.seq (.regSeq (.z zm (.z (zlen Tryz.runUnderlying29) (.z zm (.z (zlen Tryz.runUnderlying29) (.z zneq ?_)))))))))
  refine .nil ?_
  refine (.condN rfl (fun hc14 => ?_) (fun hc14 => ?_))
  · refine .regSeq (.z zg (.nil ?_))
    refine .ret (rT (Fin.ret1 Tryz.results123 rfl ?_))
    exact ⟨by rw [decide_eq_false (fun h => hc14 (by rw [h]))], hs⟩
  · refine .skip ?_
    refine nT ?_
    refine .seq (.regSeq (.z zm (.z (zlen Tryz.runUnderlying29) (.z zm (.nil ?_)))))
    refine .for (N := as_.length) (J := fun k fr w => fr = [(15, .slice a1 as_.length c1), (1, .slice a2 bs.length c2), (2, .func (.func 91) #[] #[])] ∧ (∀ j < k, as_[j]? = bs[j]?) ∧ St H w σ) (by omega) ?_ ?_ ?_
    · exact .mk ⟨rfl, fun j hj => by omega, hs⟩
    · rintro k fr w hk ⟨rfl, h0, hs⟩
      have g1 := gr_get (rs := as_) (i := k) hk
      have g2 := gr_get (rs := bs) (i := k) (by omega)
      refine .block (.regSeq (.z zm ?_))
      refine .ixT hs h1 rfl rfl Tryz.runUnderlying29 Tryz.sizeOf25 (show k < _ by omega) (by first | rfl | assumption | omega) ?_; intro b20 o20 a20 c20 hc20 hR20
      refine .q hs (q_loadR rfl Tryz.isAgg25 hc20) ?_
      refine .z zg (.z zg (.nil (.regSeq (.z zm (.z zm ?_)))))
      refine .ixT hs h2 rfl rfl Tryz.runUnderlying29 Tryz.sizeOf25 (show k < _ by omega) (by first | rfl | assumption | omega) ?_; intro b24 o24 a24 c24 hc24 hR24
      refine .q hs (q_loadR rfl Tryz.isAgg25 hc24) ?_
      refine .z zg (.nil (.regSeq (.z zm (.z zm (.z zm ?_)))))
      refine .o (.callG (first := []) (cap := []) rfl rfl Tryz.call91 (slices_Equal_int hs hR20 hR24) ?_); rintro _ w ⟨rfl, hs⟩
      refine .z znot (.nil ?_)
      refine (.cond rfl (fun hc30 => ?_) (fun hc30 => ?_))
      · refine .regSeq (.z zg (.nil ?_))
        refine .ret (rB (rT (rB (rT (Fin.ret1 Tryz.results123 rfl ?_)))))
        exact ⟨by rw [decide_eq_false (fun h => by
          subst h
          have h7 := hc30
          rw [g1] at g2
          simp at h7)], hs⟩
      · refine .skip ?_
        refine nB (nT ?_)
        exact .mk ⟨rfl, fun j hj => by
          by_cases e : j = k
          · subst e; rw [g1, g2, show gr as_ j = gr bs j by simpa using hc30]
          · exact h0 j (by omega), hs⟩
    · rintro fr w ⟨rfl, h0, hs⟩
      refine nT ?_
      refine .regSeq (.z zg (.nil ?_))
      refine .ret (Fin.ret1 Tryz.results123 rfl ?_)
      exact ⟨by rw [decide_eq_true (List.ext_getElem? fun j => by
        by_cases e : j < as_.length
        · exact h0 j e
        · rw [List.getElem?_eq_none (by omega), List.getElem?_eq_none (by omega)])], hs⟩
theorem bound_Idle_1 {H : Heap} {w : World} {σ : List Ent} {n m : Int} {l : Lim} {b : Nat} (hs : St H w σ) (hb : Row H b [I m]) :
    Cl Tryz.prog 122 [I n, .agg l.c.toArray, .pointer (some ⟨b, 0, none⟩)] w fun u w' => u = .bool (!decide (n = m)) ∧ St H w' σ := by
  have hb0 : cellAt H b 0 = some (I m) := hb.at 0
  refine Cl.of Tryz.func122 rfl Tryz.ntmps122 (by simp) (args_cons (k := 0) rfl (args_cons (k := 1) rfl (args_cons (k := 2) rfl (args0)))) ?_
  refine .regSeq ?_
  refine .o (.box hs rfl rfl ?_); intro b4 w hs
  refine .z zg (.nil (.regSeq (.z zm (.y hs (zld Tryz.isAgg3) (.z zneq (.z zg (.nil ?_)))))))
  refine .ret (Fin.ret1 Tryz.results122 rfl ?_)
  exact ⟨rfl, hs.out⟩
set_option maxHeartbeats 2000000 in
theorem bound_Idle_spec {H : Heap} {w : World} {σ : List Ent} {v : Value} {s : Syst} (hs : St H w σ) (hr : RSy H v s) :
    Cl Tryz.prog 47 [v] w fun u w' => ∃ H1 vx L e, HLe H H1 ∧ u = .tuple #[vx, I e] ∧ RI H1 vx L ∧ IdleR s L e ∧ St H1 w' σ := by
  obtain ⟨ul, rfl, hl⟩ := hr
  obtain ⟨al, cl, rfl⟩ := RL.shape hl
  refine Cl.of Tryz.func47 rfl Tryz.ntmps47 (by simp) (args_cons (k := 0) rfl (args0)) ?_
  refine .regSeq ?_
  refine .o (.box hs rfl rfl ?_); intro b1 w hs
  refine .z zg (.z zg (.nil (.seq (.regSeq (.y hs (zls [_, _] Tryz.isAgg24 Tryz.sizeOf24) ?_)))))
  refine .o (.call Tryz.call119 rfl (bound_ready_spec (s := s) hs ⟨_, rfl, hl⟩) ?_); rintro _ w ⟨H1, e, hle1, rfl, hRd, hs⟩
  refine .z zg (.nil (.regSeq (.z zm (.z zneq (.nil ?_)))))
  refine (.condN rfl (fun hc12 => ?_) (fun hc12 => ?_))
  · refine .regSeq (.z zm (.z zg (.z zg (.nil ?_))))
    refine .ret (rT (Fin.ret2 Tryz.results47 rfl rfl ?_))
    have hI : IdleR s [] e := by
      cases hRd with
      | bad h => exact .bad h
      | clash h h1 => exact .clash h h1
      | ok => exact (hc12 rfl).elim
    exact ⟨H1, _, [], _, hle1, rfl, RS.nil H1 1 none 0, hI, hs.out⟩
  · refine .skip ?_
    refine nT ?_
    refine .regSeq (.y hs (zls [_, _] Tryz.isAgg24 Tryz.sizeOf24) ?_)
    obtain ⟨hok, hsd⟩ : s.Ok ∧ s.Sound := by
      subst hc12
      generalize hz : (0 : Int) = z at hRd
      cases hRd with
      | bad h => exact (h hz.symm).elim
      | clash => omega
      | ok h h1 => exact ⟨h, h1⟩
    have hll := hok.len
    refine .o (.call Tryz.call120 rfl (bound_matrix_spec (s := s) hs ⟨_, rfl, hl.mono hle1⟩ hok hsd) ?_); rintro v15 w ⟨H2, rs, hle2, hT15, hsq, hW, hs⟩
    obtain ⟨a15, c15, rfl⟩ := hT15.shape
    have hle02 := hle1.trans hle2
    refine .z zg (.nil (.regSeq (.z zg (.nil (.seq (.regSeq (.z (zfa fa_api_System_1) (.y hs (zld Tryz.isAgg22) (.z (zlen Tryz.runUnderlying22) ?_)))))))))
    refine .z zm (.nil ?_)
    refine .for (N := s.lims.length) (J := fun k fr w => ∃ vo en H3 L, fr = [(6, vo), (5, .slice a15 rs.length c15), (1, .pointer (some ⟨b1, 0, none⟩))] ∧ HLe H2 H3 ∧ OwnS 1 vo (Is L) en ∧ L.length ≤ k ∧ RiseOf (fun x => ∃ i : Nat, x = i ∧ i < k ∧ IdleP s i) L ∧ St H3 w (en :: .blk b1 [I s.many, .slice al s.lims.length cl] :: σ)) (by omega) ?_ ?_ ?_
    · exact .mk ⟨_, .nul, H2, [], rfl, HLe.refl _, .nil 1 none, by simp, .nil (fun x ⟨i, _, h, _⟩ => by omega), hs.nul⟩
    · rintro k fr w hk ⟨vo, en, H3, L, rfl, hle3, hO, hLk, hRise, hs⟩
      obtain ⟨ao, lo, co, rfl, hlo⟩ := hO.shape
      obtain ⟨p0, hp0⟩ := hsd
      refine .block (.regSeq (.z zm ?_))
      refine .o (.alloc hs Tryz.zeroValue3 rfl ?_); intro b7 w hs
      refine .o (.store hs rfl rfl Tryz.sizeOf3 ?_); intro w hs
      refine .nil (.regSeq (.y hs (zls [_, _] Tryz.isAgg24 Tryz.sizeOf24) ?_))
      refine .q hs (q_makeFunc (f := []) (c := [_]) rfl rfl) ?_
      obtain ⟨H4, hle4, r7, hs⟩ := hs.publish (b := b7) (by repeat constructor)
      have hle04 := hle02.trans (hle3.trans hle4)
      have c7 := r7.at 0
      refine .o (.call Tryz.call121 rfl (bound_only_spec (g := 122) (cap := [.pointer (some ⟨b7, 0, none⟩)]) (s := s) (fun j _ => !decide (j = k)) hs ⟨_, rfl, hl.mono hle04⟩ (by omega) Tryz.call122 (fun w σ j l _ hs => (bound_Idle_1 hs r7).mono fun u w' ⟨g1, g2⟩ => ⟨by rw [g1]; congr 2; rw [decide_eq_decide]; omega, g2⟩)) ?_); rintro v24 w ⟨H5, hle5, hS24, hs⟩
      rw [pickTo_butS hk] at hS24
      replace hS24 : RSy H5 v24 (s.but k) := hS24
      have hsb : (s.but k).Sound := sound_sub ⟨p0, hp0⟩ fun l hl => but_mem hl
      refine .o (.call Tryz.call120 rfl (bound_matrix_spec (s := s.but k) hs hS24 (hok.but k) hsb) ?_); rintro v25 w ⟨H6, rs6, hle6, hT25, hsq6, hW6, hs⟩
      obtain ⟨a25, c25, rfl⟩ := hT25.shape
      have hle26 := hle3.trans (hle4.trans (hle5.trans hle6))
      have hid := idle_iff (i := k) hok ⟨p0, hp0⟩ hsq hsq6 hW hW6
      have c7' : cellAt H6 b7 0 = some (I k) := cellAt.mono c7 (hle5.trans hle6)
      refine .z zg (.nil (.regSeq (.z zm (.z zm ?_))))
      refine .o (.call Tryz.call123 rfl (EqualFunc_rows hs (hT15.mono hle26) hT25) ?_); rintro _ w ⟨rfl, hs⟩
      refine .nil ?_
      refine (.cond rfl (fun hc28 => ?_) (fun hc28 => ?_))
      · refine .region (.z zm ?_)
        refine .q hs (q_loadR rfl Tryz.isAgg3 c7') ?_
        refine .o (.buildSlice (cells := [_]) hs bls_sl_int_1 rfl rfl ?_); intro b31 w hs
        refine .o (.append (ys := Is [(k : Int)]) hs app_sl_int_int rfl rfl hO (.own .here rfl rfl) (Is_cell _) (fun l' h => by simp at h; omega) ?_); intro v32 en32 w hO2 hs
        rw [show Is L ++ Is [(k : Int)] = Is (L ++ [(k : Int)]) by simp [Is]] at hO2
        refine .z zg (.nil ?_)
        refine nB (nT ?_)
        have hidk : IdleP s k := hid.1 (by simpa using hc28)
        exact .mk ⟨_, _, H6, L ++ [(k : Int)], rfl, hle26, hO2, by simp; omega, ⟨List.pairwise_append.2 ⟨hRise.up, by simp, fun x hx y hy => by
            simp at hy; subst hy
            obtain ⟨i, rfl, h2, _⟩ := (hRise.mem x).1 hx
            omega⟩, fun x => by
            simp only [List.mem_append, List.mem_singleton, hRise.mem]
            constructor
            · rintro (⟨i, h1, h2, h3⟩ | rfl)
              · exact ⟨i, h1, by omega, h3⟩
              · exact ⟨k, rfl, by omega, hidk⟩
            · rintro ⟨i, h1, h2, h3⟩
              by_cases e : i = k
              · subst e; exact .inr h1
              · exact .inl ⟨i, h1, by omega, h3⟩⟩, hs.sub (by repeat (first | exact Sub.refl _ | constructor | apply Sub.weaken))⟩
      · refine .skip ?_
        refine nB (nT ?_)
        have hidk : ¬ IdleP s k := fun h => by simp [hid.2 h] at hc28
        exact .mk ⟨_, _, H6, L, rfl, hle26, hO, by omega, hRise.congr fun x => by
            constructor
            · rintro ⟨i, h1, h2, h3⟩; exact ⟨i, h1, by omega, h3⟩
            · rintro ⟨i, h1, h2, h3⟩
              exact ⟨i, h1, by
                by_cases e : i = k
                · subst e; exact (hidk h3).elim
                · omega, h3⟩, hs.sub (by repeat (first | exact Sub.refl _ | constructor | apply Sub.weaken))⟩
    · rintro fr w ⟨vo, en, H3, L, rfl, hle3, hO, hLk, hRise, hs⟩
      obtain ⟨ao, lo, co, rfl, hlo⟩ := hO.shape
      refine nT ?_
      refine .regSeq (.z zm (.z zg (.z zg (.nil ?_))))
      refine .ret (Fin.ret2 Tryz.results47 rfl rfl ?_)
      obtain ⟨H4, hle4, hR4, hs⟩ := OwnS.publishI hO (by omega) hs .here
      exact ⟨H4, _, L, 0, hle02.trans (hle3.trans hle4), rfl, hR4, .ok hok hsd hRise, hs.out⟩
end Go.Proofs.YtiiokdeehlfeeaaGreat

namespace Go.Proofs.YtiiokdeehlfeeaaGreat
open Go.MW
theorem RI.one {H : Heap} {a : Option Addr} {len cap k : Nat} {xs : List Int} (h : RI H (.slice a len cap) xs) (hk : k < len) : RI H (.slice (if cap = k then a else a.map (·.add (k * 1))) (k + 1 - k) (cap - k)) [gi xs k] := by
  have hl := (RI.len h).1
  have h1 := RS.part h (lo := k) (hi := k + 1) (by omega) (by omega)
  have e : (((xs.map fun x => [I x]).take (k + 1)).drop k) = [gi xs k].map fun x => [I x] := by
    rw [← List.map_take, ← List.map_drop]
    congr 1
    have hx := gi_get (l := xs) (i := k) (by omega)
    rw [take_snoc hx]
    exact List.drop_left' (by rw [List.length_take]; omega)
  rw [e] at h1
  exact h1
end Go.Proofs.YtiiokdeehlfeeaaGreat

namespace Go.Proofs.YtiiokdeehlfeeaaGreat
open Go.MW
theorem ref02_open_spec {H : Heap} {w : World} {σ : List Ent} {v : Value} {s : Syst} (hs : St H w σ) (hr : RSy H v s) (hok : s.Ok) :
    Cl Tryz.prog 118 [v] w fun u w' => ∃ H1 b, HLe H H1 ∧ u = .bool b ∧ (b = true ↔ ¬ s.Sound) ∧ St H1 w' σ := by
  obtain ⟨ul, rfl, hl⟩ := hr
  obtain ⟨al, cl, rfl⟩ := RL.shape hl
  have hm1 := hok.m1
  refine Cl.of Tryz.func118 rfl Tryz.ntmps118 (by simp) (args_cons (k := 0) rfl (args0)) ?_
  refine .regSeq ?_
  refine .o (.box hs rfl rfl ?_); intro b1 w hs
  refine .z zg (.nil (.regSeq (.y hs (zls [_, _] Tryz.isAgg24 Tryz.sizeOf24) ?_)))
  refine .o (.call Tryz.call126 rfl (ref02_Ways_spec (s := s) hs ⟨_, rfl, hl⟩ hok) ?_); rintro v4 w ⟨H1, rs, hle1, hRT, hSq, hWT, hs⟩
  refine .o (.call Tryz.call154 rfl (ref02_Sound_spec hs hRT hSq (by simp only [Syst.n]; omega)) ?_); rintro _ w ⟨b, rfl, hb, hs⟩
  have hbs := hb.trans (sound_diag hok hWT).symm
  refine .z znot (.z zg (.nil ?_))
  refine .ret (Fin.ret1 Tryz.results118 rfl ?_)
  exact ⟨H1, _, hle1, rfl, by rw [← hbs]; cases b <;> simp, hs.out⟩
theorem ref02_only_spec {H : Heap} {w : World} {σ : List Ent} {v vb : Value} {s : Syst} {bs : List Int} (hs : St H w σ) (hr : RSy H v s) (hb : RI H vb bs) (hlen : s.lims.length ≤ 4398046510976) :
    Cl Tryz.prog 132 [v, vb] w fun u w' => ∃ H1, HLe H H1 ∧ RSy H1 u (s.only bs) ∧ St H1 w' σ := by
  obtain ⟨ul, rfl, hl⟩ := hr
  obtain ⟨al, cl, rfl⟩ := RL.shape hl
  obtain ⟨ab, cb, rfl⟩ := RI.shape hb
  refine Cl.of Tryz.func132 rfl Tryz.ntmps132 (by simp) (args_cons (k := 0) rfl (args_cons (k := 1) rfl (args0))) ?_
  refine .regSeq ?_
  refine .o (.box hs rfl rfl ?_); intro b2 w hs
  refine .o (.alloc hs Tryz.zeroValue24 rfl ?_); intro b4 w hs
  refine .nil (.regSeq (.z (zfa fa_api_System_0) (.y hs (zld Tryz.isAgg3) (.z (zbd [_, _] bld_api_System) ?_))))
  refine .o (.alloc hs Tryz.zeroValue24 rfl ?_); intro b5 w hs
  refine .o (.stores (vs := [_, _]) hs rfl rfl Tryz.sizeOf24 ?_); intro w hs
  refine .nil (.seq (.regSeq (.z (zfa fa_api_System_1) (.y hs (zld Tryz.isAgg22) (.z (zlen Tryz.runUnderlying22) (.z zm (.nil ?_)))))))
  refine .for (N := s.lims.length) (J := fun k fr w => fr = [(12, .slice al s.lims.length cl), (1, .slice ab bs.length cb), (5, .pointer (some ⟨b5, 0, none⟩)), (4, .pointer (some ⟨b4, 0, none⟩))] ∧ ∃ vL en, OwnS 4 vL (Lims (pickTo (fun _ l => decide (l.S ∈ bs)) s.lims k)) en ∧ St H w (.blk b5 [I s.many, vL] :: .blk b4 [I 0, .slice none 0 0] :: en :: σ)) (by omega) ?_ ?_ ?_
  · exact .mk ⟨rfl, _, _, .nil 4 none, hs.nul.sub (by repeat (first | exact Sub.refl _ | constructor | apply Sub.weaken))⟩
  · rintro k fr w hk ⟨rfl, vL, en, hO, hs⟩
    obtain ⟨x, hx⟩ := nth (l := s.lims) hk
    obtain ⟨aL, lL, cL, rfl, hL⟩ := hO.shape
    have hpl := pickTo_length (fun _ l => decide (l.S ∈ bs)) s.lims k
    refine .block (.regSeq ?_)
    refine .ixX (enc := Lim.c) hs hl rfl rfl Tryz.runUnderlying22 Tryz.sizeOf157 hx (by first | rfl | assumption | omega) ?_; intro b16 o16 hc16
    refine .q hs (q_loadsR (vs := (Lim.c x)) rfl Tryz.isAgg157 Tryz.sizeOf157 hc16) ?_
    refine .o (.alloc hs Tryz.zeroValue157 rfl ?_); intro b7 w hs
    refine .o (.stores (vs := x.c) hs rfl rfl Tryz.sizeOf157 ?_); intro w hs
    refine .nil (.regSeq (.z zm (.z (zfa fa_api_Limit_3) (.y hs (zld Tryz.isAgg3) ?_))))
    refine .o (.call Tryz.call131 rfl (ref02_Has_spec hs hb) ?_); rintro _ w ⟨rfl, hs⟩
    refine .nil ?_
    refine (.cond rfl (fun hc21 => ?_) (fun hc21 => ?_))
    · refine .region (.z (zfa fa_api_System_1) (.y hs (zld Tryz.isAgg22) (.y hs (zls [_, _, _, _] Tryz.isAgg157 Tryz.sizeOf157) ?_)))
      refine .o (.buildSlice (cells := x.c) hs bls_sl_api_Limit_1 rfl rfl ?_); intro b25 w hs
      refine .o (.append (ys := x.c) hs app_sl_api_Limit_api_Limit rfl rfl hO (.own .here rfl rfl) (by simp [Lim.c, Value.oneCell']) (fun l h => by rw [Lims_length] at h; omega) ?_); intro v26 en26 w hO2 hs
      obtain ⟨a26, l26, c26, rfl, h26⟩ := hO2.shape
      refine .z (zfa fa_api_System_1) ?_
      refine .o (.store hs rfl rfl Tryz.sizeOf22 ?_); intro w hs
      refine .nil ?_
      refine nB (nT ?_)
      have e : pickTo (fun _ l => decide (l.S ∈ bs)) s.lims (k + 1) = pickTo (fun _ l => decide (l.S ∈ bs)) s.lims k ++ [x] := by rw [pickTo_succ hx, if_pos hc21]
      rw [← Lims_one, ← Lims_append, ← e] at hO2
      exact .mk ⟨rfl, _, _, hO2, hs.sub (by repeat (first | exact Sub.refl _ | constructor | apply Sub.weaken))⟩
    · refine .skip ?_
      refine nB (nT ?_)
      have e : pickTo (fun _ l => decide (l.S ∈ bs)) s.lims (k + 1) = pickTo (fun _ l => decide (l.S ∈ bs)) s.lims k := by rw [pickTo_succ hx, hc21]; simp
      exact .mk ⟨rfl, _, _, by rw [e]; exact hO, hs.sub (by repeat (first | exact Sub.refl _ | constructor | apply Sub.weaken))⟩
  · rintro fr w ⟨rfl, vL, en, hO, hs⟩
    obtain ⟨aL, lL, cL, rfl, hL⟩ := hO.shape
    rw [pickTo_all] at hO
    have hpl : (s.only bs).lims.length ≤ s.lims.length := List.length_filter_le _ _
    refine nT ?_
    refine .regSeq (.y hs (zls [_, _] Tryz.isAgg24 Tryz.sizeOf24) ?_)
    refine .o (.stores (vs := [_, _]) hs rfl rfl Tryz.sizeOf24 ?_); intro w hs
    refine .nil ?_
    refine .ret ?_
    obtain ⟨H1, g1, r1, hs⟩ := OwnS.publish (m := 4) (cs := (s.only bs).lims.map Lim.c) hO (fun c hc => by simp only [List.mem_map] at hc; obtain ⟨x, _, rfl⟩ := hc; rfl) (by omega) (by rw [List.length_map]; omega) hs (by repeat constructor)
    exact Fin.retD [] [] hs fun w hs => ⟨_, results1 Tryz.results132 (rcells (vs := [_, _]) hs rfl Tryz.isAgg24 Tryz.sizeOf24), H1, g1, ⟨_, rfl, r1⟩, hs.out⟩
set_option maxHeartbeats 2000000 in
theorem ref02_Moves_spec {H : Heap} {w : World} {σ : List Ent} {v vw : Value} {s : Syst} {ws : List Int} (hs : St H w σ) (hr : RSy H v s) (hrw : RI H vw ws) :
    Cl Tryz.prog 44 [v, vw] w fun u w' => ∃ H1 vx L e, HLe H H1 ∧ u = .tuple #[vx, I e] ∧ RI H1 vx L ∧ MovesR s ws L e ∧ St H1 w' σ := by
  obtain ⟨ul, rfl, hl⟩ := hr
  obtain ⟨al, cl, rfl⟩ := RL.shape hl
  obtain ⟨aw, cw, rfl⟩ := RI.shape hrw
  refine Cl.of Tryz.func44 rfl Tryz.ntmps44 (by simp) (args_cons (k := 0) rfl (args_cons (k := 1) rfl (args0))) ?_
  refine .regSeq ?_
  refine .o (.box hs rfl rfl ?_); intro b2 w hs
  refine .z zg (.z zg (.nil (.regSeq (.y hs (zls [_, _] Tryz.isAgg24 Tryz.sizeOf24) (.z zm ?_)))))
  refine .o (.call Tryz.call75 rfl (ref02_Range_spec (s := s) hs ⟨_, rfl, hl⟩ hrw) ?_); rintro _ w ⟨H1, lo, hi, e, hle1, rfl, hR, hs⟩
  refine .z zm (.z zex (.z zex (.z zex (.z zg (.z zg (.z zg (.nil (.seq (.regSeq ?_)))))))))
  refine .z zm (.z zneq (.nil ?_))
  refine (.condN rfl (fun hc23 => ?_) (fun hc23 => ?_))
  · refine .regSeq (.z zm (.z zg (.z zg (.nil ?_))))
    refine .ret (rT (Fin.ret2 Tryz.results44 rfl rfl ?_))
    exact ⟨H1, _, [], _, hle1, rfl, RS.nil H1 1 none 0, .bad hR hc23, hs.out⟩
  · refine .skip ?_
    refine nT ?_
    refine .regSeq (.z zg (.nil (.seq (.regSeq (.y hs (zls [_, _] Tryz.isAgg24 Tryz.sizeOf24) ?_)))))
    obtain rfl : e = 0 := hc23
    have hA := hR.ask
    have hok := (askErr_ok hA).1
    have hll := hok.len
    refine .o (.call Tryz.call110 rfl (ref02_Sources_spec (s := s) hs ⟨_, rfl, hl.mono hle1⟩ (by omega)) ?_); rintro v26 w ⟨H2, L, hle2, rL, hLl, hRise, hs⟩
    obtain ⟨aL, cL, rfl⟩ := RI.shape rL
    have hle12 := hle1.trans hle2
    refine .z (zlen Tryz.runUnderlying25) (.z zm (.nil ?_))
    refine .for (N := L.length) (J := fun k fr w => ∃ vo en H3 A, fr = [(9, vo), (26, .slice aL L.length cL), (7, I hi), (6, I lo), (1, .slice aw ws.length cw), (2, .pointer (some ⟨b2, 0, none⟩))] ∧ HLe H2 H3 ∧ OwnS 1 vo (Is A) en ∧ A.length ≤ k ∧ RiseOf (fun x => (∃ j < k, gi L j = x) ∧ ¬ RangeR (s.wo [x]) ws lo hi 0) A ∧ St H3 w (en :: .blk b2 [I s.many, .slice al s.lims.length cl] :: σ)) (by omega) ?_ ?_ ?_
    · exact .mk ⟨_, .nul, H2, [], rfl, HLe.refl _, .nil 1 none, by simp, .nil (fun x ⟨⟨j, h, _⟩, _⟩ => by omega), hs.nul⟩
    · rintro k fr w hk ⟨vo, en, H3, A, rfl, hle3, hO, hAk, hAR, hs⟩
      obtain ⟨ao, lo', co, rfl, hlo⟩ := hO.shape
      have hle13 := hle12.trans hle3
      refine .block (.regSeq ?_)
      refine .ixY hs (rL.mono hle3) rfl rfl Tryz.runUnderlying25 Tryz.sizeOf3 (gi_get (l := L) (i := k) (by omega)) (by first | rfl | assumption | omega) ?_; intro b30 o30 hc30
      refine .q hs (q_loadR rfl Tryz.isAgg3 hc30) ?_
      refine .z zg (.nil (.regSeq (.y hs (zls [_, _] Tryz.isAgg24 Tryz.sizeOf24) (.z zm ?_))))
      refine .o (.buildSlice (cells := [_]) hs bls_sl_int_1 rfl rfl ?_); intro b35 w hs
      obtain ⟨H4, hle4, r35, hs⟩ := OwnS.publishI (xs := [gi L k]) (v := .slice (some ⟨b35, 0, none⟩) 1 1) (.full (len := 1) rfl) (by simp) hs (by repeat constructor)
      refine .o (.call Tryz.call112 rfl (ref02_Without_spec (s := s) hs ⟨_, rfl, hl.mono (hle13.trans hle4)⟩ r35 (by omega)) ?_); rintro _ w ⟨H5, hle5, hS36, hs⟩
      have hle15 := hle13.trans (hle4.trans hle5)
      refine .z zm ?_
      refine .o (.call Tryz.call111 rfl (ref02_ends_spec (s := s.wo [gi L k]) hs hS36 (hrw.mono hle15) (askErr_wo hA)) ?_); rintro _ w ⟨H6, a, b, i, hle6, rfl, hR2, hs⟩
      have htold : (a = lo ∧ b = hi ∧ i = 0) ↔ RangeR (s.wo [gi L k]) ws lo hi 0 := RangeR.told hR2
      have hle26 := hle3.trans (hle4.trans (hle5.trans hle6))
      have hgt : ∀ j < k, gi L j < gi L k := fun j hj => rise_gi hRise hj hk
      refine .z zm (.z zex (.z zex (.z zex (.z zg (.z zg (.z zg (.nil (.regSeq (.z zm ?_)))))))))
      refine .z zm (.z zneq (.z zm ?_))
      refine .bifN (t' := 45) rfl (fun hb45 => ?_) (fun hb45 => ?_)
      · refine .gFs 3 3 false rfl rfl rfl ?_
        refine .z zpT (.z zm ?_)
        refine .gFs 2 8 false rfl rfl rfl ?_
        refine .z zpT (.nil ?_)
        refine (.condT rfl rfl ?_)
        refine .region (.z zm (.z zm ?_))
        refine .o (.buildSlice (cells := [_]) hs bls_sl_int_1 rfl rfl ?_); intro b56 w hs
        refine .o (.append (ys := Is [gi L k]) hs app_sl_int_int rfl rfl hO (.own .here rfl rfl) (Is_cell _) (fun l' h => by simp at h; omega) ?_); intro v57 en57 w hO2 hs
        rw [show Is A ++ Is [gi L k] = Is (A ++ [gi L k]) by simp [Is]] at hO2
        refine .z zg (.nil ?_)
        refine nB (nT ?_)
        have hcase : RangeR (s.wo [gi L k]) ws lo hi 0 ∨ ¬ RangeR (s.wo [gi L k]) ws lo hi 0 := Classical.em _
        first
        | exact .mk ⟨_, _, H6, A ++ [gi L k], rfl, hle26, hO2, by simp; omega, (by
            have hn : ¬ RangeR (s.wo [gi L k]) ws lo hi 0 := by rw [← htold]; omega
            refine ⟨List.pairwise_append.2 ⟨hAR.up, by simp, fun x hx y hy => ?_⟩, fun x => ?_⟩
            · simp at hy; subst hy
              obtain ⟨⟨j, h1, rfl⟩, _⟩ := (hAR.mem x).1 hx
              exact hgt j h1
            · simp only [List.mem_append, List.mem_singleton, hAR.mem]
              constructor
              · rintro (⟨⟨j, h1, h2⟩, h3⟩ | rfl)
                · exact ⟨⟨j, by omega, h2⟩, h3⟩
                · exact ⟨⟨k, by omega, rfl⟩, hn⟩
              · rintro ⟨⟨j, h1, h2⟩, h3⟩
                by_cases e : j = k
                · subst e; exact .inr h2.symm
                · exact .inl ⟨⟨j, by omega, h2⟩, h3⟩), hs.sub (by repeat (first | exact Sub.refl _ | constructor | apply Sub.weaken))⟩
        | exact .mk ⟨_, _, H6, A, rfl, hle26, hO, by omega, (by
            have hn : RangeR (s.wo [gi L k]) ws lo hi 0 := by rw [← htold]; omega
            refine hAR.congr fun x => ?_
            constructor
            · rintro ⟨⟨j, h1, h2⟩, h3⟩; exact ⟨⟨j, by omega, h2⟩, h3⟩
            · rintro ⟨⟨j, h1, h2⟩, h3⟩
              by_cases e : j = k
              · subst e; subst h2; exact (h3 hn).elim
              · exact ⟨⟨j, by omega, h2⟩, h3⟩), hs.sub (by repeat (first | exact Sub.refl _ | constructor | apply Sub.weaken))⟩
      · refine .gT rfl rfl ?_
        refine .z zm ?_
        refine .gT rfl rfl ?_
        refine .z zm ?_
        refine .gT rfl rfl ?_
        refine .z zneq (.z zpF (.z zm ?_))
        refine .bifN (t' := 50) rfl (fun hb50 => ?_) (fun hb50 => ?_)
        · refine .gFs 2 8 false rfl rfl rfl ?_
          refine .z zpT (.nil ?_)
          refine (.condT rfl rfl ?_)
          refine .region (.z zm (.z zm ?_))
          refine .o (.buildSlice (cells := [_]) hs bls_sl_int_1 rfl rfl ?_); intro b56 w hs
          refine .o (.append (ys := Is [gi L k]) hs app_sl_int_int rfl rfl hO (.own .here rfl rfl) (Is_cell _) (fun l' h => by simp at h; omega) ?_); intro v57 en57 w hO2 hs
          rw [show Is A ++ Is [gi L k] = Is (A ++ [gi L k]) by simp [Is]] at hO2
          refine .z zg (.nil ?_)
          refine nB (nT ?_)
          have hcase : RangeR (s.wo [gi L k]) ws lo hi 0 ∨ ¬ RangeR (s.wo [gi L k]) ws lo hi 0 := Classical.em _
          first
          | exact .mk ⟨_, _, H6, A ++ [gi L k], rfl, hle26, hO2, by simp; omega, (by
              have hn : ¬ RangeR (s.wo [gi L k]) ws lo hi 0 := by rw [← htold]; omega
              refine ⟨List.pairwise_append.2 ⟨hAR.up, by simp, fun x hx y hy => ?_⟩, fun x => ?_⟩
              · simp at hy; subst hy
                obtain ⟨⟨j, h1, rfl⟩, _⟩ := (hAR.mem x).1 hx
                exact hgt j h1
              · simp only [List.mem_append, List.mem_singleton, hAR.mem]
                constructor
                · rintro (⟨⟨j, h1, h2⟩, h3⟩ | rfl)
                  · exact ⟨⟨j, by omega, h2⟩, h3⟩
                  · exact ⟨⟨k, by omega, rfl⟩, hn⟩
                · rintro ⟨⟨j, h1, h2⟩, h3⟩
                  by_cases e : j = k
                  · subst e; exact .inr h2.symm
                  · exact .inl ⟨⟨j, by omega, h2⟩, h3⟩), hs.sub (by repeat (first | exact Sub.refl _ | constructor | apply Sub.weaken))⟩
          | exact .mk ⟨_, _, H6, A, rfl, hle26, hO, by omega, (by
              have hn : RangeR (s.wo [gi L k]) ws lo hi 0 := by rw [← htold]; omega
              refine hAR.congr fun x => ?_
              constructor
              · rintro ⟨⟨j, h1, h2⟩, h3⟩; exact ⟨⟨j, by omega, h2⟩, h3⟩
              · rintro ⟨⟨j, h1, h2⟩, h3⟩
                by_cases e : j = k
                · subst e; subst h2; exact (h3 hn).elim
                · exact ⟨⟨j, by omega, h2⟩, h3⟩), hs.sub (by repeat (first | exact Sub.refl _ | constructor | apply Sub.weaken))⟩
        · refine .gT rfl rfl ?_
          refine .z zm ?_
          refine .gT rfl rfl ?_
          refine .z zneq (.z zpF (.nil ?_))
          refine (.condN rfl (fun hc53 => ?_) (fun hc53 => ?_))
          · refine .region (.z zm (.z zm ?_))
            refine .o (.buildSlice (cells := [_]) hs bls_sl_int_1 rfl rfl ?_); intro b56 w hs
            refine .o (.append (ys := Is [gi L k]) hs app_sl_int_int rfl rfl hO (.own .here rfl rfl) (Is_cell _) (fun l' h => by simp at h; omega) ?_); intro v57 en57 w hO2 hs
            rw [show Is A ++ Is [gi L k] = Is (A ++ [gi L k]) by simp [Is]] at hO2
            refine .z zg (.nil ?_)
            refine nB (nT ?_)
            have hcase : RangeR (s.wo [gi L k]) ws lo hi 0 ∨ ¬ RangeR (s.wo [gi L k]) ws lo hi 0 := Classical.em _
            first
            | exact .mk ⟨_, _, H6, A ++ [gi L k], rfl, hle26, hO2, by simp; omega, (by
                have hn : ¬ RangeR (s.wo [gi L k]) ws lo hi 0 := by rw [← htold]; omega
                refine ⟨List.pairwise_append.2 ⟨hAR.up, by simp, fun x hx y hy => ?_⟩, fun x => ?_⟩
                · simp at hy; subst hy
                  obtain ⟨⟨j, h1, rfl⟩, _⟩ := (hAR.mem x).1 hx
                  exact hgt j h1
                · simp only [List.mem_append, List.mem_singleton, hAR.mem]
                  constructor
                  · rintro (⟨⟨j, h1, h2⟩, h3⟩ | rfl)
                    · exact ⟨⟨j, by omega, h2⟩, h3⟩
                    · exact ⟨⟨k, by omega, rfl⟩, hn⟩
                  · rintro ⟨⟨j, h1, h2⟩, h3⟩
                    by_cases e : j = k
                    · subst e; exact .inr h2.symm
                    · exact .inl ⟨⟨j, by omega, h2⟩, h3⟩), hs.sub (by repeat (first | exact Sub.refl _ | constructor | apply Sub.weaken))⟩
            | exact .mk ⟨_, _, H6, A, rfl, hle26, hO, by omega, (by
                have hn : RangeR (s.wo [gi L k]) ws lo hi 0 := by rw [← htold]; omega
                refine hAR.congr fun x => ?_
                constructor
                · rintro ⟨⟨j, h1, h2⟩, h3⟩; exact ⟨⟨j, by omega, h2⟩, h3⟩
                · rintro ⟨⟨j, h1, h2⟩, h3⟩
                  by_cases e : j = k
                  · subst e; subst h2; exact (h3 hn).elim
                  · exact ⟨⟨j, by omega, h2⟩, h3⟩), hs.sub (by repeat (first | exact Sub.refl _ | constructor | apply Sub.weaken))⟩
          · refine .skip ?_
            refine nB (nT ?_)
            have hcase : RangeR (s.wo [gi L k]) ws lo hi 0 ∨ ¬ RangeR (s.wo [gi L k]) ws lo hi 0 := Classical.em _
            first
            | exact .mk ⟨_, _, H6, A ++ [gi L k], rfl, hle26, hO2, by simp; omega, (by
                have hn : ¬ RangeR (s.wo [gi L k]) ws lo hi 0 := by rw [← htold]; omega
                refine ⟨List.pairwise_append.2 ⟨hAR.up, by simp, fun x hx y hy => ?_⟩, fun x => ?_⟩
                · simp at hy; subst hy
                  obtain ⟨⟨j, h1, rfl⟩, _⟩ := (hAR.mem x).1 hx
                  exact hgt j h1
                · simp only [List.mem_append, List.mem_singleton, hAR.mem]
                  constructor
                  · rintro (⟨⟨j, h1, h2⟩, h3⟩ | rfl)
                    · exact ⟨⟨j, by omega, h2⟩, h3⟩
                    · exact ⟨⟨k, by omega, rfl⟩, hn⟩
                  · rintro ⟨⟨j, h1, h2⟩, h3⟩
                    by_cases e : j = k
                    · subst e; exact .inr h2.symm
                    · exact .inl ⟨⟨j, by omega, h2⟩, h3⟩), hs.sub (by repeat (first | exact Sub.refl _ | constructor | apply Sub.weaken))⟩
            | exact .mk ⟨_, _, H6, A, rfl, hle26, hO, by omega, (by
                have hn : RangeR (s.wo [gi L k]) ws lo hi 0 := by rw [← htold]; omega
                refine hAR.congr fun x => ?_
                constructor
                · rintro ⟨⟨j, h1, h2⟩, h3⟩; exact ⟨⟨j, by omega, h2⟩, h3⟩
                · rintro ⟨⟨j, h1, h2⟩, h3⟩
                  by_cases e : j = k
                  · subst e; subst h2; exact (h3 hn).elim
                  · exact ⟨⟨j, by omega, h2⟩, h3⟩), hs.sub (by repeat (first | exact Sub.refl _ | constructor | apply Sub.weaken))⟩
    · rintro fr w ⟨vo, en, H3, A, rfl, hle3, hO, hAk, hAR, hs⟩
      obtain ⟨ao, lo', co, rfl, hlo⟩ := hO.shape
      refine nT ?_
      refine .regSeq (.z zm (.z zg (.z zg (.nil ?_))))
      refine .ret (Fin.ret2 Tryz.results44 rfl rfl ?_)
      obtain ⟨H4, hle4, hR4, hs⟩ := OwnS.publishI hO (by omega) hs .here
      exact ⟨H4, _, A, 0, hle12.trans (hle3.trans hle4), rfl, hR4, .ok hR (hAR.congr fun x => by
        rw [← hRise.mem]
        constructor
        · rintro ⟨⟨j, h1, rfl⟩, h3⟩; exact ⟨List.mem_of_getElem? (gi_get h1), h3⟩
        · rintro ⟨h1, h3⟩
          obtain ⟨j, hj⟩ := List.getElem?_of_mem h1
          have hjl := (List.getElem?_eq_some_iff.1 hj).1
          have hg := gi_get hjl
          rw [hj] at hg
          exact ⟨⟨j, hjl, (Option.some.inj hg).symm⟩, h3⟩), hs.out⟩
theorem filter_one {out : List Int} {i : Nat} (h : out.Pairwise (· < ·)) (hi : i < out.length) : (out.filter fun x => !decide (x = gi out i)) = out.take i ++ out.drop (i + 1) := by
  have h1 : out = out.take i ++ gi out i :: out.drop (i + 1) := by
    conv => lhs; rw [← List.take_append_drop i out]
    congr 1
    rw [List.drop_eq_getElem_cons hi]
    congr 1
    have := gi_get hi
    rw [List.getElem?_eq_getElem hi] at this
    exact Option.some.inj this
  generalize gi out i = x at h1 ⊢
  generalize out.take i = A at h1 ⊢
  generalize out.drop (i + 1) = B at h1 ⊢
  subst h1
  obtain ⟨_, h3, h4⟩ := List.pairwise_append.1 h
  obtain ⟨h5, _⟩ := List.pairwise_cons.1 h3
  rw [List.filter_append, List.filter_cons, if_neg (by simp), List.filter_eq_self.2 fun y hy => by have := h4 y hy x (.head _); simp; omega, List.filter_eq_self.2 fun y hy => by have := h5 y hy; simp; omega]
set_option maxHeartbeats 4000000 in
theorem ref02_Conflict_spec {H : Heap} {w : World} {σ : List Ent} {v : Value} {s : Syst} (hs : St H w σ) (hr : RSy H v s) :
    Cl Tryz.prog 46 [v] w fun u w' => ∃ H1 vx out e, HLe H H1 ∧ u = .tuple #[vx, I e] ∧ RI H1 vx out ∧ ConfR s out e ∧ St H1 w' σ := by
  obtain ⟨ul, rfl, hl⟩ := hr
  obtain ⟨al, cl, rfl⟩ := RL.shape hl
  refine Cl.of Tryz.func46 rfl Tryz.ntmps46 (by simp) (args_cons (k := 0) rfl (args0)) ?_
  refine .regSeq ?_
  refine .o (.box hs rfl rfl ?_); intro b1 w hs
  refine .z zg (.z zg (.nil (.regSeq (.y hs (zls [_, _] Tryz.isAgg24 Tryz.sizeOf24) ?_))))
  refine .o (.call Tryz.call117 rfl (ref02_Check_spec (s := s) hs ⟨_, rfl, hl⟩) ?_); rintro _ w ⟨rfl, hs⟩
  refine .z zg (.nil (.seq (.regSeq (.z zm (.z zneq (.nil ?_))))))
  refine (.condN rfl (fun hc11 => ?_) (fun hc11 => ?_))
  · refine .regSeq (.z zm (.z zg (.z zg (.nil ?_))))
    refine .ret (rT (Fin.ret2 Tryz.results46 rfl rfl ?_))
    exact ⟨H, _, [], _, HLe.refl H, rfl, RS.nil H 1 none 0, .bad hc11, hs.out⟩
  · refine .skip ?_
    refine nT ?_
    refine .seq (.regSeq (.y hs (zls [_, _] Tryz.isAgg24 Tryz.sizeOf24) ?_))
    have hok : s.Ok := s.ok_iff.1 (by simpa using hc11)
    have hll := hok.len
    refine .o (.call Tryz.call118 rfl (ref02_open_spec (s := s) hs ⟨_, rfl, hl⟩ hok) ?_); rintro _ w ⟨H1, b14, hle1, rfl, hb14, hs⟩
    refine .z znot (.nil ?_)
    refine (.cond rfl (fun hc15 => ?_) (fun hc15 => ?_))
    · refine .regSeq (.z zg (.z zg (.nil ?_)))
      refine .ret (rT (Fin.ret2 Tryz.results46 rfl rfl ?_))
      exact ⟨H1, _, [], _, hle1, rfl, RS.nil H1 1 none 0, .none hok (Classical.byContradiction fun h => by simp [hb14.2 h] at hc15), hs.out⟩
    · refine .skip ?_
      refine nT ?_
      refine .regSeq (.y hs (zls [_, _] Tryz.isAgg24 Tryz.sizeOf24) ?_)
      have hns : ¬ s.Sound := hb14.1 (by simpa using hc15)
      refine .o (.call Tryz.call110 rfl (ref02_Sources_spec (s := s) hs ⟨_, rfl, hl.mono hle1⟩ (by omega)) ?_); rintro v17 w ⟨H2, L, hle2, rL, hLl, hRise, hs⟩
      obtain ⟨aL, cL, rfl⟩ := RI.shape rL
      have hle12 := hle1.trans hle2
      refine .z zg (.nil (.seq (.regSeq (.z zm (.z (zlen Tryz.runUnderlying25) (.z zsub (.z zg (.nil (.block ?_)))))))))
      refine .loop (fun p : Nat × Value => ⟨46, [], [(6, I ((L.length : Int) - 1 - (p.1 : Int))), (5, p.2), (1, .pointer (some ⟨b1, 0, none⟩))]⟩)
        (fun p w => p.1 ≤ L.length ∧ ∃ (t : Syst) (out : List Int) (ut : Value) (H3 : Heap), HLe H2 H3 ∧ RL H3 ut t.lims ∧ RI H3 p.2 out ∧ t.Ok ∧ ConfI s L (L.length - p.1) t out ∧ out.take (L.length - p.1) = L.take (L.length - p.1) ∧ out.length ≤ L.length ∧ St H3 w (.blk b1 [I t.many, ut] :: σ))
        (fun p => L.length - p.1) (0, .slice aL L.length cL) (.consI rfl (by dsimp only; omega) (by repeat (first | exact .nil rfl rfl | refine .cons rfl ?_)))
        ⟨Nat.zero_le _, s, L, _, H2, HLe.refl _, hl.mono hle12, rL, hok, .start, rfl, Nat.le_refl _, hs⟩ ?_
      clear hs
      rintro ⟨j, v5⟩ w ⟨hj, t, out, ut, H3, hle3, hLt, rO, htok, hC, htk, hol, hs⟩
      dsimp only at hj hC htk rO ⊢
      obtain ⟨aO, cO, rfl⟩ := RI.shape rO
      obtain ⟨at', ct, rfl⟩ := RL.shape hLt
      obtain ⟨i, hi⟩ : ∃ i, i = L.length - 1 - j := ⟨_, rfl⟩
      have hfac : j < L.length → L.length = i + 1 + j ∧ ConfI s L (i + 1) t out ∧ out.take i = L.take i ∧ ConfV s L (i + 1) t out ∧ i < out.length ∧ gi out i = gi L i ∧ RI H3 (.slice (if cO = i then aO else aO.map (·.add (i * 1))) (i + 1 - i) (cO - i)) [gi L i] ∧ out.length ≤ cO ∧ t.lims.length ≤ 400 := fun hjL => by
        have hij : L.length - j = i + 1 := by omega
        rw [hij] at hC htk
        have hio : i < out.length := by
          have := congrArg List.length htk
          rw [List.length_take, List.length_take] at this
          omega
        have hgi : gi out i = gi L i := by
          have h1 : gi (out.take (i + 1)) i = gi (L.take (i + 1)) i := by rw [htk]
          simp only [gi, List.getD, List.getElem?_take] at h1
          rw [if_pos (by omega), if_pos (by omega)] at h1
          exact h1
        have hone := RI.one rO hio
        rw [hgi] at hone
        refine ⟨by omega, hC, ?_, hC.inv hns hRise, hio, hgi, hone, (RI.len rO).2.1, htok.len⟩
        have h1 := congrArg (List.take i) htk
        rw [List.take_take, List.take_take, show min i (i + 1) = i by omega] at h1
        exact h1
      refine .seq (.regSeq (.z zm (.z zgeq (.nil ?_))))
      refine (.condD rfl (fun hc22 => ?_) (fun hc22 => ?_))
      · refine .skip ?_
        refine nT ?_
        refine .seq (.block ?_)
        refine .cut (fun fs w => ∃ b7 u7 Hm, FSub fs ⟨46, [], [(7, .pointer (some ⟨b7, 0, none⟩)), (6, I ((L.length : Int) - 1 - (j : Int))), (5, .slice aO out.length cO), (1, .pointer (some ⟨b1, 0, none⟩))]⟩ ∧ HLe H3 Hm ∧ RL Hm u7 (t.wo [gi L i]).lims ∧ St Hm w (.blk b7 [I t.many, u7] :: .blk b1 [I t.many, .slice at' t.lims.length ct] :: σ)) ?_ ?_
        · refine .draw mix rfl hs ?_; intro w hs
          obtain ⟨hij, hC, htk0, hV, hio, hgi, hone, hcap, htl⟩ := hfac (by omega)
          refine .ys 0 rfl hs [_, _] Tryz.isAgg24 Tryz.sizeOf24 ?_; refine .z 1 rfl zm ?_; refine .z 2 rfl zm ?_; refine .z 3 rfl zm ?_; refine .z 4 rfl zadd ?_
          refine .p (i := 5) rfl (by kernel_rfl) .none (q_sliceX (j := i) (k := i + 1) rfl rfl rfl Tryz.runUnderlying25 Tryz.sizeOf3 (by omega) (by omega) (by omega) (by omega)) ?_
          refine .e2 (i := 6) (j := 7) (by kernel_rfl) rfl rfl rfl rfl .none .none hs ?_ ?_
          · refine .call Tryz.call112 rfl (ref02_Without_spec (s := t) hs ⟨_, rfl, hLt⟩ hone (by omega)) ?_; rintro _ w ⟨H4, hle4, ⟨u31, rfl, hL31⟩, hs⟩
            obtain ⟨a31, c31, rfl⟩ := RL.shape hL31
            refine .go ?_
            refine .e1 (i := 7) (by kernel_rfl) rfl rfl .none hs ?_
            refine .alloc hs Tryz.zeroValue24 rfl ?_; intro b7 w hs
            refine .go ?_
            refine .e1 (i := 8) (by kernel_rfl) rfl rfl .none hs ?_
            refine .stores (vs := [_, _]) hs rfl rfl Tryz.sizeOf24 ?_; intro w hs
            refine .go ?_
            refine .done (by kernel_rfl) hs ?_
            exact nT ⟨b7, _, H4, by repeat (first | exact .nil rfl rfl | refine .cons rfl ?_), hle4, hL31, hs.sub (by repeat (first | exact Sub.refl _ | constructor | apply Sub.weaken))⟩
          · refine .alloc hs Tryz.zeroValue24 rfl ?_; intro b7 w hs
            refine .go ?_
            refine .e1 (i := 6) (by kernel_rfl) rfl rfl .none hs ?_
            refine .call Tryz.call112 rfl (ref02_Without_spec (s := t) hs ⟨_, rfl, hLt⟩ hone (by omega)) ?_; rintro _ w ⟨H4, hle4, ⟨u31, rfl, hL31⟩, hs⟩
            obtain ⟨a31, c31, rfl⟩ := RL.shape hL31
            refine .go ?_
            refine .e1 (i := 8) (by kernel_rfl) rfl rfl .none hs ?_
            refine .stores (vs := [_, _]) hs rfl rfl Tryz.sizeOf24 ?_; intro w hs
            refine .go ?_
            refine .done (by kernel_rfl) hs ?_
            exact nT ⟨b7, _, H4, by repeat (first | exact .nil rfl rfl | refine .cons rfl ?_), hle4, hL31, hs.sub (by repeat (first | exact Sub.refl _ | constructor | apply Sub.weaken))⟩
        · obtain ⟨hij, hC, htk0, hV, hio, hgi, hone, hcap, htl⟩ := hfac (by omega)
          rintro fs w ⟨b7, u7, H4, hfs, hle4, hL7, hs⟩
          refine WE.sub ?_ hfs
          obtain ⟨a7, c7, rfl⟩ := RL.shape hL7
          refine .regSeq (.y hs (zls [_, _] Tryz.isAgg24 Tryz.sizeOf24) ?_)
          refine .o (.call Tryz.call118 rfl (ref02_open_spec (s := t.wo [gi L i]) hs ⟨_, rfl, hL7⟩ (htok.wo _)) ?_); rintro _ w ⟨H5, b33, hle5, rfl, hb33, hs⟩
          have hle25 := hle3.trans (hle4.trans hle5)
          have rO5 := rO.mono (hle4.trans hle5)
          refine .nil ?_
          refine (.cond rfl (fun hc33 => ?_) (fun hc33 => ?_))
          · refine .regSeq (.y hs (zls [_, _] Tryz.isAgg24 Tryz.sizeOf24) ?_)
            refine .o (.stores (vs := [_, _]) hs rfl rfl Tryz.sizeOf24 ?_); intro w hs
            refine .nil ?_
            refine .draw mix rfl hs ?_; intro w hs
            refine .z 1 rfl zm ?_; refine .z 2 rfl zm ?_
            refine .p (i := 3) rfl (by kernel_rfl) .none (q_sliceHX (k := i) rfl rfl Tryz.runUnderlying25 Tryz.sizeOf3 (by omega) (by omega)) ?_
            refine .z 5 rfl zm ?_; refine .z 6 rfl zm ?_; refine .z 7 rfl zadd ?_
            refine .p (i := 8) rfl (by kernel_rfl) .none (q_sliceLX (k := i + 1) rfl rfl Tryz.runUnderlying25 Tryz.sizeOf3 (by omega) (by omega)) ?_
            refine .e1 (i := 0) (by kernel_rfl) rfl rfl .none hs ?_
            refine .buildSlice (cells := []) hs bls_sl_int_0 rfl rfl ?_; intro b35 w hs
            refine .go ?_
            refine .e1 (i := 4) (by kernel_rfl) rfl rfl .none hs ?_
            refine .append (xs := []) (ys := Is (out.take i)) hs app_sl_int_int rfl rfl (.full (b := b35) (len := 0) rfl) (Src.ints (rO5.head (k := i) (by omega))) (Is_cell _) (fun l' h => by simp at h; rw [List.length_take]; omega) ?_; intro v39 en39 w hO39 hs
            rw [List.nil_append] at hO39
            obtain ⟨a39, l39, c39, rfl, h39⟩ := hO39.shape
            refine .go ?_
            refine .e1 (i := 9) (by kernel_rfl) rfl rfl .none hs ?_
            refine .append (ys := Is (out.drop (i + 1))) hs app_sl_int_int rfl rfl hO39 (Src.ints (rO5.tail (k := i + 1) (by omega))) (Is_cell _) (fun l' h => by simp at h; rw [List.length_drop]; omega) ?_; intro v44 en44 w hO44 hs
            rw [show ∀ A B : List Int, Is A ++ Is B = Is (A ++ B) from fun A B => by simp [Is], ← filter_one hV.up hio, hgi] at hO44
            refine .go ?_
            refine .z 10 rfl zg ?_; refine .done (by kernel_rfl) hs ?_
            refine nB (nT ?_)
            refine .region (.z zm (.z zsub (.z zg (.nil ?_))))
            refine nT ?_
            have hfl := List.length_filter_le (fun x => !decide (x = gi L i)) out
            obtain ⟨a44, c44, rfl⟩ := hO44.shapeI
            obtain ⟨H6, hle6, rN, hs⟩ := OwnS.publishI hO44 (by omega) hs (by repeat constructor)
            exact ⟨(j + 1, _), .consI rfl (by dsimp only; omega) (by repeat (first | exact .nil rfl rfl | refine .cons rfl ?_)), ⟨by dsimp only; omega, t.wo [gi L i], _, _, H6, hle25.trans hle6, hL7.mono (hle5.trans hle6), rN, htok.wo _, by
              dsimp only
              rw [show L.length - (j + 1) = i by omega]
              exact .drop hC (hb33.1 hc33), by
              dsimp only
              rw [← hgi, filter_one hV.up hio, show L.length - (j + 1) = i by omega, List.take_append_of_le_length (by rw [List.length_take]; omega), List.take_take, Nat.min_self]
              exact htk0, by omega, hs.sub (by repeat (first | exact Sub.refl _ | constructor | apply Sub.weaken))⟩, by dsimp only; omega⟩
          · refine .skip ?_
            refine nB (nT ?_)
            refine .region (.z zm (.z zsub (.z zg (.nil ?_))))
            refine nT ?_
            exact ⟨(j + 1, .slice aO out.length cO), .consI rfl (by dsimp only; omega) (by repeat (first | exact .nil rfl rfl | refine .cons rfl ?_)), ⟨by dsimp only; omega, t, out, _, H5, hle25, hLt.mono (hle4.trans hle5), rO5, htok, by
              dsimp only
              rw [show L.length - (j + 1) = i by omega]
              exact .keep hC (Classical.byContradiction fun h => by simp [hb33.2 h] at hc33), by
              dsimp only
              rw [show L.length - (j + 1) = i by omega]
              exact htk0, hol, hs.sub (by repeat (first | exact Sub.refl _ | constructor | apply Sub.weaken))⟩, by dsimp only; omega⟩
      · refine .exit ?_
        refine xT (xT (xB (nT ?_)))
        refine .regSeq (.z zm (.z zg (.z zg (.nil ?_))))
        refine .ret (Fin.ret2 Tryz.results46 rfl rfl ?_)
        obtain rfl : L.length = j := by omega
        rw [Nat.sub_self] at hC
        exact ⟨H3, _, out, 0, hle12.trans hle3, rfl, rO, .ok hok hns hRise hC, hs.out⟩
set_option maxHeartbeats 2000000 in
theorem ref02_CheckConflict_spec {H : Heap} {w : World} {σ : List Ent} {v vb : Value} {s : Syst} {bs : List Int} (hs : St H w σ) (hr : RSy H v s) (hb : RI H vb bs) :
    Cl Tryz.prog 50 [v, vb] w fun u w' => ∃ H1 e, HLe H H1 ∧ u = I e ∧ CConfR s bs e ∧ St H1 w' σ := by
  obtain ⟨ul, rfl, hl⟩ := hr
  obtain ⟨al, cl, rfl⟩ := RL.shape hl
  obtain ⟨ab, cb, rfl⟩ := RI.shape hb
  have hbl := (RI.len hb).2.2
  have hcap := (RI.len hb).2.1
  refine Cl.of Tryz.func50 rfl Tryz.ntmps50 (by simp) (args_cons (k := 0) rfl (args_cons (k := 1) rfl (args0))) ?_
  refine .regSeq ?_
  refine .o (.box hs rfl rfl ?_); intro b2 w hs
  refine .z zg (.nil (.regSeq (.y hs (zls [_, _] Tryz.isAgg24 Tryz.sizeOf24) ?_)))
  refine .o (.call Tryz.call117 rfl (ref02_Check_spec (s := s) hs ⟨_, rfl, hl⟩) ?_); rintro _ w ⟨rfl, hs⟩
  refine .z zg (.nil (.seq (.regSeq (.z zm (.z zneq (.nil ?_))))))
  refine (.condN rfl (fun hc14 => ?_) (fun hc14 => ?_))
  · refine .regSeq (.z zm (.z zg (.nil ?_)))
    refine .ret (rT (Fin.ret1 Tryz.results50 rfl ?_))
    exact ⟨H, _, HLe.refl H, rfl, .bad hc14, hs.out⟩
  · refine .skip ?_
    refine nT ?_
    refine .regSeq (.y hs (zls [_, _] Tryz.isAgg24 Tryz.sizeOf24) ?_)
    have hok : s.Ok := s.ok_iff.1 (by simpa using hc14)
    have hll := hok.len
    refine .o (.call Tryz.call110 rfl (ref02_Sources_spec (s := s) hs ⟨_, rfl, hl⟩ (by omega)) ?_); rintro v17 w ⟨H1, L, hle1, rL, hLl, hRise, hs⟩
    obtain ⟨aL, cL, rfl⟩ := RI.shape rL
    refine .z zg (.nil (.seq (.regSeq (.z zm (.z (zlen Tryz.runUnderlying25) (.z zm (.nil ?_)))))))
    refine .for (N := bs.length) (J := fun k fr w => fr = [(18, .slice ab bs.length cb), (6, .slice aL L.length cL), (1, .slice ab bs.length cb), (2, .pointer (some ⟨b2, 0, none⟩))] ∧ (∀ j < k, SrcS s.lims (gi bs j) ∧ (0 < j → gi bs (j - 1) < gi bs j)) ∧ St H1 w (.blk b2 [I s.many, .slice al s.lims.length cl] :: σ)) (by omega) ?_ ?_ ?_
    · exact .mk ⟨rfl, fun j hj => by omega, hs⟩
    · rintro k fr w hk ⟨rfl, hno, hs⟩
      have hx := gi_get hk
      refine .block (.regSeq (.z zm ?_))
      refine .ixY hs (hb.mono hle1) rfl rfl Tryz.runUnderlying25 Tryz.sizeOf3 hx rfl ?_; intro b23 o23 hc23
      refine .q hs (q_loadR rfl Tryz.isAgg3 hc23) ?_
      refine .z zg (.z zg (.nil (.regSeq (.z zm (.z zm ?_)))))
      refine .o (.call Tryz.call131 rfl (ref02_Has_spec hs rL) ?_); rintro _ w ⟨rfl, hs⟩
      refine .z znot (.z zm ?_)
      refine .bif (t' := 29) rfl (fun hb29 => ?_) (fun hb29 => ?_)
      · refine .gFs 3 4 false rfl rfl rfl ?_
        refine .gFs 7 7 true rfl rfl rfl ?_
        refine .gFs 1 4 false rfl rfl rfl ?_
        refine .z zpT (.nil ?_)
        refine (.condT rfl rfl ?_)
        refine .regSeq (.z zg (.nil ?_))
        refine .ret (rB (rT (rB (rT (Fin.ret1 Tryz.results50 rfl ?_)))))
        exact ⟨H1, _, hle1, rfl, .no hok (fun h => by
          have := (hRise.mem _).2 (h.src _ (List.mem_of_getElem? hx))
          simp [this] at hb29), hs.out⟩
      · refine .gT rfl rfl ?_
        refine .z zm ?_
        refine .gT rfl rfl ?_
        refine .z zgtr ?_
        refine .gT rfl rfl ?_
        refine .z zm ?_
        refine .bifD (t' := 32) rfl (fun hb32 => ?_) (fun hb32 => ?_)
        · refine .gT rfl rfl ?_
          refine .z zm ?_
          refine .gT rfl rfl ?_
          refine .z zm ?_
          refine .gT rfl rfl ?_
          refine .z zsub ?_
          refine .gT rfl rfl ?_
          refine .ixY hs (hb.mono hle1) rfl rfl Tryz.runUnderlying25 Tryz.sizeOf3 (gi_get (l := bs) (i := k - 1) (by omega)) (by omega) ?_; intro b36 o36 hc36
          refine .gT rfl rfl ?_
          refine .q hs (q_loadR rfl Tryz.isAgg3 hc36) ?_
          refine .gT rfl rfl ?_
          refine .z zm ?_
          refine .gT rfl rfl ?_
          refine .z zgeq ?_
          refine .gT rfl rfl ?_
          refine .z zpT (.z zpF (.nil ?_))
          refine (.condD rfl (fun hc41 => ?_) (fun hc41 => ?_))
          · refine .regSeq (.z zg (.nil ?_))
            refine .ret (rB (rT (rB (rT (Fin.ret1 Tryz.results50 rfl ?_)))))
            exact ⟨H1, _, hle1, rfl, .no hok (fun h => by
              have := rise_gi (S := fun x => x ∈ bs) ⟨h.up, fun _ => Iff.rfl⟩ (i := k - 1) (j := k) (by omega) hk
              omega), hs.out⟩
          · refine .skip ?_
            refine nB (nT ?_)
            have hm : gi bs k ∈ L := by simpa using hb29
            exact .mk ⟨rfl, fun j hj => by
              by_cases e : j = k
              · subst e; exact ⟨(hRise.mem _).1 hm, fun h0 => by omega⟩
              · exact hno j (by omega), hs⟩
        · refine .gFs 7 7 true rfl rfl rfl ?_
          refine .gT rfl rfl ?_
          refine .z zpF (.z zpF (.nil ?_))
          refine (.condF rfl rfl ?_)
          refine .skip ?_
          refine nB (nT ?_)
          have hm : gi bs k ∈ L := by simpa using hb29
          exact .mk ⟨rfl, fun j hj => by
            by_cases e : j = k
            · subst e; exact ⟨(hRise.mem _).1 hm, fun h0 => by omega⟩
            · exact hno j (by omega), hs⟩
    · rintro fr w ⟨rfl, hno, hs⟩
      have hup : bs.Pairwise (· < ·) := pw_adj fun j hj h0 => (hno j hj).2 h0
      have hsrc : ∀ x ∈ bs, SrcS s.lims x := fun x hx => by
        obtain ⟨j, hj⟩ := List.getElem?_of_mem hx
        have hjl := (List.getElem?_eq_some_iff.1 hj).1
        have := gi_get hjl
        rw [hj] at this
        rw [Option.some.inj this]
        exact (hno j hjl).1
      refine nT ?_
      refine .regSeq (.y hs (zls [_, _] Tryz.isAgg24 Tryz.sizeOf24) (.z zm ?_))
      refine .o (.call Tryz.call132 rfl (ref02_only_spec (s := s) hs ⟨_, rfl, hl.mono hle1⟩ (hb.mono hle1) (by omega)) ?_); rintro _ w ⟨H2, hle2, ⟨u45, rfl, hL45⟩, hs⟩
      obtain ⟨a45, c45, rfl⟩ := RL.shape hL45
      have hol := (hok.only bs).len
      refine .o (.alloc hs Tryz.zeroValue24 rfl ?_); intro b9 w hs
      refine .o (.stores (vs := [_, _]) hs rfl rfl Tryz.sizeOf24 ?_); intro w hs
      refine .nil (.seq (.regSeq (.y hs (zls [_, _] Tryz.isAgg24 Tryz.sizeOf24) ?_)))
      refine .o (.call Tryz.call118 rfl (ref02_open_spec (s := s.only bs) hs ⟨_, rfl, hL45⟩ (hok.only bs)) ?_); rintro _ w ⟨H3, b47, hle3, rfl, hq47, hs⟩
      have hle13 := hle1.trans (hle2.trans hle3)
      refine .z znot (.nil ?_)
      refine (.cond rfl (fun hc48 => ?_) (fun hc48 => ?_))
      · refine .regSeq (.z zg (.nil ?_))
        refine .ret (rT (Fin.ret1 Tryz.results50 rfl ?_))
        exact ⟨H3, _, hle13, rfl, .no hok (fun h => by simp [hq47.2 h.bad] at hc48), hs.out⟩
      · refine .skip ?_
        refine nT ?_
        refine .seq (.regSeq (.z zm (.z (zlen Tryz.runUnderlying25) (.z zm (.nil ?_)))))
        refine .for (N := bs.length) (J := fun k fr w => ∃ H4, fr = [(1, .slice ab bs.length cb), (9, .pointer (some ⟨b9, 0, none⟩))] ∧ HLe H3 H4 ∧ (∀ j < k, ∀ x, bs[j]? = some x → ((s.only bs).wo [x]).Sound) ∧ St H4 w (.blk b9 [I s.many, .slice a45 (s.only bs).lims.length c45] :: .blk b2 [I s.many, .slice al s.lims.length cl] :: σ)) (by omega) ?_ ?_ ?_
        · exact .mk ⟨H3, rfl, HLe.refl _, fun j hj => by omega, hs⟩
        · rintro k fr w hk ⟨H4, rfl, hle4, hno2, hs⟩
          have hx := gi_get hk
          have hone := RI.one (hb.mono (hle13.trans hle4)) hk
          refine .block (.regSeq (.z zm (.z zg (.nil ?_))))
          refine .seq (.draw mix rfl hs ?_); intro w hs
          refine .ys 0 rfl hs [_, _] Tryz.isAgg24 Tryz.sizeOf24 ?_; refine .z 1 rfl zm ?_; refine .z 2 rfl zm ?_; refine .z 3 rfl zm ?_; refine .z 4 rfl zadd ?_
          refine .p (i := 5) rfl (by kernel_rfl) .none (q_sliceX (j := k) (k := k + 1) rfl rfl rfl Tryz.runUnderlying25 Tryz.sizeOf3 rfl (by omega) (by omega) (by omega)) ?_
          refine .e1 (i := 6) (by kernel_rfl) rfl rfl .none hs ?_
          refine .call Tryz.call112 rfl (ref02_Without_spec (s := s.only bs) hs ⟨_, rfl, hL45.mono (hle3.trans hle4)⟩ hone (by omega)) ?_; rintro _ w ⟨H5, hle5, hS60, hs⟩
          refine .go ?_
          refine .e1 (i := 7) (by kernel_rfl) rfl rfl .none hs ?_
          refine .call Tryz.call118 rfl (ref02_open_spec (s := (s.only bs).wo [gi bs k]) hs hS60 ((hok.only bs).wo _)) ?_; rintro _ w ⟨H6, b61, hle6, rfl, hq61, hs⟩
          refine .go ?_
          refine .done (by kernel_rfl) hs ?_
          refine (.cond rfl (fun hc61 => ?_) (fun hc61 => ?_))
          · refine .regSeq (.z zg (.nil ?_))
            refine .ret (rB (rT (rB (rT (Fin.ret1 Tryz.results50 rfl ?_)))))
            exact ⟨H6, _, hle13.trans (hle4.trans (hle5.trans hle6)), rfl, .no hok (fun h => hq61.1 hc61 (h.least _ (List.mem_of_getElem? hx))), hs.out⟩
          · refine .skip ?_
            refine nB (nT ?_)
            exact .mk ⟨H6, rfl, hle4.trans (hle5.trans hle6), upto_succ hno2 hx (Classical.byContradiction fun h => by simp [hq61.2 h] at hc61), hs⟩
        · rintro fr w ⟨H4, rfl, hle4, hno2, hs⟩
          refine nT ?_
          refine .regSeq (.z zg (.nil ?_))
          refine .ret (Fin.ret1 Tryz.results50 rfl ?_)
          exact ⟨H4, _, hle13.trans hle4, rfl, .ok hok ⟨hsrc, hup, hq47.1 (by simpa using hc48), fun x hx => by
            obtain ⟨j, hj⟩ := List.getElem?_of_mem hx
            exact hno2 j (List.getElem?_eq_some_iff.1 hj).1 x hj⟩, hs.out⟩
set_option maxHeartbeats 4000000 in
theorem ref02_Idle_spec {H : Heap} {w : World} {σ : List Ent} {v : Value} {s : Syst} (hs : St H w σ) (hr : RSy H v s) :
    Cl Tryz.prog 48 [v] w fun u w' => ∃ H1 vx L e, HLe H H1 ∧ u = .tuple #[vx, I e] ∧ RI H1 vx L ∧ IdleR s L e ∧ St H1 w' σ := by
  obtain ⟨ul, rfl, hl⟩ := hr
  obtain ⟨al, cl, rfl⟩ := RL.shape hl
  refine Cl.of Tryz.func48 rfl Tryz.ntmps48 (by simp) (args_cons (k := 0) rfl (args0)) ?_
  refine .regSeq ?_
  refine .o (.box hs rfl rfl ?_); intro b1 w hs
  refine .z zg (.z zg (.nil (.regSeq (.y hs (zls [_, _] Tryz.isAgg24 Tryz.sizeOf24) ?_))))
  refine .o (.call Tryz.call124 rfl (ref02_Close_spec (s := s) hs ⟨_, rfl, hl⟩) ?_); rintro _ w ⟨H1, vt, e, hle1, rfl, hcase, hs⟩
  refine .z zm (.z zex (.z zex (.z zg (.z zg (.nil (.seq (.regSeq (.z zm (.z zneq ?_)))))))))
  refine .nil ?_
  refine (.condN rfl (fun hc15 => ?_) (fun hc15 => ?_))
  · refine .regSeq (.z zm (.z zg (.z zg (.nil ?_))))
    refine .ret (rT (Fin.ret2 Tryz.results48 rfl rfl ?_))
    have hI : IdleR s [] e := by
      rcases hcase with ⟨h, rfl, _⟩ | ⟨h, h1, rfl, _⟩ | ⟨_, _, rfl, _⟩
      · exact .bad h
      · exact .clash h h1
      · exact (hc15 rfl).elim
    exact ⟨H1, _, [], _, hle1, rfl, RS.nil H1 1 none 0, hI, hs.out⟩
  · refine .skip ?_
    refine nT ?_
    refine .regSeq (.z zg (.nil (.seq (.regSeq ?_))))
    obtain ⟨hok, hsd, rs, hT, hsq, hW⟩ : s.Ok ∧ s.Sound ∧ ∃ rs, RT H1 vt rs ∧ Sq s.n rs ∧ WaysT s.n s.arcs (gt rs) := by
      rcases hcase with ⟨h, h1, _⟩ | ⟨h, h1, h2, _⟩ | ⟨h, h1, _, h2⟩
      · omega
      · omega
      · exact ⟨h, h1, h2⟩
    have hll := hok.len
    have hcap : s.lims.length ≤ cl := (RS.len hl).2.1
    obtain ⟨at', ct, rfl⟩ := hT.shape
    refine .z (zfa fa_api_System_1) (.y hs (zld Tryz.isAgg22) (.z (zlen Tryz.runUnderlying22) (.z zm (.nil ?_))))
    refine .for (N := s.lims.length) (J := fun k fr w => ∃ vo en H3 L, fr = [(6, vo), (4, .slice at' rs.length ct), (1, .pointer (some ⟨b1, 0, none⟩))] ∧ HLe H1 H3 ∧ OwnS 1 vo (Is L) en ∧ L.length ≤ k ∧ RiseOf (fun x => ∃ i : Nat, x = i ∧ i < k ∧ IdleP s i) L ∧ St H3 w (en :: .blk b1 [I s.many, .slice al s.lims.length cl] :: σ)) (by omega) ?_ ?_ ?_
    · exact .mk ⟨_, .nul, H1, [], rfl, HLe.refl _, .nil 1 none, by simp, .nil (fun x ⟨i, _, h, _⟩ => by omega), hs.nul⟩
    · rintro k fr w hk ⟨vo, en, H3, L, rfl, hle3, hO, hLk, hRise, hs⟩
      obtain ⟨ao, lo, co, rfl, hlo⟩ := hO.shape
      obtain ⟨p0, hp0⟩ := hsd
      have hl3 := hl.mono (hle1.trans hle3)
      have hH : RL H3 (.slice al k cl) (s.lims.take k) := by
        have := RS.head hl3 (k := k) (by omega)
        unfold RL; rwa [List.map_take]
      have hTl : RL H3 (.slice (if cl = k + 1 then al else al.map (·.add ((k + 1) * 4))) (s.lims.length - (k + 1)) (cl - (k + 1))) (s.lims.drop (k + 1)) := by
        have := RS.tail hl3 (k := k + 1) (by omega)
        unfold RL; rwa [List.map_drop]
      refine .block (.regSeq (.z zm (.z zg (.nil ?_))))
      refine .cut (fun fs w => ∃ b8 u8 Hm, FSub fs ⟨48, [], [(8, .pointer (some ⟨b8, 0, none⟩)), (7, I (k : Int)), (20, I (k : Int)), (19, I (s.lims.length : Int)), (6, .slice ao lo co), (4, .slice at' rs.length ct), (1, .pointer (some ⟨b1, 0, none⟩))]⟩ ∧ HLe H3 Hm ∧ RL Hm u8 (s.but k).lims ∧ St Hm w (.blk b8 [I s.many, u8] :: en :: .blk b1 [I s.many, .slice al s.lims.length cl] :: σ)) ?_ ?_
      · refine .draw mix rfl hs ?_; intro w hs
        refine .z 0 rfl (zfa fa_api_System_0) ?_; refine .y 1 rfl hs Tryz.isAgg3 ?_; refine .z 3 rfl (zfa fa_api_System_1) ?_; refine .y 4 rfl hs Tryz.isAgg22 ?_; refine .z 5 rfl zm ?_
        refine .p (i := 6) rfl (by kernel_rfl) .none (q_sliceHX (k := k) rfl rfl Tryz.runUnderlying22 Tryz.sizeOf157 rfl (by omega)) ?_
        refine .z 8 rfl (zfa fa_api_System_1) ?_; refine .y 9 rfl hs Tryz.isAgg22 ?_; refine .z 10 rfl zm ?_; refine .z 11 rfl zadd ?_
        refine .p (i := 12) rfl (by kernel_rfl) .none (q_sliceLX (k := k + 1) rfl rfl Tryz.runUnderlying22 Tryz.sizeOf157 (by omega) (by omega)) ?_
        refine .e2 (i := 2) (j := 15) (by kernel_rfl) rfl rfl rfl rfl .none .none hs ?_ ?_
        · refine .buildSlice (cells := []) hs bls_sl_api_Limit_0 rfl rfl ?_; intro b25 w hs
          refine .go ?_
          refine .e2 (i := 7) (j := 15) (by kernel_rfl) rfl rfl rfl rfl .none .none hs ?_ ?_
          · refine .append (xs := []) (ys := Lims (s.lims.take k)) hs app_sl_api_Limit_api_Limit rfl rfl (.full (b := b25) (len := 0) rfl) (.rs hH) (Lims_cell _) (fun l' h => by simp at h; rw [List.length_map, List.length_take]; omega) ?_; intro v30 en30 w hO30 hs
            rw [List.nil_append] at hO30
            obtain ⟨a30, l30, c30, rfl, h30⟩ := hO30.shape
            refine .go ?_
            refine .e2 (i := 13) (j := 15) (by kernel_rfl) rfl rfl rfl rfl .none .none hs ?_ ?_
            · refine .append (ys := Lims (s.lims.drop (k + 1))) hs app_sl_api_Limit_api_Limit rfl rfl hO30 (.rs hTl) (Lims_cell _) (fun l' h => by rw [Lims_length, List.length_take] at h; rw [List.length_map, List.length_drop]; omega) ?_; intro v36 en36 w hO36 hs
              rw [← Lims_append] at hO36
              obtain ⟨a36, l36, c36, rfl, h36⟩ := hO36.shape
              refine .go ?_
              refine .z 14 rfl (zbd [_, _] bld_api_System) ?_
              refine .e1 (i := 15) (by kernel_rfl) rfl rfl .none hs ?_
              refine .alloc hs Tryz.zeroValue24 rfl ?_; intro b8 w hs
              refine .go ?_
              refine .e1 (i := 16) (by kernel_rfl) rfl rfl .none hs ?_
              refine .stores (vs := [_, _]) hs rfl rfl Tryz.sizeOf24 ?_; intro w hs
              refine .go ?_
              refine .done (by kernel_rfl) hs ?_
              obtain ⟨Hp, hlep, rp, hs⟩ := OwnS.publish (m := 4) (cs := (s.but k).lims.map Lim.c) hO36 (fun c hc => by simp only [List.mem_map] at hc; obtain ⟨x, _, rfl⟩ := hc; rfl) (by omega) (by have := but_len s k; simp; omega) hs (by repeat constructor)
              exact nT ⟨b8, _, Hp, by repeat (first | exact .nil rfl rfl | refine .cons rfl ?_), hlep, rp, hs.sub (by repeat (first | exact Sub.refl _ | constructor | apply Sub.weaken))⟩
            · refine .alloc hs Tryz.zeroValue24 rfl ?_; intro b8 w hs
              refine .go ?_
              refine .e1 (i := 13) (by kernel_rfl) rfl rfl .none hs ?_
              refine .append (ys := Lims (s.lims.drop (k + 1))) hs app_sl_api_Limit_api_Limit rfl rfl hO30 (.rs hTl) (Lims_cell _) (fun l' h => by rw [Lims_length, List.length_take] at h; rw [List.length_map, List.length_drop]; omega) ?_; intro v36 en36 w hO36 hs
              rw [← Lims_append] at hO36
              obtain ⟨a36, l36, c36, rfl, h36⟩ := hO36.shape
              refine .go ?_
              refine .z 14 rfl (zbd [_, _] bld_api_System) ?_
              refine .e1 (i := 16) (by kernel_rfl) rfl rfl .none hs ?_
              refine .stores (vs := [_, _]) hs rfl rfl Tryz.sizeOf24 ?_; intro w hs
              refine .go ?_
              refine .done (by kernel_rfl) hs ?_
              obtain ⟨Hp, hlep, rp, hs⟩ := OwnS.publish (m := 4) (cs := (s.but k).lims.map Lim.c) hO36 (fun c hc => by simp only [List.mem_map] at hc; obtain ⟨x, _, rfl⟩ := hc; rfl) (by omega) (by have := but_len s k; simp; omega) hs (by repeat constructor)
              exact nT ⟨b8, _, Hp, by repeat (first | exact .nil rfl rfl | refine .cons rfl ?_), hlep, rp, hs.sub (by repeat (first | exact Sub.refl _ | constructor | apply Sub.weaken))⟩
          · refine .alloc hs Tryz.zeroValue24 rfl ?_; intro b8 w hs
            refine .go ?_
            refine .e1 (i := 7) (by kernel_rfl) rfl rfl .none hs ?_
            refine .append (xs := []) (ys := Lims (s.lims.take k)) hs app_sl_api_Limit_api_Limit rfl rfl (.full (b := b25) (len := 0) rfl) (.rs hH) (Lims_cell _) (fun l' h => by simp at h; rw [List.length_map, List.length_take]; omega) ?_; intro v30 en30 w hO30 hs
            rw [List.nil_append] at hO30
            obtain ⟨a30, l30, c30, rfl, h30⟩ := hO30.shape
            refine .go ?_
            refine .e1 (i := 13) (by kernel_rfl) rfl rfl .none hs ?_
            refine .append (ys := Lims (s.lims.drop (k + 1))) hs app_sl_api_Limit_api_Limit rfl rfl hO30 (.rs hTl) (Lims_cell _) (fun l' h => by rw [Lims_length, List.length_take] at h; rw [List.length_map, List.length_drop]; omega) ?_; intro v36 en36 w hO36 hs
            rw [← Lims_append] at hO36
            obtain ⟨a36, l36, c36, rfl, h36⟩ := hO36.shape
            refine .go ?_
            refine .z 14 rfl (zbd [_, _] bld_api_System) ?_
            refine .e1 (i := 16) (by kernel_rfl) rfl rfl .none hs ?_
            refine .stores (vs := [_, _]) hs rfl rfl Tryz.sizeOf24 ?_; intro w hs
            refine .go ?_
            refine .done (by kernel_rfl) hs ?_
            obtain ⟨Hp, hlep, rp, hs⟩ := OwnS.publish (m := 4) (cs := (s.but k).lims.map Lim.c) hO36 (fun c hc => by simp only [List.mem_map] at hc; obtain ⟨x, _, rfl⟩ := hc; rfl) (by omega) (by have := but_len s k; simp; omega) hs (by repeat constructor)
            exact nT ⟨b8, _, Hp, by repeat (first | exact .nil rfl rfl | refine .cons rfl ?_), hlep, rp, hs.sub (by repeat (first | exact Sub.refl _ | constructor | apply Sub.weaken))⟩
        · refine .alloc hs Tryz.zeroValue24 rfl ?_; intro b8 w hs
          refine .go ?_
          refine .e1 (i := 2) (by kernel_rfl) rfl rfl .none hs ?_
          refine .buildSlice (cells := []) hs bls_sl_api_Limit_0 rfl rfl ?_; intro b25 w hs
          refine .go ?_
          refine .e1 (i := 7) (by kernel_rfl) rfl rfl .none hs ?_
          refine .append (xs := []) (ys := Lims (s.lims.take k)) hs app_sl_api_Limit_api_Limit rfl rfl (.full (b := b25) (len := 0) rfl) (.rs hH) (Lims_cell _) (fun l' h => by simp at h; rw [List.length_map, List.length_take]; omega) ?_; intro v30 en30 w hO30 hs
          rw [List.nil_append] at hO30
          obtain ⟨a30, l30, c30, rfl, h30⟩ := hO30.shape
          refine .go ?_
          refine .e1 (i := 13) (by kernel_rfl) rfl rfl .none hs ?_
          refine .append (ys := Lims (s.lims.drop (k + 1))) hs app_sl_api_Limit_api_Limit rfl rfl hO30 (.rs hTl) (Lims_cell _) (fun l' h => by rw [Lims_length, List.length_take] at h; rw [List.length_map, List.length_drop]; omega) ?_; intro v36 en36 w hO36 hs
          rw [← Lims_append] at hO36
          obtain ⟨a36, l36, c36, rfl, h36⟩ := hO36.shape
          refine .go ?_
          refine .z 14 rfl (zbd [_, _] bld_api_System) ?_
          refine .e1 (i := 16) (by kernel_rfl) rfl rfl .none hs ?_
          refine .stores (vs := [_, _]) hs rfl rfl Tryz.sizeOf24 ?_; intro w hs
          refine .go ?_
          refine .done (by kernel_rfl) hs ?_
          obtain ⟨Hp, hlep, rp, hs⟩ := OwnS.publish (m := 4) (cs := (s.but k).lims.map Lim.c) hO36 (fun c hc => by simp only [List.mem_map] at hc; obtain ⟨x, _, rfl⟩ := hc; rfl) (by omega) (by have := but_len s k; simp; omega) hs (by repeat constructor)
          exact nT ⟨b8, _, Hp, by repeat (first | exact .nil rfl rfl | refine .cons rfl ?_), hlep, rp, hs.sub (by repeat (first | exact Sub.refl _ | constructor | apply Sub.weaken))⟩
      · rintro fs w ⟨b8, u8, H4, hfs, hle4, hL8, hs⟩
        refine WE.sub ?_ hfs
        obtain ⟨a8, c8, rfl⟩ := RL.shape hL8
        have hsb : (s.but k).Sound := sound_sub ⟨p0, hp0⟩ fun l hl => but_mem hl
        refine .regSeq (.y hs (zls [_, _] Tryz.isAgg24 Tryz.sizeOf24) ?_)
        refine .o (.call Tryz.call126 rfl (ref02_Ways_spec (s := s.but k) hs ⟨_, rfl, hL8⟩ (hok.but k)) ?_); rintro v39 w ⟨H5, rs5, hle5, hT39, hsq5, hW5, hs⟩
        have hid := idle_iff (i := k) hok ⟨p0, hp0⟩ hsq hsq5 hW hW5
        have hle15 := hle3.trans (hle4.trans hle5)
        refine .z zm ?_
        refine .o (.call Tryz.call125 rfl (ref02_SameTable_spec hs hT39 (hT.mono hle15)) ?_); rintro _ w ⟨rfl, hs⟩
        refine .nil ?_
        refine (.cond rfl (fun hc41 => ?_) (fun hc41 => ?_))
        · refine .region (.z zm (.z zm ?_))
          refine .o (.buildSlice (cells := [_]) hs bls_sl_int_1 rfl rfl ?_); intro b44 w hs
          refine .o (.append (ys := Is [(k : Int)]) hs app_sl_int_int rfl rfl hO (.own .here rfl rfl) (Is_cell _) (fun l' h => by simp at h; omega) ?_); intro v45 en45 w hO2 hs
          rw [show Is L ++ Is [(k : Int)] = Is (L ++ [(k : Int)]) by simp [Is]] at hO2
          refine .z zg (.nil ?_)
          refine nB (nT ?_)
          have hidk : IdleP s k := hid.1 (of_decide_eq_true hc41).symm
          exact .mk ⟨_, _, H5, L ++ [(k : Int)], rfl, hle15, hO2, by simp; omega, ⟨List.pairwise_append.2 ⟨hRise.up, by simp, fun x hx y hy => by
              simp at hy; subst hy
              obtain ⟨i, rfl, h2, _⟩ := (hRise.mem x).1 hx
              omega⟩, fun x => by
              simp only [List.mem_append, List.mem_singleton, hRise.mem]
              constructor
              · rintro (⟨i, h1, h2, h3⟩ | rfl)
                · exact ⟨i, h1, by omega, h3⟩
                · exact ⟨k, rfl, by omega, hidk⟩
              · rintro ⟨i, h1, h2, h3⟩
                by_cases e : i = k
                · subst e; exact .inr h1
                · exact .inl ⟨i, h1, by omega, h3⟩⟩, hs.sub (by repeat (first | exact Sub.refl _ | constructor | apply Sub.weaken))⟩
        · refine .skip ?_
          refine nB (nT ?_)
          have hidk : ¬ IdleP s k := fun h => by have := hid.2 h; simp [this] at hc41
          exact .mk ⟨_, _, H5, L, rfl, hle15, hO, by omega, hRise.congr fun x => by
              constructor
              · rintro ⟨i, h1, h2, h3⟩; exact ⟨i, h1, by omega, h3⟩
              · rintro ⟨i, h1, h2, h3⟩
                exact ⟨i, h1, by
                  by_cases e : i = k
                  · subst e; exact (hidk h3).elim
                  · omega, h3⟩, hs.sub (by repeat (first | exact Sub.refl _ | constructor | apply Sub.weaken))⟩
    · rintro fr w ⟨vo, en, H3, L, rfl, hle3, hO, hLk, hRise, hs⟩
      obtain ⟨ao, lo, co, rfl, hlo⟩ := hO.shape
      refine nT ?_
      refine .regSeq (.z zm (.z zg (.z zg (.nil ?_))))
      refine .ret (Fin.ret2 Tryz.results48 rfl rfl ?_)
      obtain ⟨H4, hle4, hR4, hs⟩ := OwnS.publishI hO (by omega) hs .here
      exact ⟨H4, _, L, 0, hle1.trans (hle3.trans hle4), rfl, hR4, .ok hok hsd hRise, hs.out⟩
set_option maxHeartbeats 4000000 in
theorem law_BoundMoves_walk {H : Heap} {w : World} {σ : List Ent} {v vw vb : Value} {s : Syst} {ws bs : List Int} (hs : St H w σ) (hr : RSy H v s) (hw : RI H vw ws) (hb : RI H vb bs) :
    Cl Tryz.prog 9 [v, vw, vb] w fun v w' => v = .bool true ∧ ∃ H', HLe H H' ∧ St H' w' σ := by
  obtain ⟨ul, rfl, hl⟩ := hr
  obtain ⟨al, cl, rfl⟩ := RL.shape hl
  obtain ⟨aw, cw, rfl⟩ := RI.shape hw
  obtain ⟨ab, cb, rfl⟩ := RI.shape hb
  refine Cl.of Tryz.func9 rfl Tryz.ntmps9 (by simp) (args_cons (k := 0) rfl (args_cons (k := 1) rfl (args_cons (k := 2) rfl (args0)))) ?_
  refine .regSeq ?_
  refine .o (.box hs rfl rfl ?_); intro b3 w hs
  refine .z zg (.nil (.regSeq (.y hs (zls [_, _] Tryz.isAgg24 Tryz.sizeOf24) (.z zm ?_))))
  refine .o (.call Tryz.call43 rfl (bound_Moves_spec (s := s) hs ⟨_, rfl, hl⟩ hw) ?_); rintro _ w ⟨H1, v7, L1, e1, hle1, rfl, r1, R1, hs⟩
  refine .z zm (.z zex (.z zex (.z zg (.z zg (.nil (.regSeq (.y hs (zls [_, _] Tryz.isAgg24 Tryz.sizeOf24) (.z zm ?_))))))))
  refine .o (.call Tryz.call44 rfl (ref02_Moves_spec (s := s) hs ⟨_, rfl, hl.mono hle1⟩ (hw.mono hle1)) ?_); rintro _ w ⟨H2, v9, L2, e2, hle2, rfl, r2, R2, hs⟩
  obtain ⟨rfl, rfl⟩ := R1.uniq R2
  have hle12 := hle1.trans hle2
  refine .z zm (.z zex (.z zex (.z zg (.z zg (.nil (.regSeq (.y hs (zls [_, _] Tryz.isAgg24 Tryz.sizeOf24) ?_)))))))
  refine .o (.call Tryz.call45 rfl (bound_Conflict_spec (s := s) hs ⟨_, rfl, hl.mono hle12⟩) ?_); rintro _ w ⟨H3, v11, L3, e3, hle3, rfl, r3, R3, hs⟩
  have hle13 := hle12.trans hle3
  refine .z zm (.z zex (.z zex (.z zg (.z zg (.nil (.regSeq (.y hs (zls [_, _] Tryz.isAgg24 Tryz.sizeOf24) ?_)))))))
  refine .o (.call Tryz.call46 rfl (ref02_Conflict_spec (s := s) hs ⟨_, rfl, hl.mono hle13⟩) ?_); rintro _ w ⟨H4, v13, L4, e4, hle4, rfl, r4, R4, hs⟩
  obtain ⟨rfl, rfl⟩ := R3.uniq R4
  have hle14 := hle13.trans hle4
  refine .z zm (.z zex (.z zex (.z zg (.z zg (.nil (.regSeq (.y hs (zls [_, _] Tryz.isAgg24 Tryz.sizeOf24) ?_)))))))
  refine .o (.call Tryz.call47 rfl (bound_Idle_spec (s := s) hs ⟨_, rfl, hl.mono hle14⟩) ?_); rintro _ w ⟨H5, v15, L5, e5, hle5, rfl, r5, R5, hs⟩
  have hle15 := hle14.trans hle5
  refine .z zm (.z zex (.z zex (.z zg (.z zg (.nil (.regSeq (.y hs (zls [_, _] Tryz.isAgg24 Tryz.sizeOf24) ?_)))))))
  refine .o (.call Tryz.call48 rfl (ref02_Idle_spec (s := s) hs ⟨_, rfl, hl.mono hle15⟩) ?_); rintro _ w ⟨H6, v17, L6, e6, hle6, rfl, r6, R6, hs⟩
  obtain ⟨rfl, rfl⟩ := R5.uniq R6
  have hle16 := hle15.trans hle6
  refine .z zm (.z zex (.z zex (.z zg (.z zg (.nil ?_)))))
  refine .seq (.draw mix rfl hs ?_); intro w hs
  refine .z 0 rfl zm ?_; refine .z 1 rfl zm ?_
  refine .e1 (i := 2) (by kernel_rfl) rfl rfl .none hs ?_
  refine .call Tryz.call20 rfl (ref02_Same_spec hs (r1.mono (hle2.trans (hle3.trans (hle4.trans (hle5.trans hle6))))) (r2.mono (hle3.trans (hle4.trans (hle5.trans hle6))))) ?_; rintro _ w ⟨rfl, hs⟩
  rw [decide_eq_true (rfl : L1 = L1)]
  refine .go ?_
  refine .z 3 rfl zm ?_
  refine .bif (t' := 54) rfl (fun hb54 => ?_) (fun hb54 => ?_)
  · refine .z 4 rfl zm ?_; refine .z 5 rfl zm ?_; refine .z 6 rfl zeql ?_; refine .z 7 rfl zpT ?_; refine .z 8 rfl zm ?_
    refine .bifD (t' := 59) rfl (fun hb59 => ?_) (fun hb59 => ?_)
    · refine .z 9 rfl zm ?_; refine .z 10 rfl zm ?_
      refine .e1 (i := 11) (by kernel_rfl) rfl rfl (.some rfl rfl) hs ?_
      refine .call Tryz.call20 rfl (ref02_Same_spec hs (r3.mono (hle4.trans (hle5.trans hle6))) (r4.mono (hle5.trans hle6))) ?_; rintro _ w ⟨rfl, hs⟩
      rw [decide_eq_true (rfl : L3 = L3)]
      refine .go ?_
      refine .z 12 rfl zpT ?_; refine .z 13 rfl zm ?_
      refine .bif (t' := 64) rfl (fun hb64 => ?_) (fun hb64 => ?_)
      · refine .z 14 rfl zm ?_; refine .z 15 rfl zm ?_; refine .z 16 rfl zeql ?_; refine .z 17 rfl zpT ?_; refine .z 18 rfl zm ?_
        refine .bifD (t' := 69) rfl (fun hb69 => ?_) (fun hb69 => ?_)
        · refine .z 19 rfl zm ?_; refine .z 20 rfl zm ?_
          refine .e1 (i := 21) (by kernel_rfl) rfl rfl (.some rfl rfl) hs ?_
          refine .call Tryz.call20 rfl (ref02_Same_spec hs (r5.mono hle6) r6) ?_; rintro _ w ⟨rfl, hs⟩
          rw [decide_eq_true (rfl : L5 = L5)]
          refine .go ?_
          refine .z 22 rfl zpT ?_; refine .z 23 rfl zm ?_
          refine .bif (t' := 74) rfl (fun hb74 => ?_) (fun hb74 => ?_)
          · refine .z 24 rfl zm ?_; refine .z 25 rfl zm ?_; refine .z 26 rfl zeql ?_; refine .z 27 rfl zpT ?_; refine .z 28 rfl zm ?_
            refine .bifD (t' := 79) rfl (fun hb79 => ?_) (fun hb79 => ?_)
            · refine .ys 29 rfl hs [_, _] Tryz.isAgg24 Tryz.sizeOf24 ?_; refine .z 30 rfl zm ?_; refine .ys 32 rfl hs [_, _] Tryz.isAgg24 Tryz.sizeOf24 ?_; refine .z 33 rfl zm ?_
              refine .e1 (i := 31) (by kernel_rfl) rfl rfl (.some rfl rfl) hs ?_
              refine .call Tryz.call49 rfl (bound_CheckConflict_spec (s := s) hs ⟨_, rfl, hl.mono hle16⟩ (hb.mono hle16)) ?_; rintro _ w ⟨H7, e7, hle7, rfl, R7, hs⟩
              have hle17 := hle16.trans hle7
              refine .go ?_
              refine .e1 (i := 34) (by kernel_rfl) rfl rfl (.some rfl rfl) hs ?_
              refine .call Tryz.call50 rfl (ref02_CheckConflict_spec (s := s) hs ⟨_, rfl, hl.mono hle17⟩ (hb.mono hle17)) ?_; rintro _ w ⟨H8, e8, hle8, rfl, R8, hs⟩
              obtain rfl := R7.uniq R8
              refine .go ?_
              refine .z 35 rfl zeql ?_; refine .z 36 rfl zpT ?_; refine .z 37 rfl zm ?_
              refine .bifD (t' := 88) rfl (fun hb88 => ?_) (fun hb88 => ?_)
              · refine .e1 (i := 38) (by kernel_rfl) rfl rfl (.some rfl rfl) hs ?_
                refine .call Tryz.call51 rfl (law02_sane_spec hs) ?_; rintro _ w ⟨rfl, H9, hle9, hs⟩
                refine .go ?_
                refine .z 39 rfl zpT ?_; refine .z 40 rfl zg ?_; refine .done (by kernel_rfl) hs ?_
                refine .ret (Fin.ret1 Tryz.results9 rfl ?_)
                first | exact ⟨rfl, H9, hle17.trans (hle8.trans hle9), hs.out⟩ | contradiction | (exfalso; simp_all; done)
              · refine .qF (i := 38) rfl (by kernel_rfl) rfl rfl ?_
                refine .z 39 rfl zpF ?_; refine .z 40 rfl zg ?_; refine .done (by kernel_rfl) hs ?_
                refine .ret (Fin.ret1 Tryz.results9 rfl ?_)
                first | exact ⟨rfl, H9, hle17.trans (hle8.trans hle9), hs.out⟩ | contradiction | (exfalso; simp_all; done)
            · refine .qF (i := 29) rfl (by kernel_rfl) rfl rfl ?_
              refine .qF (i := 30) rfl (by kernel_rfl) rfl rfl ?_
              refine .qF (i := 31) rfl (by kernel_rfl) rfl rfl ?_
              refine .qF (i := 32) rfl (by kernel_rfl) rfl rfl ?_
              refine .qF (i := 33) rfl (by kernel_rfl) rfl rfl ?_
              refine .qF (i := 34) rfl (by kernel_rfl) rfl rfl ?_
              refine .qF (i := 35) rfl (by kernel_rfl) rfl rfl ?_
              refine .z 36 rfl zpF ?_; refine .z 37 rfl zm ?_
              refine .qF (i := 38) rfl (by kernel_rfl) rfl rfl ?_
              refine .z 39 rfl zpF ?_; refine .z 40 rfl zg ?_; refine .done (by kernel_rfl) hs ?_
              refine .ret (Fin.ret1 Tryz.results9 rfl ?_)
              first | exact ⟨rfl, H9, hle17.trans (hle8.trans hle9), hs.out⟩ | contradiction | (exfalso; simp_all; done)
          · refine .qF (i := 24) rfl (by kernel_rfl) rfl rfl ?_
            refine .qF (i := 25) rfl (by kernel_rfl) rfl rfl ?_
            refine .qF (i := 26) rfl (by kernel_rfl) rfl rfl ?_
            refine .z 27 rfl zpF ?_; refine .z 28 rfl zm ?_
            refine .qF (i := 29) rfl (by kernel_rfl) rfl rfl ?_
            refine .qF (i := 30) rfl (by kernel_rfl) rfl rfl ?_
            refine .qF (i := 31) rfl (by kernel_rfl) rfl rfl ?_
            refine .qF (i := 32) rfl (by kernel_rfl) rfl rfl ?_
            refine .qF (i := 33) rfl (by kernel_rfl) rfl rfl ?_
            refine .qF (i := 34) rfl (by kernel_rfl) rfl rfl ?_
            refine .qF (i := 35) rfl (by kernel_rfl) rfl rfl ?_
            refine .z 36 rfl zpF ?_; refine .z 37 rfl zm ?_
            refine .qF (i := 38) rfl (by kernel_rfl) rfl rfl ?_
            refine .z 39 rfl zpF ?_; refine .z 40 rfl zg ?_; refine .done (by kernel_rfl) hs ?_
            refine .ret (Fin.ret1 Tryz.results9 rfl ?_)
            first | exact ⟨rfl, H9, hle17.trans (hle8.trans hle9), hs.out⟩ | contradiction | (exfalso; simp_all; done)
        · refine .qF (i := 19) rfl (by kernel_rfl) rfl rfl ?_
          refine .qF (i := 20) rfl (by kernel_rfl) rfl rfl ?_
          refine .qF (i := 21) rfl (by kernel_rfl) rfl rfl ?_
          refine .z 22 rfl zpF ?_; refine .z 23 rfl zm ?_
          refine .qF (i := 24) rfl (by kernel_rfl) rfl rfl ?_
          refine .qF (i := 25) rfl (by kernel_rfl) rfl rfl ?_
          refine .qF (i := 26) rfl (by kernel_rfl) rfl rfl ?_
          refine .z 27 rfl zpF ?_; refine .z 28 rfl zm ?_
          refine .qF (i := 29) rfl (by kernel_rfl) rfl rfl ?_
          refine .qF (i := 30) rfl (by kernel_rfl) rfl rfl ?_
          refine .qF (i := 31) rfl (by kernel_rfl) rfl rfl ?_
          refine .qF (i := 32) rfl (by kernel_rfl) rfl rfl ?_
          refine .qF (i := 33) rfl (by kernel_rfl) rfl rfl ?_
          refine .qF (i := 34) rfl (by kernel_rfl) rfl rfl ?_
          refine .qF (i := 35) rfl (by kernel_rfl) rfl rfl ?_
          refine .z 36 rfl zpF ?_; refine .z 37 rfl zm ?_
          refine .qF (i := 38) rfl (by kernel_rfl) rfl rfl ?_
          refine .z 39 rfl zpF ?_; refine .z 40 rfl zg ?_; refine .done (by kernel_rfl) hs ?_
          refine .ret (Fin.ret1 Tryz.results9 rfl ?_)
          first | exact ⟨rfl, H9, hle17.trans (hle8.trans hle9), hs.out⟩ | contradiction | (exfalso; simp_all; done)
      · refine .qF (i := 14) rfl (by kernel_rfl) rfl rfl ?_
        refine .qF (i := 15) rfl (by kernel_rfl) rfl rfl ?_
        refine .qF (i := 16) rfl (by kernel_rfl) rfl rfl ?_
        refine .z 17 rfl zpF ?_; refine .z 18 rfl zm ?_
        refine .qF (i := 19) rfl (by kernel_rfl) rfl rfl ?_
        refine .qF (i := 20) rfl (by kernel_rfl) rfl rfl ?_
        refine .qF (i := 21) rfl (by kernel_rfl) rfl rfl ?_
        refine .z 22 rfl zpF ?_; refine .z 23 rfl zm ?_
        refine .qF (i := 24) rfl (by kernel_rfl) rfl rfl ?_
        refine .qF (i := 25) rfl (by kernel_rfl) rfl rfl ?_
        refine .qF (i := 26) rfl (by kernel_rfl) rfl rfl ?_
        refine .z 27 rfl zpF ?_; refine .z 28 rfl zm ?_
        refine .qF (i := 29) rfl (by kernel_rfl) rfl rfl ?_
        refine .qF (i := 30) rfl (by kernel_rfl) rfl rfl ?_
        refine .qF (i := 31) rfl (by kernel_rfl) rfl rfl ?_
        refine .qF (i := 32) rfl (by kernel_rfl) rfl rfl ?_
        refine .qF (i := 33) rfl (by kernel_rfl) rfl rfl ?_
        refine .qF (i := 34) rfl (by kernel_rfl) rfl rfl ?_
        refine .qF (i := 35) rfl (by kernel_rfl) rfl rfl ?_
        refine .z 36 rfl zpF ?_; refine .z 37 rfl zm ?_
        refine .qF (i := 38) rfl (by kernel_rfl) rfl rfl ?_
        refine .z 39 rfl zpF ?_; refine .z 40 rfl zg ?_; refine .done (by kernel_rfl) hs ?_
        refine .ret (Fin.ret1 Tryz.results9 rfl ?_)
        first | exact ⟨rfl, H9, hle17.trans (hle8.trans hle9), hs.out⟩ | contradiction | (exfalso; simp_all; done)
    · refine .qF (i := 9) rfl (by kernel_rfl) rfl rfl ?_
      refine .qF (i := 10) rfl (by kernel_rfl) rfl rfl ?_
      refine .qF (i := 11) rfl (by kernel_rfl) rfl rfl ?_
      refine .z 12 rfl zpF ?_; refine .z 13 rfl zm ?_
      refine .qF (i := 14) rfl (by kernel_rfl) rfl rfl ?_
      refine .qF (i := 15) rfl (by kernel_rfl) rfl rfl ?_
      refine .qF (i := 16) rfl (by kernel_rfl) rfl rfl ?_
      refine .z 17 rfl zpF ?_; refine .z 18 rfl zm ?_
      refine .qF (i := 19) rfl (by kernel_rfl) rfl rfl ?_
      refine .qF (i := 20) rfl (by kernel_rfl) rfl rfl ?_
      refine .qF (i := 21) rfl (by kernel_rfl) rfl rfl ?_
      refine .z 22 rfl zpF ?_; refine .z 23 rfl zm ?_
      refine .qF (i := 24) rfl (by kernel_rfl) rfl rfl ?_
      refine .qF (i := 25) rfl (by kernel_rfl) rfl rfl ?_
      refine .qF (i := 26) rfl (by kernel_rfl) rfl rfl ?_
      refine .z 27 rfl zpF ?_; refine .z 28 rfl zm ?_
      refine .qF (i := 29) rfl (by kernel_rfl) rfl rfl ?_
      refine .qF (i := 30) rfl (by kernel_rfl) rfl rfl ?_
      refine .qF (i := 31) rfl (by kernel_rfl) rfl rfl ?_
      refine .qF (i := 32) rfl (by kernel_rfl) rfl rfl ?_
      refine .qF (i := 33) rfl (by kernel_rfl) rfl rfl ?_
      refine .qF (i := 34) rfl (by kernel_rfl) rfl rfl ?_
      refine .qF (i := 35) rfl (by kernel_rfl) rfl rfl ?_
      refine .z 36 rfl zpF ?_; refine .z 37 rfl zm ?_
      refine .qF (i := 38) rfl (by kernel_rfl) rfl rfl ?_
      refine .z 39 rfl zpF ?_; refine .z 40 rfl zg ?_; refine .done (by kernel_rfl) hs ?_
      refine .ret (Fin.ret1 Tryz.results9 rfl ?_)
      first | exact ⟨rfl, H9, hle17.trans (hle8.trans hle9), hs.out⟩ | contradiction | (exfalso; simp_all; done)
  · refine .qF (i := 4) rfl (by kernel_rfl) rfl rfl ?_
    refine .qF (i := 5) rfl (by kernel_rfl) rfl rfl ?_
    refine .qF (i := 6) rfl (by kernel_rfl) rfl rfl ?_
    refine .z 7 rfl zpF ?_; refine .z 8 rfl zm ?_
    refine .qF (i := 9) rfl (by kernel_rfl) rfl rfl ?_
    refine .qF (i := 10) rfl (by kernel_rfl) rfl rfl ?_
    refine .qF (i := 11) rfl (by kernel_rfl) rfl rfl ?_
    refine .z 12 rfl zpF ?_; refine .z 13 rfl zm ?_
    refine .qF (i := 14) rfl (by kernel_rfl) rfl rfl ?_
    refine .qF (i := 15) rfl (by kernel_rfl) rfl rfl ?_
    refine .qF (i := 16) rfl (by kernel_rfl) rfl rfl ?_
    refine .z 17 rfl zpF ?_; refine .z 18 rfl zm ?_
    refine .qF (i := 19) rfl (by kernel_rfl) rfl rfl ?_
    refine .qF (i := 20) rfl (by kernel_rfl) rfl rfl ?_
    refine .qF (i := 21) rfl (by kernel_rfl) rfl rfl ?_
    refine .z 22 rfl zpF ?_; refine .z 23 rfl zm ?_
    refine .qF (i := 24) rfl (by kernel_rfl) rfl rfl ?_
    refine .qF (i := 25) rfl (by kernel_rfl) rfl rfl ?_
    refine .qF (i := 26) rfl (by kernel_rfl) rfl rfl ?_
    refine .z 27 rfl zpF ?_; refine .z 28 rfl zm ?_
    refine .qF (i := 29) rfl (by kernel_rfl) rfl rfl ?_
    refine .qF (i := 30) rfl (by kernel_rfl) rfl rfl ?_
    refine .qF (i := 31) rfl (by kernel_rfl) rfl rfl ?_
    refine .qF (i := 32) rfl (by kernel_rfl) rfl rfl ?_
    refine .qF (i := 33) rfl (by kernel_rfl) rfl rfl ?_
    refine .qF (i := 34) rfl (by kernel_rfl) rfl rfl ?_
    refine .qF (i := 35) rfl (by kernel_rfl) rfl rfl ?_
    refine .z 36 rfl zpF ?_; refine .z 37 rfl zm ?_
    refine .qF (i := 38) rfl (by kernel_rfl) rfl rfl ?_
    refine .z 39 rfl zpF ?_; refine .z 40 rfl zg ?_; refine .done (by kernel_rfl) hs ?_
    refine .ret (Fin.ret1 Tryz.results9 rfl ?_)
    first | exact ⟨rfl, H9, hle17.trans (hle8.trans hle9), hs.out⟩ | contradiction | (exfalso; simp_all; done)
end Go.Proofs.YtiiokdeehlfeeaaGreat
