/-
  Texts of these claims, joined: Xj Xk Xl Wq Wr Xm.
-/
import Derived.Test.YtiiokdeehlfeeaaQd
namespace Go.Proofs.Ytiiokdeehlfeeaa
open Go.MW
theorem ref02_keeps_spec {H : Heap} {w : World} {σ : List Ent} {v vx : Value} {s : Syst} {x : List Int} (hs : St H w σ) (hr : RSy H v s) (hx : RI H vx x) (hok : s.Ok) :
    Cl Try.prog 134 [v, vx] w fun u w' => ∃ b, u = .bool b ∧ (b = true ↔ KeepsP s x) ∧ St H w' σ := by
  obtain ⟨ul, rfl, hl⟩ := hr
  obtain ⟨al, cl, rfl⟩ := RL.shape hl
  obtain ⟨ax, cx, rfl⟩ := RI.shape hx
  have hm0 := hok.m0
  have hm1 := hok.m1
  have hll := hok.len
  have hlx := (RI.len hx).2.2
  have hnn : (s.n : Int) = s.many + 1 := by simp only [Syst.n]; omega
  refine Cl.of Try.func134 rfl Try.ntmps134 (by simp) (args_cons (k := 0) rfl (args_cons (k := 1) rfl (args0))) ?_
  refine .regSeq ?_
  refine .o (.box hs rfl rfl ?_); intro b2 w hs
  refine .z zg (.nil (.seq (.regSeq (.z zm (.z (zlen Try.runUnderlying22) (.z (zfa fa_api_System_0) (.y hs (zld Try.isAgg3) (.z zadd (.z zneq ?_)))))))))
  refine .z zm ?_
  refine .bifN (t' := 15) rfl (fun hb15 => ?_) (fun hb15 => ?_)
  · refine .gFs 4 6 false rfl rfl rfl ?_
    refine .z zpT (.nil ?_)
    refine (.condT rfl rfl ?_)
    refine .regSeq (.z zg (.nil ?_))
    refine .ret (rT (Fin.ret1 Try.results134 rfl ?_))
    exact ⟨false, rfl, ⟨fun h => (by cases h), fun h => by
      have h8 := h.len
      have h9 := h.zero
      exfalso
      first | (have h7 := hb15; simp at h7; omega) | (simp_all; done)⟩, hs.out⟩
  · refine .gT rfl rfl ?_
    refine .z zm ?_
    refine .gT rfl rfl ?_
    refine .ixX (enc := fun x => [I x]) hs hx rfl rfl Try.runUnderlying22 Try.sizeOf3 (gi_get (l := x) (i := 0) (by omega)) rfl ?_; intro b17 o17 hc17; replace hc17 := CellsAt.one hc17
    refine .gT rfl rfl ?_
    refine .q hs (q_loadR rfl Try.isAgg3 hc17) ?_
    refine .gT rfl rfl ?_
    refine .z zneq (.z zpF (.nil ?_))
    refine (.condN rfl (fun hc20 => ?_) (fun hc20 => ?_))
    · refine .regSeq (.z zg (.nil ?_))
      refine .ret (rT (Fin.ret1 Try.results134 rfl ?_))
      exact ⟨false, rfl, ⟨fun h => (by cases h), fun h => by
        have h8 := h.len
        have h9 := h.zero
        exfalso
        first | (have h7 := hb15; simp at h7; omega) | (simp_all; done)⟩, hs.out⟩
    · refine .skip ?_
      refine nT ?_
      refine .seq (.regSeq (.z zm (.z (zlen Try.runUnderlying22) (.z zm (.nil ?_)))))
      refine .for (N := x.length) (J := fun k fr w => fr = [(21, .slice ax x.length cx), (1, .slice ax x.length cx), (2, .pointer (some ⟨b2, 0, none⟩))] ∧ (∀ i < k, -1000000000 ≤ gi x i ∧ gi x i ≤ 1000000000) ∧ St H w (.blk b2 [I s.many, .slice al s.lims.length cl] :: σ)) (by omega) ?_ ?_ ?_
      · exact .mk ⟨rfl, fun i hi => by omega, hs⟩
      · rintro k fr w hk ⟨rfl, h0, hs⟩
        refine .block (.regSeq ?_)
        refine .ixX (enc := fun x => [I x]) hs hx rfl rfl Try.runUnderlying22 Try.sizeOf3 (gi_get hk) rfl ?_; intro b25 o25 hc25; replace hc25 := CellsAt.one hc25
        refine .q hs (q_loadR rfl Try.isAgg3 hc25) ?_
        refine .z zg (.nil (.regSeq (.z zm ?_)))
        refine .o (.call Try.call111 rfl (ref02_within_spec hs) ?_); rintro _ w ⟨rfl, hs⟩
        refine .z znot (.nil ?_)
        refine (.cond rfl (fun hc29 => ?_) (fun hc29 => ?_))
        · refine .regSeq (.z zg (.nil ?_))
          refine .ret (rB (rT (rB (rT (Fin.ret1 Try.results134 rfl ?_)))))
          exact ⟨false, rfl, ⟨fun h => (by cases h), fun h => by
            have h8 := h.free k (by have := h.len; omega)
            exfalso
            have h7 := hc29
            rw [decide_eq_true h8] at h7
            simp at h7⟩, hs.out⟩
        · refine .skip ?_
          refine nB (nT ?_)
          exact .mk ⟨rfl, fun i hi => by
            by_cases e : i = k
            · subst e; exact of_decide_eq_true (by simpa using hc29)
            · exact h0 i (by omega), hs⟩
      · rintro fr w ⟨rfl, h0, hs⟩
        refine nT ?_
        refine .seq (.regSeq (.z (zfa fa_api_System_1) (.y hs (zld Try.isAgg30) (.z (zlen Try.runUnderlying30) (.z zm (.nil ?_))))))
        refine .for (N := s.lims.length) (J := fun k fr w => fr = [(32, .slice al s.lims.length cl), (1, .slice ax x.length cx)] ∧ (∀ i < k, ∀ y, s.lims[i]? = some y → gi x y.B.toNat ≤ gi x y.A.toNat + y.M) ∧ St H w (.blk b2 [I s.many, .slice al s.lims.length cl] :: σ)) (by omega) ?_ ?_ ?_
        · exact .mk ⟨rfl, fun i hi => by omega, hs⟩
        · rintro k fr w hk ⟨rfl, h1, hs⟩
          obtain ⟨y, hy⟩ := nth hk
          obtain ⟨⟨y1, y2⟩, ⟨y3, y4⟩, y5, y6, -⟩ := hok.lim y (List.mem_of_getElem? hy)
          have z1 := h0 y.B.toNat (by omega)
          have z2 := h0 y.A.toNat (by omega)
          refine .block (.regSeq ?_)
          refine .ixX (enc := Lim.c) hs hl rfl rfl Try.runUnderlying30 Try.sizeOf100 hy rfl ?_; intro b36 o36 hc36
          refine .q hs (q_loadsR (vs := y.c) rfl Try.isAgg100 Try.sizeOf100 hc36) ?_
          refine .o (.alloc hs Try.zeroValue100 rfl ?_); intro b8 w hs
          refine .o (.stores (vs := y.c) hs rfl rfl Try.sizeOf100 ?_); intro w hs
          refine .nil ?_
          refine .seq (.draw mix rfl hs ?_); intro w hs
          refine .z 0 rfl zm ?_; refine .z 1 rfl (zfa fa_api_Limit_1) ?_; refine .y 2 rfl hs Try.isAgg3 ?_
          refine .ixX (enc := fun x => [I x]) (i := 3) hs rfl (by kernel_rfl) .none hx rfl rfl Try.runUnderlying22 Try.sizeOf3 (gi_get (l := x) (i := y.B.toNat) (by omega)) (by omega) ?_; intro b41 o41 hc41; replace hc41 := CellsAt.one hc41
          refine .r (i := 4) hs rfl (by kernel_rfl) .none (q_loadR rfl Try.isAgg3 hc41) ?_
          refine .z 5 rfl zm ?_; refine .z 6 rfl (zfa fa_api_Limit_0) ?_; refine .y 7 rfl hs Try.isAgg3 ?_
          refine .ixX (enc := fun x => [I x]) (i := 8) hs rfl (by kernel_rfl) .none hx rfl rfl Try.runUnderlying22 Try.sizeOf3 (gi_get (l := x) (i := y.A.toNat) (by omega)) (by omega) ?_; intro b46 o46 hc46; replace hc46 := CellsAt.one hc46
          refine .r (i := 9) hs rfl (by kernel_rfl) .none (q_loadR rfl Try.isAgg3 hc46) ?_
          refine .z 10 rfl zsub ?_; refine .z 11 rfl (zfa fa_api_Limit_2) ?_; refine .y 12 rfl hs Try.isAgg3 ?_; refine .z 13 rfl zgtr ?_; refine .done (by kernel_rfl) hs ?_
          refine (.condD rfl (fun hc51 => ?_) (fun hc51 => ?_))
          · refine .regSeq (.z zg (.nil ?_))
            refine .ret (rB (rT (rB (rT (Fin.ret1 Try.results134 rfl ?_)))))
            exact ⟨false, rfl, ⟨fun h => (by cases h), fun h => by
              have h8 := feas_iff.1 h.feas y (List.mem_of_getElem? hy)
              exfalso; omega⟩, hs.out⟩
          · refine .skip ?_
            refine nB (nT ?_)
            exact .mk ⟨rfl, fun i hi z hz => by
              by_cases e : i = k
              · subst e; rw [hy] at hz; cases hz; omega
              · exact h1 i (by omega) z hz, hs.out⟩
        · rintro fr w ⟨rfl, h1, hs⟩
          refine nT ?_
          refine .regSeq (.z zg (.nil ?_))
          refine .ret (Fin.ret1 Try.results134 rfl ?_)
          exact ⟨true, rfl, ⟨fun _ => ⟨by omega, by first | omega | (simp_all; done), fun v hv => h0 v (by omega), feas_iff.2 fun y hy => by
            obtain ⟨i, hi⟩ := List.getElem?_of_mem hy
            exact h1 i (List.getElem?_eq_some_iff.1 hi).1 y hi⟩, fun _ => rfl⟩, hs.out⟩
inductive CPtR (s : Syst) (x : List Int) : Int → Prop
  | bad (h : s.check ≠ 0) : CPtR s x s.check
  | off (h : s.Ok) (h1 : ¬ KeepsP s x) : CPtR s x 25
  | ok (h : s.Ok) (h1 : KeepsP s x) : CPtR s x 0
theorem CPtR.uniq {s : Syst} {x : List Int} {e f : Int} (h : CPtR s x e) (g : CPtR s x f) : e = f := by
  cases h with
  | bad h =>
    cases g with
    | bad => rfl
    | off g _ => exact (h (s.ok_iff.2 g)).elim
    | ok g _ => exact (h (s.ok_iff.2 g)).elim
  | off h h1 =>
    cases g with
    | bad g => exact (g (s.ok_iff.2 h)).elim
    | off => rfl
    | ok _ g1 => exact (h1 g1).elim
  | ok h h1 =>
    cases g with
    | bad g => exact (g (s.ok_iff.2 h)).elim
    | off _ g1 => exact (g1 h1).elim
    | ok => rfl
theorem ref02_CheckPoint_spec {H : Heap} {w : World} {σ : List Ent} {v vx : Value} {s : Syst} {x : List Int} (hs : St H w σ) (hr : RSy H v s) (hx : RI H vx x) :
    Cl Try.prog 49 [v, vx] w fun u w' => ∃ e, u = I e ∧ CPtR s x e ∧ St H w' σ := by
  obtain ⟨ul, rfl, hl⟩ := hr
  obtain ⟨al, cl, rfl⟩ := RL.shape hl
  obtain ⟨ax, cx, rfl⟩ := RI.shape hx
  refine Cl.of Try.func49 rfl Try.ntmps49 (by simp) (args_cons (k := 0) rfl (args_cons (k := 1) rfl (args0))) ?_
  refine .regSeq ?_
  refine .o (.box hs rfl rfl ?_); intro b2 w hs
  refine .z zg (.nil (.regSeq (.y hs (zls [_, _] Try.isAgg32 Try.sizeOf32) ?_)))
  refine .o (.call Try.call73 rfl (ref02_Check_spec (s := s) hs ⟨_, rfl, hl⟩) ?_); rintro _ w ⟨rfl, hs⟩
  refine .z zg (.nil (.seq (.regSeq (.z zm (.z zneq (.nil ?_))))))
  refine (.condN rfl (fun hc9 => ?_) (fun hc9 => ?_))
  · refine .regSeq (.z zm (.z zg (.nil ?_)))
    refine .ret (rT (Fin.ret1 Try.results49 rfl ?_))
    exact ⟨_, rfl, .bad hc9, hs.out⟩
  · refine .skip ?_
    refine nT ?_
    refine .seq (.regSeq (.y hs (zls [_, _] Try.isAgg32 Try.sizeOf32) (.z zm ?_)))
    have hok : s.Ok := s.ok_iff.1 (by simpa using hc9)
    refine .o (.call Try.call134 rfl (ref02_keeps_spec (s := s) hs ⟨_, rfl, hl⟩ hx hok) ?_); rintro _ w ⟨b, rfl, hb, hs⟩
    refine .z znot (.nil ?_)
    refine (.cond rfl (fun hc14 => ?_) (fun hc14 => ?_))
    · refine .regSeq (.z zg (.nil ?_))
      refine .ret (rT (Fin.ret1 Try.results49 rfl ?_))
      exact ⟨_, rfl, .off hok (fun h => by simp [hb.2 h] at hc14), hs.out⟩
    · refine .skip ?_
      refine nT ?_
      refine .regSeq (.z zg (.nil ?_))
      refine .ret (Fin.ret1 Try.results49 rfl ?_)
      exact ⟨_, rfl, .ok hok (hb.1 (by simpa using hc14)), hs.out⟩
end Go.Proofs.Ytiiokdeehlfeeaa

namespace Go.Proofs.Ytiiokdeehlfeeaa
open Go.MW
set_option maxHeartbeats 4000000 in
theorem ref02_Point_spec {H : Heap} {w : World} {σ : List Ent} {v vp : Value} {s : Syst} {picks : List Int} (hs : St H w σ) (hr : RSy H v s) (hp : RI H vp picks) :
    Cl Try.prog 80 [v, vp] w fun u w' => ∃ H1 vx x e, HLe H H1 ∧ u = .tuple #[vx, I e] ∧ RI H1 vx x ∧ PointR s picks x e ∧ St H1 w' σ := by
  obtain ⟨ul, rfl, hl⟩ := hr
  obtain ⟨al, cl, rfl⟩ := RL.shape hl
  obtain ⟨ap, cp, rfl⟩ := RI.shape hp
  refine Cl.of Try.func80 rfl Try.ntmps80 (by simp) (args_cons (k := 0) rfl (args_cons (k := 1) rfl (args0))) ?_
  refine .regSeq ?_
  refine .o (.box hs rfl rfl ?_); intro b2 w hs
  refine .z zg (.z zg (.nil (.regSeq (.y hs (zls [_, _] Try.isAgg32 Try.sizeOf32) ?_))))
  refine .o (.call Try.call79 rfl (ref02_Close_spec (s := s) hs ⟨_, rfl, hl⟩) ?_); rintro _ w ⟨H1, vt, e, hle1, rfl, hcase, hs⟩
  refine .z zm (.z zex (.z zex (.z zg (.z zg (.nil (.seq (.regSeq (.z zm (.z zneq ?_)))))))))
  refine .nil ?_
  refine (.condN rfl (fun hc20 => ?_) (fun hc20 => ?_))
  · refine .regSeq (.z zm (.z zg (.z zg (.nil ?_))))
    refine .ret (rT (Fin.ret2 Try.results80 rfl rfl ?_))
    rcases hcase with ⟨h1, rfl, rfl⟩ | ⟨h1, h2, rfl, rfl⟩ | ⟨_, _, rfl, _⟩
    · exact ⟨H1, _, [], _, hle1, rfl, RS.nil H1 1 none 0, .bad h1, hs.out⟩
    · exact ⟨H1, _, [], _, hle1, rfl, RS.nil H1 1 none 0, .clash h1 h2, hs.out⟩
    · exact (hc20 rfl).elim
  · refine .skip ?_
    refine nT ?_
    refine .regSeq ?_
    subst hc20
    obtain ⟨hok, hsd, rs, hRT, hSq, hWT⟩ : s.Ok ∧ s.Sound ∧ ∃ rs, RT H1 vt rs ∧ Sq s.n rs ∧ WaysT s.n s.arcs (gt rs) := by
      rcases hcase with ⟨h1, h2, _⟩ | ⟨_, _, h2, _⟩ | ⟨h1, h2, _, h3⟩
      · exact (h1 h2.symm).elim
      · omega
      · exact ⟨h1, h2, h3⟩
    obtain ⟨at', ct, rfl⟩ := hRT.shape
    have hTS := hok.tabS hsd hWT
    have hrl := hSq.1
    have hm0 := hok.m0
    have hm1 := hok.m1
    have hnn : (s.n : Int) = s.many + 1 := by simp only [Syst.n]; omega
    refine .o (.buildSlice (cells := [_]) hs bls_sl_int_1 rfl rfl ?_); intro b22 w hs
    refine .z zg (.nil (.seq (.regSeq (.z zg (.nil (.block ?_))))))
    refine .loop (fun p : List Int × Value => ⟨109, [], [(9, I (p.1.length : Int)), (8, p.2), (6, .slice at' rs.length ct), (2, .pointer (some ⟨b2, 0, none⟩)), (1, .slice ap picks.length cp)]⟩)
      (fun p w => PtsR (gt rs) (pickI picks) p.1 ∧ p.1.length ≤ s.n ∧ ∃ en, OwnS 1 p.2 (Is p.1) en ∧ St H1 w (en :: .blk b2 [I s.many, .slice al s.lims.length cl] :: σ))
      (fun p => s.n - p.1.length) ([0], .slice (some ⟨b22, 0, none⟩) 1 1) (by repeat (first | exact .nil rfl rfl | refine .cons rfl ?_))
      ⟨.start, s.n_pos, _, .full (len := 1) rfl, hs⟩ ?_
    rintro ⟨X, v8⟩ w ⟨hP, hXn, en, hO, hs⟩
    dsimp only at hP hXn hO ⊢
    have hI := hP.inv (fun i n hn => pickI_bd picks i hn) hTS hXn
    have hX0 := hI.l0
    have hO1 := hO
    obtain ⟨b, cap, sp, rfl, rfl, hcap⟩ := hO.some hX0
    refine .seq (.regSeq (.z zm (.z (zfa fa_api_System_0) (.y hs (zld Try.isAgg3) (.z zleq (.nil ?_))))))
    refine (.condD rfl (fun hc26 => ?_) (fun hc26 => ?_))
    · refine .skip ?_
      refine nT ?_
      refine .seq (.block (.regSeq (.z zg (.nil ?_))))
      have hXl : X.length < s.n := by omega
      refine .regSeq (.z zg (.nil (.seq (.regSeq (.z zm (.z (zlen Try.runUnderlying22) (.z zm (.nil ?_))))))))
      refine .for (N := X.length) (J := fun k fr w => ∃ lo hi, fr = [(10, I lo), (11, I hi), (9, I (X.length : Int)), (8, .slice (some ⟨b, 0, none⟩) X.length cap), (6, .slice at' rs.length ct), (2, .pointer (some ⟨b2, 0, none⟩)), (1, .slice ap picks.length cp)] ∧   LoI (gt rs) X X.length k lo ∧ HiI (gt rs) X X.length k hi ∧ St H1 w (.blk b (Is X ++ sp) :: .blk b2 [I s.many, .slice al s.lims.length cl] :: σ)) (by omega) ?_ ?_ ?_
      · exact .mk ⟨_, _, rfl, .start _ _ _, .start _ _ _, hs⟩
      · rintro k fr w hk ⟨lo, hi, rfl, hLo, hHi, hs⟩
        have hXk := hI.bd k hk
        have hr1 : (gr rs X.length).length = s.n := hSq.2 _ hXl
        have hr2 : (gr rs k).length = s.n := hSq.2 _ (by omega)
        have hb1 : gi (gr rs X.length) k ≠ 1000000000 → -1400000 ≤ gi (gr rs X.length) k ∧ gi (gr rs X.length) k ≤ 1400000 := fun h => hTS.bd X.length k hXl (by omega) h
        have hb2 : gi (gr rs k) X.length ≠ 1000000000 → -1400000 ≤ gi (gr rs k) X.length ∧ gi (gr rs k) X.length ≤ 1400000 := fun h => hTS.bd k X.length (by omega) hXl h
        refine .block (.regSeq (.z zm (.z zg (.nil ?_))))
        refine .cut (fun fs w => ∃ lo', FSub fs ⟨109, [], [(10, I lo'), (12, I (k : Int)), (31, I (k : Int)), (30, I (X.length : Int)), (11, I hi), (9, I (X.length : Int)), (8, .slice (some ⟨b, 0, none⟩) X.length cap), (6, .slice at' rs.length ct), (2, .pointer (some ⟨b2, 0, none⟩)), (1, .slice ap picks.length cp)]⟩ ∧ LoI (gt rs) X X.length (k + 1) lo' ∧ St H1 w (.blk b (Is X ++ sp) :: .blk b2 [I s.many, .slice al s.lims.length cl] :: σ)) ?_ ?_
        · refine .regSeq (.z zm (.z zm ?_))
          refine .ixT hs hRT rfl rfl Try.runUnderlying87 Try.sizeOf22 (show X.length < rs.length by omega) rfl ?_; intro b36 o36 a36 c36 hc36 hR36
          refine .q hs (q_loadR rfl Try.isAgg22 hc36) ?_
          refine .z zm ?_
          refine .ixY hs hR36 rfl rfl Try.runUnderlying22 Try.sizeOf3 (gi_get (l := gr rs X.length) (i := k) (by omega)) rfl ?_; intro b39 o39 hc39
          refine .q hs (q_loadR rfl Try.isAgg3 hc39) ?_
          refine .z zneq (.nil ?_)
          refine (.condN rfl (fun hc41 => ?_) (fun hc41 => ?_))
          · refine .draw mix rfl hs ?_; intro w hs
            refine .z 0 rfl zm ?_; refine .z 1 rfl zm ?_; refine .z 2 rfl zm ?_; refine .z 3 rfl (zix Try.runUnderlying22 Try.sizeOf3) ?_
            refine .load (i := 4) hs rfl (by kernel_rfl) .none rfl Try.isAgg3 ?_ (hv := Is_gi_sp hk sp)
            refine .z 5 rfl zm ?_; refine .z 6 rfl zm ?_
            refine .ixT (i := 7) hs rfl (by kernel_rfl) .none hRT rfl rfl Try.runUnderlying87 Try.sizeOf22 (show X.length < rs.length by omega) rfl ?_; intro b49 o49 a49 c49 hc49 hR49
            refine .r (i := 8) hs rfl (by kernel_rfl) .none (q_loadR rfl Try.isAgg22 hc49) ?_
            refine .z 9 rfl zm ?_
            refine .ixX (enc := fun x => [I x]) (i := 10) hs rfl (by kernel_rfl) .none hR49 rfl rfl Try.runUnderlying22 Try.sizeOf3 (gi_get (l := gr rs X.length) (i := k) (by omega)) rfl ?_; intro b52 o52 hc52; replace hc52 := CellsAt.one hc52
            refine .r (i := 11) hs rfl (by kernel_rfl) .none (q_loadR rfl Try.isAgg3 hc52) ?_
            refine .z 12 rfl zsub ?_; refine .z 13 rfl zmax ?_; refine .z 14 rfl zg ?_; refine .done (by kernel_rfl) hs ?_
            refine nT ?_
            exact ⟨_, by repeat (first | exact .nil rfl rfl | refine .cons rfl ?_), hLo.put hc41 (by have := hb1 hc41; have := hXk; have := hTS.n65; show -1000000000 ≤ gi X k - gi (gr rs X.length) k; omega), hs⟩
          · refine .skip ?_
            refine nT ?_
            exact ⟨_, by repeat (first | exact .nil rfl rfl | refine .cons rfl ?_), hLo.skip hc41, hs⟩
        · rintro fs w ⟨lo', hfs, hLo', hs⟩
          refine WE.sub ?_ hfs
          refine .regSeq (.z zm (.z zm ?_))
          refine .ixT hs hRT rfl rfl Try.runUnderlying87 Try.sizeOf22 (show k < rs.length by omega) rfl ?_; intro b58 o58 a58 c58 hc58 hR58
          refine .q hs (q_loadR rfl Try.isAgg22 hc58) ?_
          refine .z zm ?_
          refine .ixY hs hR58 rfl rfl Try.runUnderlying22 Try.sizeOf3 (gi_get (l := gr rs k) (i := X.length) (by omega)) rfl ?_; intro b61 o61 hc61
          refine .q hs (q_loadR rfl Try.isAgg3 hc61) ?_
          refine .z zneq (.nil ?_)
          refine (.condN rfl (fun hc63 => ?_) (fun hc63 => ?_))
          · refine .draw mix rfl hs ?_; intro w hs
            refine .z 0 rfl zm ?_; refine .z 1 rfl zm ?_; refine .z 2 rfl zm ?_; refine .z 3 rfl (zix Try.runUnderlying22 Try.sizeOf3) ?_
            refine .load (i := 4) hs rfl (by kernel_rfl) .none rfl Try.isAgg3 ?_ (hv := Is_gi_sp hk sp)
            refine .z 5 rfl zm ?_; refine .z 6 rfl zm ?_
            refine .ixT (i := 7) hs rfl (by kernel_rfl) .none hRT rfl rfl Try.runUnderlying87 Try.sizeOf22 (show k < rs.length by omega) rfl ?_; intro b71 o71 a71 c71 hc71 hR71
            refine .r (i := 8) hs rfl (by kernel_rfl) .none (q_loadR rfl Try.isAgg22 hc71) ?_
            refine .z 9 rfl zm ?_
            refine .ixX (enc := fun x => [I x]) (i := 10) hs rfl (by kernel_rfl) .none hR71 rfl rfl Try.runUnderlying22 Try.sizeOf3 (gi_get (l := gr rs k) (i := X.length) (by omega)) rfl ?_; intro b74 o74 hc74; replace hc74 := CellsAt.one hc74
            refine .r (i := 11) hs rfl (by kernel_rfl) .none (q_loadR rfl Try.isAgg3 hc74) ?_
            refine .z 12 rfl zadd ?_; refine .z 13 rfl zmin ?_; refine .z 14 rfl zg ?_; refine .done (by kernel_rfl) hs ?_
            refine nB (nT ?_)
            exact .mk ⟨lo', _, rfl, hLo', hHi.put hc63 (by have := hb2 hc63; have := hXk; have := hTS.n65; show gi X k + gi (gr rs k) X.length ≤ 1000000000; omega), hs⟩
          · refine .skip ?_
            refine nB (nT ?_)
            exact .mk ⟨lo', _, rfl, hLo', hHi.skip hc63, hs⟩
      · rintro fr w ⟨lo, hi, rfl, hLo, hHi, hs⟩
        have hlb := hLo.bd hI hTS hXl (Nat.le_refl _)
        have hhb := hHi.bd hI hTS hXl (Nat.le_refl _)
        have hle := hI.le hTS hXl rfl hLo hHi
        simp only [free] at hlb hhb hle
        have hpk := pickI_bd picks ((X.length : Int) - 1) (n := hi - lo + 1)
        refine nT ?_
        refine .regSeq (.z zg (.nil ?_))
        refine .cut (fun fs w => FSub fs ⟨109, [], [(13, I (chooseI lo hi (pickI picks ((X.length : Int) - 1) (hi - lo + 1)))), (9, I (X.length : Int)), (8, .slice (some ⟨b, 0, none⟩) X.length cap), (6, .slice at' rs.length ct), (2, .pointer (some ⟨b2, 0, none⟩)), (1, .slice ap picks.length cp)]⟩ ∧ St H1 w (.blk b (Is X ++ sp) :: .blk b2 [I s.many, .slice al s.lims.length cl] :: σ)) ?_ ?_
        · refine .block (.regSeq (.z zm (.z zneq (.z zm ?_))))
          refine .bifN (t' := 82) rfl (fun hb82 => ?_) (fun hb82 => ?_)
          · refine .gT rfl rfl ?_
            refine .z zm ?_
            refine .gT rfl rfl ?_
            refine .z zneq (.z zpT (.z zg (.nil ?_)))
            refine (.condN rfl (fun hc79 => ?_) (fun hc79 => ?_))
            · refine .region (.z zm (.z zm (.z zm (.z zsub (.z zm (.z zm (.z zsub (.z zadd ?_))))))))
              refine .o (.call Try.call25 rfl (ref02_Pick_spec hs (hp.mono hle1) (by omega) (by omega)) ?_); rintro _ w ⟨rfl, hs⟩
              have hq1 : hi ≠ 1000000000 := by simpa using hc79
              have hq2 := hle (by simpa using hb82) hq1
              have hq3 := hpk (by omega)
              refine .z zadd (.z zg (.nil ?_))
              refine nB (nT ?_)
              refine ⟨.consI rfl ?_ (by repeat (first | exact .nil rfl rfl | refine .cons rfl ?_)), hs⟩
              unfold chooseI
              simp only [free] at *
              split <;> (try split) <;> first | rfl | omega | (simp_all; done) | (exfalso; simp_all; omega)
            · refine .regSeq (.z zm (.z zneq (.z zg (.nil ?_))))
              refine (.condN rfl (fun hc96 => ?_) (fun hc96 => ?_))
              · refine .region (.z zm (.z zg (.nil ?_)))
                refine nB (nT ?_)
                refine ⟨.consI rfl ?_ (by repeat (first | exact .nil rfl rfl | refine .cons rfl ?_)), hs⟩
                unfold chooseI
                simp only [free] at *
                split <;> (try split) <;> first | rfl | omega | (simp_all; done) | (exfalso; simp_all; omega)
              · refine .regSeq (.z zm (.z zneq (.z zg (.nil ?_))))
                refine (.condN rfl (fun hc100 => ?_) (fun hc100 => ?_))
                · refine .region (.z zm (.z zg (.nil ?_)))
                  refine nB (nT ?_)
                  refine ⟨.consI rfl ?_ (by repeat (first | exact .nil rfl rfl | refine .cons rfl ?_)), hs⟩
                  unfold chooseI
                  simp only [free] at *
                  split <;> (try split) <;> first | rfl | omega | (simp_all; done) | (exfalso; simp_all; omega)
                · refine .skip ?_
                  refine nB (nT ?_)
                  refine ⟨.consI rfl ?_ (by repeat (first | exact .nil rfl rfl | refine .cons rfl ?_)), hs⟩
                  unfold chooseI
                  simp only [free] at *
                  split <;> (try split) <;> first | rfl | omega | (simp_all; done) | (exfalso; simp_all; omega)
          · refine .gFs 2 2 true rfl rfl rfl ?_
            refine .z zpF (.z zg (.nil ?_))
            refine (.condF rfl rfl ?_)
            refine .regSeq (.z zm (.z zneq (.z zg (.nil ?_))))
            refine (.condN rfl (fun hc96 => ?_) (fun hc96 => ?_))
            · refine .region (.z zm (.z zg (.nil ?_)))
              refine nB (nT ?_)
              refine ⟨.consI rfl ?_ (by repeat (first | exact .nil rfl rfl | refine .cons rfl ?_)), hs⟩
              unfold chooseI
              simp only [free] at *
              split <;> (try split) <;> first | rfl | omega | (simp_all; done) | (exfalso; simp_all; omega)
            · refine .regSeq (.z zm (.z zneq (.z zg (.nil ?_))))
              refine (.condN rfl (fun hc100 => ?_) (fun hc100 => ?_))
              · refine .region (.z zm (.z zg (.nil ?_)))
                refine nB (nT ?_)
                refine ⟨.consI rfl ?_ (by repeat (first | exact .nil rfl rfl | refine .cons rfl ?_)), hs⟩
                unfold chooseI
                simp only [free] at *
                split <;> (try split) <;> first | rfl | omega | (simp_all; done) | (exfalso; simp_all; omega)
              · refine .skip ?_
                refine nB (nT ?_)
                refine ⟨.consI rfl ?_ (by repeat (first | exact .nil rfl rfl | refine .cons rfl ?_)), hs⟩
                unfold chooseI
                simp only [free] at *
                split <;> (try split) <;> first | rfl | omega | (simp_all; done) | (exfalso; simp_all; omega)
        · rintro fs w ⟨hfs, hs⟩
          refine WE.sub ?_ hfs
          refine .region (.z zm (.z zm ?_))
          refine .o (.buildSlice (cells := [_]) hs bls_sl_int_1 rfl rfl ?_); intro b106 w hs
          refine .o (.append (ys := Is [chooseI lo hi (pickI picks ((X.length : Int) - 1) (hi - lo + 1))]) hs app_sl_int_int rfl rfl hO1 (.own .here rfl rfl) (Is_cell _) (fun l' h => by simp at h; have := hTS.n65; omega) ?_); intro v107 en107 w hO2 hs
          rw [← List.map_append] at hO2
          refine .z zg (.nil ?_)
          refine nB (nT ?_)
          refine .region (.z zm (.z zadd (.z zg (.nil ?_))))
          refine nT ?_
          exact ⟨(X ++ [chooseI lo hi (pickI picks ((X.length : Int) - 1) (hi - lo + 1))], v107), .consI rfl (by simp) (by repeat (first | exact .nil rfl rfl | refine .cons rfl ?_)), ⟨hP.snoc hLo hHi, by simp; omega, _, hO2, hs.sub (by repeat (first | exact Sub.refl _ | constructor | apply Sub.weaken))⟩, by simp; omega⟩
    · refine .exit ?_
      refine xT (xT (xB (nT ?_)))
      refine .regSeq (.z zm (.z zg (.z zg (.nil ?_))))
      refine .ret (Fin.ret2 Try.results80 rfl rfl ?_)
      obtain ⟨H2, hle2, hRX, hs⟩ := OwnS.publishI hO1 (by have := hTS.n65; omega) hs .here
      exact ⟨H2, _, X, 0, hle1.trans hle2, rfl, hRX, .ok hok hsd ⟨gt rs, hWT, hP, by omega⟩, hs.out⟩
theorem ref09_Hull_spec {H : Heap} {w : World} {σ : List Ent} {v vp : Value} {a : Quest} {picks : List Int} (hs : St H w σ) (hr : RAsk H v a) (hp : RI H vp picks) :
    Cl Try.prog 46 [v, vp] w fun u w' => ∃ H1 x e, HLe H H1 ∧ RI H1 u x ∧ PointR a.sys picks x e ∧ St H1 w' σ := by
  obtain ⟨ul, uw, rfl, hl, hw⟩ := hr
  obtain ⟨ap, cp, rfl⟩ := RI.shape hp
  refine Cl.of Try.func46 rfl Try.ntmps46 (by simp) (args_cons (k := 0) rfl (args_cons (k := 1) rfl (args0))) ?_
  refine .regSeq ?_
  refine .o (.box hs rfl rfl ?_); intro b2 w hs
  refine .z zg (.nil (.regSeq (.z (zfa fa_api_Ask_0) (.y hs (zls [_, _] Try.isAgg32 Try.sizeOf32) (.z zm ?_)))))
  refine .o (.call Try.call80 rfl (ref02_Point_spec (s := a.sys) hs ⟨_, rfl, hl⟩ hp) ?_); rintro _ w ⟨H1, vx, x, e, hle1, rfl, hR, hP, hs⟩
  refine .z zm (.z zex (.z zex (.z zg (.z zg (.nil (.regSeq (.z zm (.z zg (.nil ?_)))))))))
  refine .ret (Fin.ret1 Try.results46 rfl ?_)
  exact ⟨H1, x, e, hle1, hR, hP, hs.out⟩
theorem ref09_Told_spec {H : Heap} {w : World} {σ : List Ent} {vl vx vp : Value} {l : List Prb} {x picks : List Int} {n : Int} (hs : St H w σ) (hl : RPs H vl l) (hx : RI H vx x) (hp : RI H vp picks) (hin : ∀ p ∈ l, (1 ≤ p.u ∧ p.u ≤ n) ∧ (0 ≤ p.t ∧ p.t ≤ 1000)) (hxl : n < x.length)
    (hlen : l.length ≤ 1000) (hpl : picks.length ≤ 4611686018427387904) (hxb : ∀ v < x.length, -1000000000 ≤ gi x v ∧ gi x v ≤ 1000000000) :
    Cl Try.prog 45 [vl, vx, vp] w fun u w' => ∃ H1, HLe H H1 ∧ ROut H1 u (toldV l x picks l.length) ∧ St H1 w' σ := by
  obtain ⟨al, cl, rfl⟩ := RPs.shape hl
  obtain ⟨ax, cx, rfl⟩ := RI.shape hx
  obtain ⟨ap, cp, rfl⟩ := RI.shape hp
  refine Cl.of Try.func45 rfl Try.ntmps45 (by simp) (args_cons (k := 0) rfl (args_cons (k := 1) rfl (args_cons (k := 2) rfl (args0)))) ?_
  refine .regSeq ?_
  refine .o (.alloc hs Try.zeroValue71 rfl ?_); intro b6 w hs
  refine .nil (.regSeq ?_)
  refine .o (.alloc hs Try.zeroValue71 rfl ?_); intro b7 w hs
  refine .nil (.seq (.regSeq (.z zg (.nil (.block ?_)))))
  refine .loop (fun p : Nat => ⟨45, [], [(8, I (p : Int)), (7, .pointer (some ⟨b7, 0, none⟩)), (6, .pointer (some ⟨b6, 0, none⟩)), (0, .slice al l.length cl), (1, .slice ax x.length cx), (2, .slice ap picks.length cp)]⟩)
    (fun p w => p ≤ l.length ∧ ∃ v7 en, OwnS 1 v7 (Is (toldV l x picks p)) en ∧ St H w (en :: .blk b7 [v7] :: .blk b6 [.slice none 0 0] :: σ))
    (fun p => l.length - p) 0 (by repeat (first | exact .nil rfl rfl | refine .cons rfl ?_))
    ⟨by omega, _, _, .nil 1 none, hs.nul⟩ ?_
  rintro k w ⟨hk, v7, en, hO, hs⟩
  obtain ⟨a7, l7, c7, rfl, h7⟩ := hO.shape
  refine .seq (.regSeq (.z zm (.z zm (.z (zlen Try.runUnderlying35) (.z zlss (.nil ?_))))))
  refine (.condD rfl (fun hc13 => ?_) (fun hc13 => ?_))
  · refine .skip ?_
    refine nT ?_
    refine .seq (.block (.regSeq ?_))
    have hk' : k < l.length := by omega
    have hg := getP_get hk'
    obtain ⟨⟨u1, u2⟩, t1, t2⟩ := hin _ (getP_mem hk')
    have hbx := hxb (getP l k).u.toNat (by omega)
    have hm1 := Int.emod_nonneg (atI picks k) (b := 2 * (getP l k).t + 1) (by omega)
    have hm2 := Int.emod_lt_of_pos (atI picks k) (b := 2 * (getP l k).t + 1) (by omega)
    refine .z zm (.z zm ?_)
    refine .ixX hs hl rfl rfl Try.runUnderlying35 Try.sizeOf48 hg rfl ?_; intro b18 o18 hc18
    refine .z (zfa fa_api_Probe_1) ?_
    refine .q hs (q_loadR rfl Try.isAgg3 (hc18.get 1 rfl)) ?_
    refine .z zg (.nil ?_)
    refine .draw mix rfl hs ?_; intro w hs
    refine .z 0 rfl (zfa fa_api_Outcome_0) ?_; refine .y 1 rfl hs Try.isAgg22 ?_; refine .z 2 rfl zm ?_; refine .z 3 rfl zm ?_; refine .z 4 rfl zm ?_
    refine .ixX (enc := Prb.c) (i := 5) hs rfl (by kernel_rfl) .none hl rfl rfl Try.runUnderlying35 Try.sizeOf48 hg rfl ?_; intro b26 o26 hc26
    refine .z 6 rfl (zfa fa_api_Probe_0) ?_
    refine .r (i := 7) hs rfl (by kernel_rfl) .none (q_loadR rfl Try.isAgg3 (hc26.get 0 rfl)) ?_
    refine .ixX (enc := fun x => [I x]) (i := 8) hs rfl (by kernel_rfl) .none hx rfl rfl Try.runUnderlying22 Try.sizeOf3 (gi_get (l := x) (i := (getP l k).u.toNat) (by omega)) (by omega) ?_; intro b29 o29 hc29; replace hc29 := CellsAt.one hc29
    refine .r (i := 9) hs rfl (by kernel_rfl) .none (q_loadR rfl Try.isAgg3 hc29) ?_
    refine .z 10 rfl zm ?_; refine .z 11 rfl zm ?_; refine .z 13 rfl zm ?_; refine .z 14 rfl zmul ?_; refine .z 15 rfl zadd ?_; refine .z 18 rfl zm ?_
    refine .e1 (i := 12) (by kernel_rfl) rfl rfl .none hs ?_
    refine .call Try.call130 rfl (ref09_at_spec hs hp hpl) ?_; rintro _ w ⟨rfl, hs⟩
    refine .go ?_
    refine .e1 (i := 16) (by kernel_rfl) rfl rfl .none hs ?_
    refine .call Try.call129 rfl (ref09_mod_spec hs (by omega)) ?_; rintro _ w ⟨rfl, hs⟩
    refine .go ?_
    refine .z 17 rfl zadd ?_; refine .z 19 rfl zsub ?_
    refine .e1 (i := 20) (by kernel_rfl) rfl rfl .none hs ?_
    refine .buildSlice (cells := [I (tell1 x picks k (getP l k))]) hs bls_sl_int_1 rfl rfl ?_; intro b41 w hs
    refine .go ?_
    refine .e1 (i := 21) (by kernel_rfl) rfl rfl .none hs ?_
    refine .append (ys := Is [tell1 x picks k (getP l k)]) hs app_sl_int_int rfl rfl hO (.own .here rfl rfl) (Is_cell _) (fun l' h => by rw [List.length_map, toldV_length] at h; omega) ?_; intro v42 en42 w hO2 hs
    obtain ⟨a42, l42, c42, rfl, h42⟩ := hO2.shape
    refine .go ?_
    refine .z 22 rfl (zfa fa_api_Outcome_0) ?_
    refine .e1 (i := 23) (by kernel_rfl) rfl rfl .none hs ?_
    refine .store hs rfl rfl Try.sizeOf22 ?_; intro w hs
    refine .go ?_
    refine .done (by kernel_rfl) hs ?_
    refine nB (nT ?_)
    refine .region (.z zm (.z zadd (.z zg (.nil ?_))))
    refine nT ?_
    rw [← List.map_append, ← toldV_succ] at hO2
    exact ⟨k + 1, .consI rfl (by push_cast; omega) (by repeat (first | exact .nil rfl rfl | refine .cons rfl ?_)), ⟨by omega, _, _, hO2, hs.sub (by repeat (first | exact Sub.refl _ | constructor | apply Sub.weaken))⟩, by omega⟩
  · refine .exit ?_
    refine xT (xT (xB (nT ?_)))
    refine .regSeq (.y hs (zls [_] Try.isAgg71 Try.sizeOf71) ?_)
    refine .o (.stores (vs := [_]) hs rfl rfl Try.sizeOf71 ?_); intro w hs
    refine .nil ?_
    refine .ret ?_
    obtain rfl : k = l.length := by omega
    obtain ⟨H2, hle2, hRV, hs⟩ := OwnS.publishI hO (by rw [toldV_length]; omega) hs (by repeat constructor)
    exact Fin.retD [] [] hs fun w hs => ⟨_, results1 Try.results45 (rcells (vs := [_]) hs rfl Try.isAgg71 Try.sizeOf71), H2, hle2, ⟨_, rfl, hRV⟩, hs.out⟩
end Go.Proofs.Ytiiokdeehlfeeaa

namespace Go.Proofs.Ytiiokdeehlfeeaa
open Go.MW
def ValR (a : Quest) (p : Prb) (lo hi e : Int) : Prop := (CPrbR a [p] e ∧ e ≠ 0 ∧ lo = 0 ∧ hi = 0) ∨ (CPrbR a [p] 0 ∧ e = 0 ∧ ∃ l h, RangeR a.sys (oneW a.sys.many p.u) l h 0 ∧ lo = l - p.t ∧ hi = h + p.t)
theorem ValR.uniq {a : Quest} {p : Prb} {lo hi e lo' hi' e' : Int} (h : ValR a p lo hi e) (g : ValR a p lo' hi' e') : lo = lo' ∧ hi = hi' ∧ e = e' := by
  rcases h with ⟨h1, h2, h3, h4⟩ | ⟨h1, h2, l, u, h3, h4, h5⟩
  · rcases g with ⟨g1, g2, g3, g4⟩ | ⟨g1, g2, _⟩
    · exact ⟨by omega, by omega, h1.uniq g1⟩
    · exact (h2 (h1.uniq g1)).elim
  · rcases g with ⟨g1, g2, g3, g4⟩ | ⟨g1, g2, l', u', g3, g4, g5⟩
    · exact (g2 (g1.uniq h1)).elim
    · obtain ⟨rfl, rfl, _⟩ := h3.uniq g3
      exact ⟨by omega, by omega, by omega⟩
theorem probe_told_Range {R : Int → Int → Int → Prop} {H : Heap} {w : World} {σ : List Ent} {v vl : Value} {a : Quest} {l : List Prb} {g : Nat} {cap : List Value} (hs : St H w σ) (hr : RAsk H v a) (hp : RPs H vl l) (hc : ∀ args w, (callFunc g args).run Try.prog w = .ok (.enter g args) w)
    (hg : ∀ H' w σ', HLe H H' → CPrbR a l 0 → St H' w σ' → Cl Try.prog g ([v] ++ cap) w fun u w' => ∃ H'' lo hi e, HLe H' H'' ∧ u = .tuple #[.agg #[I lo, I hi], I e] ∧ R lo hi e ∧ St H'' w' σ') :
    Cl Try.prog 131 [v, vl, .func (.func g) #[] cap.toArray] w fun u w' => ∃ H1 lo hi e, HLe H H1 ∧ u = .tuple #[.agg #[I lo, I hi], I e] ∧ ((CPrbR a l e ∧ e ≠ 0 ∧ lo = 0 ∧ hi = 0) ∨ (CPrbR a l 0 ∧ R lo hi e)) ∧ St H1 w' σ := by
  obtain ⟨ul, uw, rfl, hl, hw⟩ := hr
  refine Cl.of Try.func131 rfl Try.ntmps131 (by simp) (args_cons (k := 0) rfl (args_cons (k := 1) rfl (args_cons (k := 2) rfl (args0)))) ?_
  refine .regSeq ?_
  refine .o (.box hs rfl rfl ?_); intro b3 w hs
  refine .o (.alloc hs Try.zeroValue76 rfl ?_); intro b6 w hs
  refine .z zg (.nil (.seq (.regSeq (.y hs (zls [_, _, _, _] Try.isAgg34 Try.sizeOf34) (.z zm ?_)))))
  refine .o (.call Try.call40 rfl (probe_CheckProbes_spec (a := a) hs ⟨_, _, rfl, hl, hw⟩ hp) ?_); rintro _ w ⟨H1, e, hle1, rfl, hC, hs⟩
  refine .z zg (.nil (.regSeq (.z zm (.z zneq (.nil ?_)))))
  refine (.condN rfl (fun hc14 => ?_) (fun hc14 => ?_))
  · refine .regSeq ?_
    refine .o (.alloc hs Try.zeroValue76 rfl ?_); intro b9 w hs
    refine .nil (.regSeq (.y hs (zls [_, _] Try.isAgg76 Try.sizeOf76) (.z zm ?_)))
    refine .o (.stores (vs := [_, _]) hs rfl rfl Try.sizeOf76 ?_); intro w hs
    refine .z zg (.nil ?_)
    refine .ret (rT (?_))
    exact Fin.retD [] [] hs fun w hs => ⟨_, results2 Try.results131 (rcells (vs := [_, _]) hs rfl Try.isAgg76 Try.sizeOf76) rfl, H1, 0, 0, e, hle1, rfl, .inl ⟨hC, hc14, rfl, rfl⟩, hs.out⟩
  · refine .skip ?_
    refine nT ?_
    refine .regSeq (.z zm (.y hs (zls [_, _, _, _] Try.isAgg34 Try.sizeOf34) ?_))
    rw [hc14] at hC
    refine .o (.callG (first := []) rfl rfl hc (hg _ _ _ hle1 hC hs) ?_); rintro _ w ⟨H2, lo, hi, e2, hle2, rfl, hR, hs⟩
    refine .z zex (.z zex ?_)
    refine .o (.stores (vs := [_, _]) hs rfl rfl Try.sizeOf76 ?_); intro w hs
    refine .z zg (.nil ?_)
    refine .ret ?_
    exact Fin.retD [] [] hs fun w hs => ⟨_, results2 Try.results131 (rcells (vs := [_, _]) hs rfl Try.isAgg76 Try.sizeOf76) rfl, H2, lo, hi, e2, hle1.trans hle2, rfl, .inr ⟨hC, hR⟩, hs.out⟩
theorem probe_Values_1 {H : Heap} {w : World} {σ : List Ent} {v : Value} {a : Quest} {b : Nat} {p : Prb} (hs : St H w σ) (hr : RAsk H v a) (hb : Row H b p.c) (hok : AskOk a) (hp : PrbIn a p) :
    Cl Try.prog 132 [v, .pointer (some ⟨b, 0, none⟩)] w fun u w' => ∃ H'' lo hi e, HLe H H'' ∧ u = .tuple #[.agg #[I lo, I hi], I e] ∧ (∃ l h, RangeR a.sys (oneW a.sys.many p.u) l h e ∧ lo = l - p.t ∧ hi = h + p.t) ∧ St H'' w' σ := by
  obtain ⟨ul, uw, rfl, hl, hw⟩ := hr
  obtain ⟨⟨u1, u2⟩, t1, t2⟩ := hp
  have hm1 := hok.many
  have hb0 : cellAt H b 0 = some (I p.u) := hb.at 0
  refine Cl.of Try.func132 rfl Try.ntmps132 (by simp) (args_cons (k := 0) rfl (args_cons (k := 1) rfl (args0))) ?_
  refine .regSeq ?_
  refine .o (.box hs rfl rfl ?_); intro b2 w hs
  refine .o (.alloc hs Try.zeroValue76 rfl ?_); intro b3 w hs
  refine .z zg (.nil ?_)
  refine .seq (.draw mix rfl hs ?_); intro w hs
  refine .z 0 rfl (zfa fa_api_Ask_0) ?_; refine .ys 1 rfl hs [_, _] Try.isAgg32 Try.sizeOf32 ?_; refine .ys 2 rfl hs [_, _, _, _] Try.isAgg34 Try.sizeOf34 ?_; refine .z 3 rfl (zfa fa_api_Probe_0) ?_; refine .y 4 rfl hs Try.isAgg3 ?_
  refine .e1 (i := 5) (by kernel_rfl) rfl rfl .none hs ?_
  refine .call Try.call133 rfl (probe_one_spec (a := a) (u := p.u) hs ⟨_, _, rfl, hl, hw⟩ (by omega) (by omega)) ?_; rintro v14 w ⟨H1, hle1, hR1, hs⟩
  obtain ⟨a14, c14, rfl⟩ := RI.shape hR1
  refine .go ?_
  refine .e1 (i := 6) (by kernel_rfl) rfl rfl .none hs ?_
  refine .call Try.call60 rfl (bound_Range_spec (s := a.sys) hs ⟨_, rfl, hl.mono hle1⟩ hR1) ?_; rintro _ w ⟨H2, lo, hi, e, hle2, rfl, hR, hs⟩
  have hbd := hR.bd
  have hb1 : cellAt H2 b 1 = some (I p.t) := (hb.mono (hle1.trans hle2)).at 1
  refine .go ?_
  refine .z 7 rfl zm ?_; refine .z 8 rfl zex ?_; refine .z 9 rfl zex ?_; refine .z 10 rfl zex ?_; refine .z 11 rfl zg ?_; refine .z 12 rfl zg ?_; refine .z 13 rfl zg ?_; refine .done (by kernel_rfl) hs ?_
  refine .regSeq (.z zm (.z (zfa fa_api_Probe_1) (.y hs (zld Try.isAgg3) (.z zsub (.z zm (.z (zfa fa_api_Probe_1) (.y hs (zld Try.isAgg3) (.z zadd (.z (zbd [_, _] bld_api_Range) ?_)))))))))
  refine .z zm ?_
  refine .o (.stores (vs := [_, _]) hs rfl rfl Try.sizeOf76 ?_); intro w hs
  refine .z zg (.nil ?_)
  refine .ret ?_
  exact Fin.endD [] [] hs fun w hs => ⟨_, results2 Try.results132 (rcells (vs := [_, _]) hs rfl Try.isAgg76 Try.sizeOf76) rfl, H2, _, _, e, hle1.trans hle2, rfl, ⟨lo, hi, hR, rfl, rfl⟩, hs.out⟩
theorem probe_Values_spec {H : Heap} {w : World} {σ : List Ent} {v : Value} {a : Quest} {p : Prb} (hs : St H w σ) (hr : RAsk H v a) :
    Cl Try.prog 47 [v, .agg p.c.toArray] w fun u w' => ∃ H1 lo hi e, HLe H H1 ∧ u = .tuple #[.agg #[I lo, I hi], I e] ∧ ValR a p lo hi e ∧ St H1 w' σ := by
  obtain ⟨ul, uw, rfl, hl, hw⟩ := hr
  refine Cl.of Try.func47 rfl Try.ntmps47 (by simp) (args_cons (k := 0) rfl (args_cons (k := 1) rfl (args0))) ?_
  refine .regSeq ?_
  refine .o (.box hs rfl rfl ?_); intro b2 w hs
  refine .o (.box hs rfl rfl ?_); intro b3 w hs
  refine .o (.alloc hs Try.zeroValue76 rfl ?_); intro b4 w hs
  refine .z zg (.nil (.regSeq (.y hs (zls [_, _, _, _] Try.isAgg34 Try.sizeOf34) (.y hs (zls [_, _] Try.isAgg48 Try.sizeOf48) ?_))))
  refine .o (.buildSlice (cells := [_, _]) hs bls_sl_api_Probe_1 rfl rfl ?_); intro b8 w hs
  refine .q hs (q_makeFunc (f := []) (c := [_]) rfl rfl) ?_
  obtain ⟨H0, hle0, hRP, hs⟩ := OwnS.publish (m := 2) (v := .slice (some ⟨b8, 0, none⟩) 1 1) (cs := [p.c]) (.full (len := 1) rfl) (fun c hc => by simp only [List.mem_singleton] at hc; subst hc; rfl) (by omega) (by simp) hs .here
  obtain ⟨H1, hle1, hb3, hs⟩ := hs.publish (b := b3) (by repeat constructor)
  have hle01 := hle0.trans hle1
  refine .o (.call Try.call131 rfl (probe_told_Range (R := fun lo hi e => ∃ l h, RangeR a.sys (oneW a.sys.many p.u) l h e ∧ lo = l - p.t ∧ hi = h + p.t) (a := a) (l := [p]) (cap := [.pointer (some ⟨b3, 0, none⟩)]) hs ⟨_, _, rfl, hl.mono hle01, hw.mono hle01⟩ (RS.mono hRP hle1) Try.call132 ?_) ?_)
  · rintro H' w σ' hle hC hs
    obtain ⟨hok, hlen, hin⟩ := hC.zero
    exact probe_Values_1 (a := a) (p := p) hs ⟨_, _, rfl, (hl.mono hle01).mono hle, (hw.mono hle01).mono hle⟩ (hb3.mono hle) hok (hin p (by simp)).inn
  rintro _ w ⟨H2, lo, hi, e, hle2, rfl, hcase, hs⟩
  refine .z zex (.z zex ?_)
  refine .o (.stores (vs := [_, _]) hs rfl rfl Try.sizeOf76 ?_); intro w hs
  refine .z zg (.nil ?_)
  refine .ret ?_
  refine Fin.endD [] [] hs fun w hs => ⟨_, results2 Try.results47 (rcells (vs := [_, _]) hs rfl Try.isAgg76 Try.sizeOf76) rfl, H2, lo, hi, e, hle01.trans hle2, rfl, ?_, hs.out⟩
  rcases hcase with ⟨h1, h2, h3, h4⟩ | ⟨h1, l, h, h2, h3, h4⟩
  · exact .inl ⟨h1, h2, h3, h4⟩
  · obtain ⟨hok, hlen, hin⟩ := h1.zero
    obtain ⟨_, _, l', h', h5, _⟩ := hin p (by simp)
    obtain ⟨rfl, rfl, rfl⟩ := h2.uniq h5
    exact .inr ⟨h1, rfl, _, _, h2, h3, h4⟩
end Go.Proofs.Ytiiokdeehlfeeaa

namespace Go.Proofs.Ytiiokdeehlfeeaa
open Go.MW
set_option maxHeartbeats 4000000 in
theorem ref09_Made_spec {H : Heap} {w : World} {σ : List Ent} {cs : List Value} {r : Raw} (hs : St H w σ) (hr : RRawC H cs r) (hin : r.In) :
    Cl Try.prog 94 [.agg cs.toArray] w fun u w' => ∃ H1, HLe H H1 ∧ RAsk H1 u (madeQ r) ∧ St H1 w' σ := by
  obtain ⟨vh, vl, vw, rfl, h1, h2, h3⟩ := hr
  obtain ⟨ah, ch, rfl⟩ := RI.shape h1
  obtain ⟨al, cl, e2⟩ := h2.shape
  obtain ⟨aw, cw, rfl⟩ := RI.shape h3
  rw [List.length_map] at e2
  subst e2
  have i1 := hin.hull.1
  have i2 := hin.ws.1
  have i3 := hin.lims
  have eN : 1 + (r.hull.length : Int) % 5 = (mN r : Int) := by unfold mN; omega
  have hN := mN_bd r
  refine Cl.of Try.func94 rfl Try.ntmps94 (by simp) (args_cons (k := 0) rfl (args0)) ?_
  refine .regSeq ?_
  refine .o (.box hs rfl rfl ?_); intro b1 w hs
  refine .o (.alloc hs Try.zeroValue34 rfl ?_); intro b2 w hs
  refine .nil (.regSeq (.z (zfa fa_moorsomref09_Raw_0) (.y hs (zld Try.isAgg22) (.z (zlen Try.runUnderlying22) ?_))))
  refine .o (.call Try.call129 rfl (ref09_mod_spec hs (by decide)) ?_); rintro _ w ⟨rfl, hs⟩
  refine .z zadd ?_
  rw [eN]
  refine .z zg (.nil (.regSeq ?_))
  refine .o (.buildSlice (cells := [_]) hs bls_sl_int_1 rfl rfl ?_); intro b18 w hs
  refine .z zg (.nil (.regSeq (.z (zfa fa_moorsomref09_Raw_3) (.y hs (zld Try.isAgg3) ?_))))
  refine .o (.call Try.call129 rfl (ref09_mod_spec hs (by decide)) ?_); rintro _ w ⟨rfl, hs⟩
  refine .o (.buildSlice (cells := [_]) hs bls_sl_int_1 rfl rfl ?_); intro b22 w hs
  refine .z (zbd [_, _, _, _] bld_api_Ask) ?_
  refine .o (.alloc hs Try.zeroValue34 rfl ?_); intro b5 w hs
  refine .o (.stores (vs := [_, _, _, _]) hs rfl rfl Try.sizeOf34 ?_); intro w hs
  refine .nil (.regSeq (.z zm (.z (zfa fa_api_Ask_0) (.z (zfa fa_api_System_0) ?_))))
  refine .o (.store hs rfl rfl Try.sizeOf3 ?_); intro w hs
  refine .nil (.seq (.regSeq (.z zg (.nil (.block ?_)))))
  refine .loop (fun p : Nat × Value => ⟨149, [], [(6, I (p.1 : Int)), (4, p.2), (3, I (mN r : Int)), (1, .pointer (some ⟨b1, 0, none⟩)), (2, .pointer (some ⟨b2, 0, none⟩)), (5, .pointer (some ⟨b5, 0, none⟩))]⟩)
    (fun p w => p.1 ≤ mN r ∧ ∃ vl vw en4 enl enw, OwnS 1 p.2 (Is (mHull r p.1)) en4 ∧ OwnS 4 vl (Lims (baseLims r p.1)) enl ∧ OwnS 1 vw (Is (mWs r p.1)) enw ∧
      St H w (.blk b5 [I (mN r : Int), vl, vw, I (r.width % 400)] :: .blk b1 [.slice ah r.hull.length ch, .slice al r.lims.length cl, .slice aw r.ws.length cw, I r.width] :: .blk b2 [I 0, .slice none 0 0, .slice none 0 0, I 0] :: en4 :: enl :: enw :: σ))
    (fun p => mN r - p.1) (0, .slice (some ⟨b18, 0, none⟩) 1 1) (by repeat (first | exact .nil rfl rfl | refine .cons rfl ?_))
    ⟨by omega, _, _, _, _, _, .full rfl, .nil 4 none, .full rfl, hs.nul.sub (by repeat (first | exact Sub.refl _ | constructor | apply Sub.weaken))⟩ ?_
  rintro ⟨k, v4⟩ w ⟨hk, vl, vw, en4, enl, enw, hO4, hOl, hOw, hs⟩
  dsimp only at hk hO4 hOl hOw ⊢
  obtain ⟨a4, l4, c4, rfl, h4⟩ := hO4.shape
  obtain ⟨al2, ll2, cl2, rfl, hl2⟩ := hOl.shape
  obtain ⟨aw2, lw2, cw2, rfl, hw2⟩ := hOw.shape
  refine .seq (.regSeq (.z zm (.z zm (.z zlss (.nil ?_)))))
  refine (.condD rfl (fun hc29 => ?_) (fun hc29 => ?_))
  · refine .skip ?_
    refine nT ?_
    refine .seq (.block (.regSeq (.z (zfa fa_moorsomref09_Raw_0) (.y hs (zld Try.isAgg22) (.z zm ?_)))))
    refine .o (.call Try.call130 rfl (ref09_at_spec hs h1 (by omega)) ?_); rintro _ w ⟨rfl, hs⟩
    refine .o (.call Try.call129 rfl (ref09_mod_spec hs (by decide)) ?_); rintro _ w ⟨rfl, hs⟩
    refine .z zg (.nil (.regSeq (.z zm (.z zm ?_))))
    refine .o (.buildSlice (cells := [_]) hs bls_sl_int_1 rfl rfl ?_); intro b39 w hs
    refine .o (.append (ys := [I (mH r k)]) hs app_sl_int_int rfl rfl hO4 (.own .here rfl rfl) (by simp [Value.oneCell']) (fun l h => by simp [mHull] at h; omega) ?_); intro v40 en40 w hO4' hs
    refine .z zg (.nil (.regSeq (.z (zfa fa_moorsomref09_Raw_0) (.y hs (zld Try.isAgg22) (.z zm ?_)))))
    refine .o (.call Try.call130 rfl (ref09_at_spec hs h1 (by omega)) ?_); rintro _ w ⟨rfl, hs⟩
    refine .z zquo ?_
    rw [i64wrap (tdiv_bd (atI_in hin.hull.2 k) (by decide))]
    refine .o (.call Try.call129 rfl (ref09_mod_spec hs (by decide)) ?_); rintro _ w ⟨rfl, hs⟩
    refine .z zg (.nil (.regSeq (.z (zfa fa_moorsomref09_Raw_0) (.y hs (zld Try.isAgg22) (.z zm ?_)))))
    refine .o (.call Try.call130 rfl (ref09_at_spec hs h1 (by omega)) ?_); rintro _ w ⟨rfl, hs⟩
    refine .z zquo ?_
    rw [i64wrap (tdiv_bd (atI_in hin.hull.2 k) (by decide))]
    refine .o (.call Try.call129 rfl (ref09_mod_spec hs (by decide)) ?_); rintro _ w ⟨rfl, hs⟩
    refine .z zg (.nil (.regSeq (.z (zfa fa_api_Ask_0) (.z (zfa fa_api_System_1) (.y hs (zld Try.isAgg30) (.z zm (.z zadd (.z zm (.z zm ?_)))))))))
    refine .z zadd (.z zm (.z zadd (.z (zbd [_, _, _, _] bld_api_Limit) (.z zm (.z zadd (.z zm (.z zm (.z zsub (.z zm ?_)))))))))
    refine .z zadd (.z (zbd [_, _, _, _] bld_api_Limit) ?_)
    refine .o (.buildSlice (cells := Lims (baseOne r k)) hs bls_sl_api_Limit_2 rfl rfl ?_); intro b72 w hs
    refine .o (.append (ys := Lims (baseOne r k)) hs app_sl_api_Limit_api_Limit rfl rfl hOl (.own .here rfl rfl) (Lims_cell _) (fun l h => by rw [Lims_length, baseLims_length] at h; omega) ?_); intro v73 en73 w hOl' hs
    obtain ⟨a73, l73, c73, rfl, h73⟩ := hOl'.shape
    refine .z (zfa fa_api_Ask_0) (.z (zfa fa_api_System_1) ?_)
    refine .o (.store hs rfl rfl Try.sizeOf30 ?_); intro w hs
    refine .nil ?_
    refine .draw mix rfl hs ?_; intro w hs
    refine .z 0 rfl (zfa fa_api_Ask_1) ?_; refine .y 1 rfl hs Try.isAgg22 ?_; refine .z 2 rfl (zfa fa_moorsomref09_Raw_2) ?_; refine .y 3 rfl hs Try.isAgg22 ?_; refine .z 4 rfl zm ?_
    refine .e1 (i := 5) (by kernel_rfl) rfl rfl .none hs ?_
    refine .call Try.call130 rfl (ref09_at_spec hs h3 (by omega)) ?_; rintro _ w ⟨rfl, hs⟩
    refine .go ?_
    refine .e1 (i := 6) (by kernel_rfl) rfl rfl .none hs ?_
    refine .call Try.call129 rfl (ref09_mod_spec hs (by decide)) ?_; rintro _ w ⟨rfl, hs⟩
    refine .go ?_
    have hb0 := Int.emod_nonneg (atI r.ws (k : Int)) (b := 13) (by decide)
    have hb1 := Int.emod_lt_of_pos (atI r.ws (k : Int)) (b := 13) (by decide)
    refine .z 7 rfl zsub ?_
    refine .e1 (i := 8) (by kernel_rfl) rfl rfl .none hs ?_
    refine .buildSlice (cells := [_]) hs bls_sl_int_1 rfl rfl ?_; intro b84 w hs
    refine .go ?_
    refine .e1 (i := 9) (by kernel_rfl) rfl rfl .none hs ?_
    refine .append (ys := [I (atI r.ws (k : Int) % 13 - 4)]) hs app_sl_int_int rfl rfl hOw (.own .here rfl rfl) (by simp [Value.oneCell']) (fun l h => by simp [mWs] at h; omega) ?_; intro v85 en85 w hOw' hs
    obtain ⟨a85, l85, c85, rfl, h85⟩ := hOw'.shape
    refine .go ?_
    refine .z 10 rfl (zfa fa_api_Ask_1) ?_
    refine .e1 (i := 11) (by kernel_rfl) rfl rfl .none hs ?_
    refine .store hs rfl rfl Try.sizeOf22 ?_; intro w hs
    refine .go ?_
    refine .done (by kernel_rfl) hs ?_
    refine nB (nT ?_)
    refine .region (.z zm (.z zadd (.z zg (.nil ?_))))
    refine nT ?_
    have e4 : Is (mHull r k) ++ [I (mH r k)] = Is (mHull r (k + 1)) := by rw [mHull_snoc]; simp [Is]
    have ew : Is (mWs r k) ++ [I (atI r.ws (k : Int) % 13 - 4)] = Is (mWs r (k + 1)) := by rw [mWs_snoc]; simp [Is]
    rw [e4] at hO4'; rw [ew] at hOw'; rw [← Lims_append] at hOl'
    exact ⟨(k + 1, v40), .consI rfl (by push_cast; omega) (by repeat (first | exact .nil rfl rfl | refine .cons rfl ?_)), ⟨by dsimp only; omega, _, _, _, _, _, hO4', hOl', hOw', hs.sub (by repeat (first | exact Sub.refl _ | constructor | apply Sub.weaken))⟩, by dsimp only; omega⟩
  · refine .exit ?_
    refine xT (xT (xB (nT ?_)))
    refine .seq (.regSeq (.z zg (.nil (.block ?_))))
    obtain rfl : k = mN r := by omega
    obtain ⟨H1, hle1, hRh, hs⟩ := hO4.publishI (by rw [mHull_length]; omega) hs (by repeat constructor)
    refine .loop (fun k : Nat => ⟨149, [], [(10, I (k : Int)), (4, .slice a4 l4 c4), (3, I (mN r : Int)), (1, .pointer (some ⟨b1, 0, none⟩)), (2, .pointer (some ⟨b2, 0, none⟩)), (5, .pointer (some ⟨b5, 0, none⟩))]⟩)
      (fun k w => k ≤ min r.lims.length 8 ∧ ∃ vl enl, OwnS 4 vl (Lims (baseLims r (mN r) ++ moreLims r k)) enl ∧
        St H1 w (.blk b5 [I (mN r : Int), vl, .slice aw2 lw2 cw2, I (r.width % 400)] :: .blk b1 [.slice ah r.hull.length ch, .slice al r.lims.length cl, .slice aw r.ws.length cw, I r.width] :: .blk b2 [I 0, .slice none 0 0, .slice none 0 0, I 0] :: enl :: enw :: σ))
      (fun k => 8 - k) 0 (by repeat (first | exact .nil rfl rfl | refine .cons rfl ?_))
      ⟨by omega, _, _, by simpa [moreLims] using hOl, hs.sub (by repeat (first | exact Sub.refl _ | constructor | apply Sub.weaken))⟩ ?_
    rintro k w ⟨hk, vl, enl, hOl, hs⟩
    obtain ⟨al2, ll2, cl2, rfl, hl2⟩ := hOl.shape
    have h2' := h2.mono hle1
    refine .seq (.regSeq (.z zm (.z (zfa fa_moorsomref09_Raw_1) (.y hs (zld Try.isAgg23) (.z (zlen Try.runUnderlying23) (.z zlss (.z zm ?_)))))))
    refine .bifD (t' := 92) rfl (fun hb92 => ?_) (fun hb92 => ?_)
    · refine .gT rfl rfl ?_
      refine .z zm ?_
      refine .gT rfl rfl ?_
      refine .z zlss (.z zpT (.nil ?_))
      refine (.condD rfl (fun hc95 => ?_) (fun hc95 => ?_))
      · refine .skip ?_
        refine nT ?_
        refine .seq (.block (.regSeq (.z (zfa fa_moorsomref09_Raw_1) (.y hs (zld Try.isAgg23) (.z zm ?_)))))
        obtain ⟨x, hx⟩ := nth (l := r.lims) (k := k) (by omega)
        refine .ixX (enc := Tri.v) hs h2' rfl rfl Try.runUnderlying23 Try.sizeOf211 hx rfl ?_; intro b101 o101 hc101
        first | refine .q hs (q_ixA0 (k := 0) rfl rfl Try.runUnderlying211 Try.sizeOf3 rfl (by decide)) ?_ | refine .q hs (q_ixA (k := 0) rfl rfl Try.runUnderlying211 Try.sizeOf3 rfl (by decide)) ?_
        refine .q hs (q_loadR rfl Try.isAgg3 (hc101.get 0 rfl)) ?_
        refine .z zm (.z zadd ?_)
        refine .o (.call Try.call129 rfl (ref09_mod_spec hs (by omega)) ?_); rintro _ w ⟨rfl, hs⟩
        refine .z zg (.nil (.regSeq (.z (zfa fa_moorsomref09_Raw_1) (.y hs (zld Try.isAgg23) (.z zm ?_)))))
        refine .ixX (enc := Tri.v) hs h2' rfl rfl Try.runUnderlying23 Try.sizeOf211 hx rfl ?_; intro b110 o110 hc110
        first | refine .q hs (q_ixA0 (k := 1) rfl rfl Try.runUnderlying211 Try.sizeOf3 rfl (by decide)) ?_ | refine .q hs (q_ixA (k := 1) rfl rfl Try.runUnderlying211 Try.sizeOf3 rfl (by decide)) ?_
        refine .q hs (q_loadR rfl Try.isAgg3 (hc110.get 1 rfl)) ?_
        refine .z zm (.z zadd ?_)
        refine .o (.call Try.call129 rfl (ref09_mod_spec hs (by omega)) ?_); rintro _ w ⟨rfl, hs⟩
        have xa0 := Int.emod_nonneg x.a (b := (mN r : Int) + 1) (by omega)
        have xa1 := Int.emod_lt_of_pos x.a (b := (mN r : Int) + 1) (by omega)
        have xb0 := Int.emod_nonneg x.b (b := (mN r : Int) + 1) (by omega)
        have xb1 := Int.emod_lt_of_pos x.b (b := (mN r : Int) + 1) (by omega)
        have xc0 := Int.emod_nonneg x.c (b := 25) (by decide)
        have xc1 := Int.emod_lt_of_pos x.c (b := 25) (by decide)
        have hha := mHull_bd r (mN r) (x.a % ((mN r : Int) + 1)).toNat
        have hhb := mHull_bd r (mN r) (x.b % ((mN r : Int) + 1)).toNat
        refine .z zg (.nil (.regSeq (.z zm (.z zm (.z zneq (.nil ?_))))))
        refine (.condN rfl (fun hc118 => ?_) (fun hc118 => ?_))
        · refine .draw mix rfl hs ?_; intro w hs
          refine .z 0 rfl (zfa fa_api_Ask_0) ?_; refine .z 1 rfl (zfa fa_api_System_1) ?_; refine .y 2 rfl hs Try.isAgg30 ?_; refine .z 3 rfl zm ?_; refine .z 4 rfl zm ?_; refine .z 5 rfl zm ?_; refine .z 6 rfl zm ?_
          refine .ixX (enc := fun x => [I x]) (i := 7) hs rfl (by kernel_rfl) .none hRh rfl rfl Try.runUnderlying22 Try.sizeOf3 (gi_get (l := mHull r (mN r)) (i := (x.b % ((mN r : Int) + 1)).toNat) (by rw [mHull_length]; omega)) (by omega) ?_; intro b126 o126 hc126; replace hc126 := CellsAt.one hc126
          refine .r (i := 8) hs rfl (by kernel_rfl) .none (q_loadR rfl Try.isAgg3 hc126) ?_
          refine .z 9 rfl zm ?_; refine .z 10 rfl zm ?_
          refine .ixX (enc := fun x => [I x]) (i := 11) hs rfl (by kernel_rfl) .none hRh rfl rfl Try.runUnderlying22 Try.sizeOf3 (gi_get (l := mHull r (mN r)) (i := (x.a % ((mN r : Int) + 1)).toNat) (by rw [mHull_length]; omega)) (by omega) ?_; intro b130 o130 hc130; replace hc130 := CellsAt.one hc130
          refine .r (i := 12) hs rfl (by kernel_rfl) .none (q_loadR rfl Try.isAgg3 hc130) ?_
          refine .z 13 rfl zsub ?_; refine .z 14 rfl (zfa fa_moorsomref09_Raw_1) ?_; refine .y 15 rfl hs Try.isAgg23 ?_; refine .z 16 rfl zm ?_
          refine .ixX (enc := Tri.v) (i := 17) hs rfl (by kernel_rfl) .none h2' rfl rfl Try.runUnderlying23 Try.sizeOf211 hx rfl ?_; intro b136 o136 hc136
          first | refine .p (i := 18) rfl (by kernel_rfl) .none (q_ixA0 (k := 2) rfl rfl Try.runUnderlying211 Try.sizeOf3 rfl (by decide)) ?_ | refine .p (i := 18) rfl (by kernel_rfl) .none (q_ixA (k := 2) rfl rfl Try.runUnderlying211 Try.sizeOf3 rfl (by decide)) ?_
          refine .r (i := 19) hs rfl (by kernel_rfl) .none (q_loadR rfl Try.isAgg3 (hc136.get 2 rfl)) ?_
          refine .z 22 rfl zm ?_; refine .z 23 rfl zadd ?_
          refine .e1 (i := 20) (by kernel_rfl) rfl rfl .none hs ?_
          refine .call Try.call129 rfl (ref09_mod_spec hs (by decide)) ?_; rintro _ w ⟨rfl, hs⟩
          refine .go ?_
          refine .z 21 rfl zadd ?_; refine .z 24 rfl (zbd [_, _, _, _] bld_api_Limit) ?_
          refine .e1 (i := 25) (by kernel_rfl) rfl rfl .none hs ?_
          refine .buildSlice (cells := Lim.c ⟨x.a % ((mN r : Int) + 1), x.b % ((mN r : Int) + 1), gi (mHull r (mN r)) (x.b % ((mN r : Int) + 1)).toNat - gi (mHull r (mN r)) (x.a % ((mN r : Int) + 1)).toNat + x.c % 25, 20 + k⟩) hs bls_sl_api_Limit_1 rfl rfl ?_; intro b144 w hs
          refine .go ?_
          refine .e1 (i := 26) (by kernel_rfl) rfl rfl .none hs ?_
          refine .append (ys := Lim.c ⟨x.a % ((mN r : Int) + 1), x.b % ((mN r : Int) + 1), gi (mHull r (mN r)) (x.b % ((mN r : Int) + 1)).toNat - gi (mHull r (mN r)) (x.a % ((mN r : Int) + 1)).toNat + x.c % 25, 20 + k⟩) hs app_sl_api_Limit_api_Limit rfl rfl hOl (.own .here rfl rfl) (by simp [Lim.c, Value.oneCell']) (fun l h => by have := moreLims_length r k; rw [Lims_length, List.length_append, baseLims_length] at h; omega) ?_; intro v145 en145 w hOl' hs
          obtain ⟨a145, l145, c145, rfl, h145⟩ := hOl'.shape
          refine .go ?_
          refine .z 27 rfl (zfa fa_api_Ask_0) ?_; refine .z 28 rfl (zfa fa_api_System_1) ?_
          refine .e1 (i := 29) (by kernel_rfl) rfl rfl .none hs ?_
          refine .store hs rfl rfl Try.sizeOf30 ?_; intro w hs
          refine .go ?_
          refine .done (by kernel_rfl) hs ?_
          refine nB (nT ?_)
          refine .region (.z zm (.z zadd (.z zg (.nil ?_))))
          refine nT ?_
          rw [← Lims_one, ← Lims_append, List.append_assoc, show moreLims r k ++ [_] = moreLims r (k + 1) by rw [moreLims_succ hx]; unfold moreOne; rw [if_neg hc118]] at hOl'
          exact ⟨k + 1, .consI rfl (by push_cast; omega) (by repeat (first | exact .nil rfl rfl | refine .cons rfl ?_)), ⟨by omega, _, _, hOl', hs.sub (by repeat (first | exact Sub.refl _ | constructor | apply Sub.weaken))⟩, by omega⟩
        · refine .skip ?_
          refine nB (nT ?_)
          refine .region (.z zm (.z zadd (.z zg (.nil ?_))))
          refine nT ?_
          rw [show moreLims r k = moreLims r (k + 1) by rw [moreLims_succ hx]; unfold moreOne; rw [if_pos hc118]; simp] at hOl
          exact ⟨k + 1, .consI rfl (by push_cast; omega) (by repeat (first | exact .nil rfl rfl | refine .cons rfl ?_)), ⟨by omega, _, _, hOl, hs.sub (by repeat (first | exact Sub.refl _ | constructor | apply Sub.weaken))⟩, by omega⟩
      · refine .exit ?_
        refine xT (xT (xB (nT ?_)))
        refine .regSeq (.y hs (zls [_, _, _, _] Try.isAgg34 Try.sizeOf34) ?_)
        refine .o (.stores (vs := [_, _, _, _]) hs rfl rfl Try.sizeOf34 ?_); intro w hs
        refine .nil ?_
        refine .ret ?_
        obtain rfl : k = min r.lims.length 8 := by omega
        obtain ⟨H2, g1, g2, hs⟩ := OwnS.publish (cs := (madeQ r).sys.lims.map Lim.c) hOl (fun c hc => by simp only [List.mem_map] at hc; obtain ⟨x, _, rfl⟩ := hc; rfl) (by omega) (by have := (madeQ_made r).lims; rw [List.length_map]; omega) hs (by repeat constructor)
        obtain ⟨H3, g3, g4, hs⟩ := hOw.publishI (by rw [mWs_length]; omega) hs (by repeat constructor)
        exact Fin.retD [] [] hs fun w hs => ⟨_, results1 Try.results94 (rcells (vs := [_, _, _, _]) hs rfl Try.isAgg34 Try.sizeOf34), H3, hle1.trans (g1.trans g3), ⟨_, _, rfl, RS.mono g2 g3, g4⟩, hs.out⟩
    · refine .gFs 2 5 true rfl rfl rfl ?_
      refine .z zpF (.nil ?_)
      refine (.condF rfl rfl ?_)
      refine .exit ?_
      refine xT (xT (xB (nT ?_)))
      refine .regSeq (.y hs (zls [_, _, _, _] Try.isAgg34 Try.sizeOf34) ?_)
      refine .o (.stores (vs := [_, _, _, _]) hs rfl rfl Try.sizeOf34 ?_); intro w hs
      refine .nil ?_
      refine .ret ?_
      obtain rfl : k = min r.lims.length 8 := by omega
      obtain ⟨H2, g1, g2, hs⟩ := OwnS.publish (cs := (madeQ r).sys.lims.map Lim.c) hOl (fun c hc => by simp only [List.mem_map] at hc; obtain ⟨x, _, rfl⟩ := hc; rfl) (by omega) (by have := (madeQ_made r).lims; rw [List.length_map]; omega) hs (by repeat constructor)
      obtain ⟨H3, g3, g4, hs⟩ := hOw.publishI (by rw [mWs_length]; omega) hs (by repeat constructor)
      exact Fin.retD [] [] hs fun w hs => ⟨_, results1 Try.results94 (rcells (vs := [_, _, _, _]) hs rfl Try.isAgg34 Try.sizeOf34), H3, hle1.trans (g1.trans g3), ⟨_, _, rfl, RS.mono g2 g3, g4⟩, hs.out⟩
end Go.Proofs.Ytiiokdeehlfeeaa

namespace Go.Proofs.Ytiiokdeehlfeeaa
open Go.MW
theorem ref09_Probes_spec {H : Heap} {w : World} {σ : List Ent} {v vl : Value} {a : Quest} {l : List Two} {most : Nat} (hs : St H w σ) (hr : RAsk H v a) (hl : RS H 2 vl (l.map Two.v)) (hm : 1 ≤ a.sys.many ∧ a.sys.many ≤ 1000) (h8 : most ≤ 100) :
    Cl Try.prog 95 [v, vl, I (most : Int)] w fun u w' => ∃ H1, HLe H H1 ∧ RPs H1 u (prbsOf a.sys.many l most) ∧ St H1 w' σ := by
  obtain ⟨ul, uw, rfl, h1, h2⟩ := hr
  obtain ⟨al, cl, e2⟩ := hl.shape
  rw [List.length_map] at e2
  subst e2
  refine Cl.of Try.func95 rfl Try.ntmps95 (by simp) (args_cons (k := 0) rfl (args_cons (k := 1) rfl (args_cons (k := 2) rfl (args0)))) ?_
  refine .regSeq ?_
  refine .o (.box hs rfl rfl ?_); intro b3 w hs
  refine .z zg (.nil (.regSeq (.z zg (.nil (.seq (.regSeq (.z zg (.nil (.block ?_)))))))))
  refine .loop (fun p : Nat × Value => ⟨41, [], [(8, I (p.1 : Int)), (7, p.2), (1, .slice al l.length cl), (2, I (most : Int)), (3, .pointer (some ⟨b3, 0, none⟩))]⟩)
    (fun p w => p.1 ≤ min most l.length ∧ ∃ en, OwnS 2 p.2 (Prbs (prbsOf a.sys.many l p.1)) en ∧ St H w (en :: .blk b3 [I a.sys.many, ul, uw, I a.width] :: σ))
    (fun p => 100 - p.1) (0, .slice none 0 0) (by repeat (first | exact .nil rfl rfl | refine .cons rfl ?_))
    ⟨by omega, _, .nil 2 none, hs.nul⟩ ?_
  rintro ⟨k, v7⟩ w ⟨hk, en, hO, hs⟩
  dsimp only at hk hO ⊢
  refine .seq (.regSeq (.z zm (.z zm (.z (zlen Try.runUnderlying26) (.z zlss (.z zm ?_))))))
  refine .bifD (t' := 13) rfl (fun hb13 => ?_) (fun hb13 => ?_)
  · refine .gT rfl rfl ?_
    refine .z zm ?_
    refine .gT rfl rfl ?_
    refine .z zm ?_
    refine .gT rfl rfl ?_
    refine .z zlss (.z zpT (.nil ?_))
    refine (.condD rfl (fun hc17 => ?_) (fun hc17 => ?_))
    · refine .skip ?_
      refine nT ?_
      refine .seq (.block ?_)
      refine .draw mix rfl hs ?_; intro w hs
      refine .z 0 rfl zm ?_; refine .z 1 rfl zm ?_; refine .z 2 rfl zm ?_
      obtain ⟨x, hx⟩ := nth (l := l) (k := k) (by omega)
      have hb0 := Int.emod_nonneg x.a (b := a.sys.many) (by omega)
      have hb1 := Int.emod_lt_of_pos x.a (b := a.sys.many) (by omega)
      refine .ixX (enc := Two.v) (i := 3) hs rfl (by kernel_rfl) .none hl rfl rfl Try.runUnderlying26 Try.sizeOf29 hx rfl ?_; intro b23 o23 hc23
      first | refine .p (i := 4) rfl (by kernel_rfl) .none (q_ixA0 (k := 0) rfl rfl Try.runUnderlying29 Try.sizeOf3 rfl (by decide)) ?_ | refine .p (i := 4) rfl (by kernel_rfl) .none (q_ixA (k := 0) rfl rfl Try.runUnderlying29 Try.sizeOf3 rfl (by decide)) ?_
      refine .r (i := 5) hs rfl (by kernel_rfl) .none (q_loadR rfl Try.isAgg3 (hc23.get 0 rfl)) ?_
      refine .z 6 rfl (zfa fa_api_Ask_0) ?_; refine .z 7 rfl (zfa fa_api_System_0) ?_; refine .y 8 rfl hs Try.isAgg3 ?_; refine .z 11 rfl zm ?_; refine .z 12 rfl zm ?_
      refine .ixX (enc := Two.v) (i := 13) hs rfl (by kernel_rfl) .none hl rfl rfl Try.runUnderlying26 Try.sizeOf29 hx rfl ?_; intro b33 o33 hc33
      first | refine .p (i := 14) rfl (by kernel_rfl) .none (q_ixA0 (k := 1) rfl rfl Try.runUnderlying29 Try.sizeOf3 rfl (by decide)) ?_ | refine .p (i := 14) rfl (by kernel_rfl) .none (q_ixA (k := 1) rfl rfl Try.runUnderlying29 Try.sizeOf3 rfl (by decide)) ?_
      refine .r (i := 15) hs rfl (by kernel_rfl) .none (q_loadR rfl Try.isAgg3 (hc33.get 1 rfl)) ?_
      refine .e1 (i := 9) (by kernel_rfl) rfl rfl .none hs ?_
      refine .call Try.call129 rfl (ref09_mod_spec hs (by omega)) ?_; rintro _ w ⟨rfl, hs⟩
      refine .go ?_
      refine .z 10 rfl zadd ?_
      refine .e1 (i := 16) (by kernel_rfl) rfl rfl .none hs ?_
      refine .call Try.call129 rfl (ref09_mod_spec hs (by decide)) ?_; rintro _ w ⟨rfl, hs⟩
      refine .go ?_
      refine .z 17 rfl (zbd [_, _] bld_api_Probe) ?_
      refine .e1 (i := 18) (by kernel_rfl) rfl rfl .none hs ?_
      refine .buildSlice (cells := (prbOf a.sys.many x).c) hs bls_sl_api_Probe_1 rfl rfl ?_; intro b38 w hs
      refine .go ?_
      refine .e1 (i := 19) (by kernel_rfl) rfl rfl .none hs ?_
      refine .append (ys := (prbOf a.sys.many x).c) hs app_sl_api_Probe_api_Probe rfl rfl hO (.own .here rfl rfl) (by simp [Prb.c, Value.oneCell']) (fun l' h => by rw [Prbs_length, prbsOf_len] at h; omega) ?_; intro v39 en39 w hO' hs
      refine .go ?_
      refine .z 20 rfl zg ?_; refine .done (by kernel_rfl) hs ?_
      refine nB (nT ?_)
      refine .region (.z zm (.z zadd (.z zg (.nil ?_))))
      refine nT ?_
      exact ⟨(k + 1, v39), .consI rfl (by push_cast; omega) (by repeat (first | exact .nil rfl rfl | refine .cons rfl ?_)), ⟨by dsimp only; omega, en39, by rw [prbsOf_snoc hx, Prbs_append]; simpa [Prbs] using hO', hs.sub (by repeat (first | exact Sub.refl _ | constructor | apply Sub.weaken))⟩, by dsimp only; omega⟩
    · refine .exit ?_
      refine xT (xT (xB (nT ?_)))
      refine .regSeq (.z zm (.z zg (.nil ?_)))
      refine .ret (Fin.ret1 Try.results95 rfl ?_)
      have e : prbsOf a.sys.many l k = prbsOf a.sys.many l most := by
        unfold prbsOf
        congr 1
        by_cases h : most ≤ l.length
        · rw [show k = most by omega]
        · rw [List.take_of_length_le (by omega), List.take_of_length_le (by omega)]
      rw [e] at hO
      obtain ⟨H2, g1, g2, hs⟩ := OwnS.publish (cs := (prbsOf a.sys.many l most).map Prb.c) hO (fun c hc => by simp only [List.mem_map] at hc; obtain ⟨x, _, rfl⟩ := hc; rfl) (by omega) (by rw [List.length_map, prbsOf_len]; omega) hs (by repeat constructor)
      exact ⟨H2, g1, g2, hs.out⟩
  · refine .gFs 3 4 true rfl rfl rfl ?_
    refine .z zpF (.nil ?_)
    refine (.condF rfl rfl ?_)
    refine .exit ?_
    refine xT (xT (xB (nT ?_)))
    refine .regSeq (.z zm (.z zg (.nil ?_)))
    refine .ret (Fin.ret1 Try.results95 rfl ?_)
    have e : prbsOf a.sys.many l k = prbsOf a.sys.many l most := by
      unfold prbsOf
      congr 1
      by_cases h : most ≤ l.length
      · rw [show k = most by omega]
      · rw [List.take_of_length_le (by omega), List.take_of_length_le (by omega)]
    rw [e] at hO
    obtain ⟨H2, g1, g2, hs⟩ := OwnS.publish (cs := (prbsOf a.sys.many l most).map Prb.c) hO (fun c hc => by simp only [List.mem_map] at hc; obtain ⟨x, _, rfl⟩ := hc; rfl) (by omega) (by rw [List.length_map, prbsOf_len]; omega) hs (by repeat constructor)
    exact ⟨H2, g1, g2, hs.out⟩
theorem law09_made_spec {H : Heap} {w : World} {σ : List Ent} {cs : List Value} {c : Case} {most : Nat} (hs : St H w σ) (hr : RCase H cs c) (hin : c.raw.In) (h8 : most ≤ 100) :
    Cl Try.prog 22 [.agg cs.toArray, I (most : Int)] w fun u w' => ∃ H1 va vl, HLe H H1 ∧ u = .tuple #[va, vl] ∧ RAsk H1 va (madeQ c.raw) ∧ RPs H1 vl (prbsOf (mN c.raw) c.prbs most) ∧ St H1 w' σ := by
  obtain ⟨rs, vp, rfl, hrr, hp⟩ := hr
  have hrr' := hrr
  obtain ⟨vh, vl, vw, rfl, h1, h2, h3⟩ := hrr'
  have hN := mN_bd c.raw
  refine Cl.of Try.func22 rfl Try.ntmps22 (by simp) (args_cons (k := 0) rfl (args_cons (k := 1) rfl (args0))) ?_
  refine .regSeq ?_
  refine .o (.box hs rfl rfl ?_); intro b2 w hs
  refine .o (.alloc hs Try.zeroValue34 rfl ?_); intro b4 w hs
  refine .z zg (.nil (.regSeq (.z (zfa fa_moorsomlaw09_Case_0) (.y hs (zls [_, _, _, _] Try.isAgg25 Try.sizeOf25) ?_))))
  refine .o (.call Try.call94 rfl (ref09_Made_spec hs hrr hin) ?_); rintro _ w ⟨H1, hle1, ⟨ul, uw, rfl, g1, g2⟩, hs⟩
  obtain ⟨aul, cul, rfl⟩ := RL.shape g1
  obtain ⟨auw, cuw, rfl⟩ := RI.shape g2
  refine .o (.alloc hs Try.zeroValue34 rfl ?_); intro b6 w hs
  refine .o (.stores (vs := [_, _, _, _]) hs rfl rfl Try.sizeOf34 ?_); intro w hs
  refine .nil ?_
  refine .seq (.draw mix rfl hs ?_); intro w hs
  refine .ys 0 rfl hs [_, _, _, _] Try.isAgg34 Try.sizeOf34 ?_; refine .ys 1 rfl hs [_, _, _, _] Try.isAgg34 Try.sizeOf34 ?_; refine .z 2 rfl (zfa fa_moorsomlaw09_Case_1) ?_; refine .y 3 rfl hs Try.isAgg26 ?_; refine .z 4 rfl zm ?_
  refine .e1 (i := 5) (by kernel_rfl) rfl rfl .none hs ?_
  refine .call Try.call95 rfl (ref09_Probes_spec (a := madeQ c.raw) hs ⟨_, _, rfl, g1, g2⟩ (hp.mono hle1) (by show (1 : Int) ≤ (mN c.raw : Int) ∧ (mN c.raw : Int) ≤ 1000; omega) h8) ?_; rintro _ w ⟨H2, hle2, hP, hs⟩
  refine .go ?_
  refine .e1 (i := 6) (by kernel_rfl) rfl rfl .none hs ?_
  refine .stores (vs := [_, _, _, _]) hs rfl rfl Try.sizeOf34 ?_; intro w hs
  refine .go ?_
  refine .z 7 rfl zg ?_; refine .done (by kernel_rfl) hs ?_
  refine .ret ?_
  exact Fin.retD [] [] hs fun w hs => ⟨_, results2 Try.results22 (rcells (vs := [_, _, _, _]) hs rfl Try.isAgg34 Try.sizeOf34) rfl, H2, _, _, hle1.trans hle2, rfl, ⟨_, _, rfl, g1.mono hle2, g2.mono hle2⟩, hP, hs.out⟩
theorem made_worst {a : Quest} {l : List Prb} {n e : Int} {us : List Use} (hM : MadeQ a) (hl : l.length ≤ 8) (hp : ∀ p ∈ l, PrbIn a p) (h : (CPrbR a l e ∧ e ≠ 0 ∧ n = 0 ∧ us = []) ∨ (CPrbR a l 0 ∧ e = 0 ∧ ShownR a l n us)) : e = 0 ∧ ShownR a l n us := by
  rcases h with ⟨h1, h2, _⟩ | ⟨_, h1, h2⟩
  · exact (h2 (h1.uniq (hM.prbs hl hp))).elim
  · exact ⟨h1, h2⟩
end Go.Proofs.Ytiiokdeehlfeeaa

namespace Go.Proofs.Ytiiokdeehlfeeaa
open Go.MW
theorem made_hull {a : Quest} {picks x : List Int} {e : Int} (hM : MadeQ a) (h : PointR a.sys picks x e) : e = 0 ∧ PointP a.sys picks x := by
  cases h with
  | bad h => exact (h (a.sys.ok_iff.2 hM.ok)).elim
  | clash _ h => exact (h hM.hull).elim
  | ok _ _ h => exact ⟨rfl, h⟩
theorem made_val {a : Quest} {p : Prb} {lo hi e : Int} (hM : MadeQ a) (hp : PrbIn a p) (h : ValR a p lo hi e) : e = 0 ∧ ∃ l u, RangeR a.sys (oneW a.sys.many p.u) l u 0 ∧ lo = l - p.t ∧ hi = u + p.t := by
  rcases h with ⟨h1, h2, _⟩ | ⟨_, h1, h2⟩
  · exact (h2 (h1.uniq (hM.prbs (by simp) (fun q hq => by simp only [List.mem_singleton] at hq; subst hq; exact hp)))).elim
  · exact ⟨h1, h2⟩
theorem made_out {a : Quest} {l : List Prb} {vs : List Int} (hM : MadeQ a) (hl : l.length ≤ 8) (hp : ∀ p ∈ l, PrbIn a p) (hv : vs.length = l.length) : COutR a l vs 0 := .ok (hM.prbs hl hp) hv
theorem made_poss {a : Quest} {l : List Prb} {vs : List Int} {b : Bool} {e : Int} (hM : MadeQ a) (hl : l.length ≤ 8) (hp : ∀ p ∈ l, PrbIn a p) (hv : vs.length = l.length) (hs : (behS a l vs).Sound) (h : PossR a l vs b e) : b = true ∧ e = 0 := by
  cases h with
  | bad h he => exact (he (h.uniq (made_out hM hl hp hv))).elim
  | ok _ h => exact ⟨h.2 hs, rfl⟩
theorem made_short {a : Quest} {l : List Prb} {vs : List Int} (hM : MadeQ a) (hl : l.length ≤ 8) : (behS a l vs).lims.length ≤ 150 := by
  have := hM.lims
  simp only [behS, List.length_append, tellTo_length]; omega
theorem made_after {a : Quest} {l : List Prb} {vs : List Int} {q : Quest} {e : Int} (hM : MadeQ a) (hl : l.length ≤ 8) (hp : ∀ p ∈ l, PrbIn a p) (hv : vs.length = l.length) (hs : (behS a l vs).Sound) (h : AfterR a l vs q e) : e = 0 ∧ q = behQ a l vs := by
  cases h with
  | bad h he => exact (he (h.uniq (made_out hM hl hp hv))).elim
  | none _ h => exact (h hs).elim
  | long _ _ h => exact absurd (made_short (vs := vs) hM hl) (by omega)
  | ok _ _ _ => exact ⟨rfl, rfl⟩
theorem made_prb {a : Quest} {l : List Prb} (hM : MadeQ a) (hp : ∀ p ∈ l, PrbIn a p) : ∀ p ∈ l, PrbOk a p := fun p h => hM.prb (hp p h)
theorem made_beh_ask {a : Quest} {l : List Prb} {vs : List Int} (hM : MadeQ a) (hl : l.length ≤ 8) (hp : ∀ p ∈ l, PrbIn a p) (hs : (behS a l vs).Sound) : AskOk (behQ a l vs) := beh_ask hM.ask hl (made_prb hM hp) hs (made_short hM hl)
theorem made_beh_prbs {a : Quest} {l l2 : List Prb} {vs : List Int} (hM : MadeQ a) (hl : l.length ≤ 8) (hp : ∀ p ∈ l, PrbIn a p) (hs : (behS a l vs).Sound) (hl2 : l2.length ≤ 8) (hp2 : ∀ p ∈ l2, PrbIn a p) : CPrbR (behQ a l vs) l2 0 :=
  .ok (made_beh_ask hM hl hp hs) (by omega) fun p h => beh_prb hM.ask hl (made_prb hM hp) hs (hM.prb (hp2 p h))
theorem keeps_beh {a : Quest} {l : List Prb} {vs x : List Int} (hp : ∀ p ∈ l, PrbOk a p) (hx : x.length = a.sys.n) (h0 : gi x 0 = 0) (hb : ∀ v < a.sys.n, -1000000000 ≤ gi x v ∧ gi x v ≤ 1000000000) (hf : Feas a.sys.arcs (gi x)) (ht : ToldP l vs (gi x)) : KeepsP (behS a l vs) x :=
  ⟨hx, h0, hb, (beh_feas hp).2 ⟨hf, ht⟩⟩
end Go.Proofs.Ytiiokdeehlfeeaa
