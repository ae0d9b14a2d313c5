/-
  Texts of these claims, joined: Xt Xu.
-/
import Derived.Test.YtiiokdeehlfeeaaGreatSe
namespace Go.Proofs.YtiiokdeehlfeeaaGreat
open Go.MW
theorem ref09_SameLists_spec {H : Heap} {w : World} {σ : List Ent} {v1 v2 : Value} {rs : List (List Int)} (hs : St H w σ) (h1 : RT H v1 rs) (h2 : RT H v2 rs) : Cl Tryz.prog 14 [v1, v2] w fun v w' => v = .bool true ∧ St H w' σ := by
  obtain ⟨a1, c1, rfl⟩ := h1.shape
  obtain ⟨a2, c2, rfl⟩ := h2.shape
  have hl1 := (RT.len h1).2.2
  refine Cl.of Tryz.func14 rfl Tryz.ntmps14 (by simp) (args_cons (k := 0) rfl (args_cons (k := 1) rfl (args0))) ?_
  refine .regSeq (.z zg (.nil (.seq (.regSeq (.z zm (.z (zlen Tryz.runUnderlying29) (.z zm (.z (zlen Tryz.runUnderlying29) (.z zneq ?_)))))))))
  refine .nil ?_
  refine (.condN rfl (fun hc10 => ?_) (fun hc10 => ?_))
  · refine .regSeq (.z zg (.nil ?_))
    refine .ret (rT (Fin.ret1 Tryz.results14 rfl ?_))
    exact (hc10 rfl).elim
  · refine .skip ?_
    refine nT ?_
    refine .seq (.regSeq (.z zg (.nil (.block ?_))))
    refine .loop (fun p : Nat => ⟨27, [], [(5, I (p : Int)), (0, .slice a1 rs.length c1), (1, .slice a2 rs.length c2)]⟩)
      (fun p w => p ≤ rs.length ∧ St H w σ) (fun p => rs.length - p) 0 (by repeat (first | exact .nil rfl rfl | refine .cons rfl ?_)) ⟨by omega, hs⟩ ?_
    rintro k w ⟨hk, hs⟩
    refine .seq (.regSeq (.z zm (.z zm (.z (zlen Tryz.runUnderlying29) (.z zlss (.nil ?_))))))
    refine (.condD rfl (fun hc14 => ?_) (fun hc14 => ?_))
    · refine .skip ?_
      refine nT ?_
      refine .seq (.block ?_)
      refine .seq (.draw mix rfl hs ?_); intro w hs
      refine .z 0 rfl zm ?_; refine .z 1 rfl zm ?_
      have hk' : k < rs.length := by omega
      refine .ixT (i := 2) hs rfl (by kernel_rfl) .none h1 rfl rfl Tryz.runUnderlying29 Tryz.sizeOf25 hk' rfl ?_; intro b19 o19 a19 c19 hc19 hR19
      refine .r (i := 3) hs rfl (by kernel_rfl) .none (q_loadR rfl Tryz.isAgg25 hc19) ?_
      refine .z 4 rfl zm ?_; refine .z 5 rfl zm ?_
      refine .ixT (i := 6) hs rfl (by kernel_rfl) .none h2 rfl rfl Tryz.runUnderlying29 Tryz.sizeOf25 hk' rfl ?_; intro b23 o23 a23 c23 hc23 hR23
      refine .r (i := 7) hs rfl (by kernel_rfl) .none (q_loadR rfl Tryz.isAgg25 hc23) ?_
      refine .e1 (i := 8) (by kernel_rfl) rfl rfl .none hs ?_
      refine .call Tryz.call62 rfl (ref09_same_spec hs hR19 hR23) ?_; rintro _ w ⟨rfl, hs⟩
      refine .go ?_
      refine .z 9 rfl znot ?_; refine .done (by kernel_rfl) hs ?_
      refine (.cond rfl (fun hc26 => ?_) (fun hc26 => ?_))
      · refine .regSeq (.z zg (.nil ?_))
        refine .ret (rB (rT (rT (rB (rT (Fin.ret1 Tryz.results14 rfl ?_))))))
        simp at hc26
      · refine .skip ?_
        refine nB (nT ?_)
        refine .region (.z zm (.z zadd (.z zg (.nil ?_))))
        refine nT ?_
        exact ⟨k + 1, .consI rfl (by push_cast; omega) (by repeat (first | exact .nil rfl rfl | refine .cons rfl ?_)), ⟨by omega, hs⟩, by omega⟩
    · refine .exit ?_
      refine xT (xT (xB (nT ?_)))
      refine .regSeq (.z zg (.nil ?_))
      refine .ret (Fin.ret1 Tryz.results14 rfl ?_)
      exact ⟨rfl, hs.out⟩
theorem ref09_Choices_spec {H : Heap} {w : World} {σ : List Ent} {n : Int} (hs : St H w σ) :
    Cl Tryz.prog 11 [I n] w fun u w' => ∃ H1 v rs e, HLe H H1 ∧ u = .tuple #[v, I e] ∧ RT H1 v rs ∧ ((¬ (0 ≤ n ∧ n ≤ 8) ∧ e = 1 ∧ rs = []) ∨ ((0 ≤ n ∧ n ≤ 8) ∧ e = 0 ∧ rs = choicesL n.toNat)) ∧ St H1 w' σ := by
  refine Cl.of Tryz.func11 rfl Tryz.ntmps11 (by simp) (args_cons (k := 0) rfl (args0)) ?_
  refine .regSeq (.z zg (.z zg (.nil (.seq (.regSeq (.z zm ?_))))))
  refine .o (.call Tryz.call55 rfl (ref09_in_spec hs) ?_); rintro _ w ⟨rfl, hs⟩
  refine .z znot (.nil ?_)
  refine (.cond rfl (fun hc7 => ?_) (fun hc7 => ?_))
  · refine .regSeq (.z zg (.z zg (.nil ?_)))
    refine .ret (rT (Fin.ret2 Tryz.results11 rfl rfl ?_))
    exact ⟨H, _, [], 1, HLe.refl _, rfl, ⟨[], rfl, RS.nil H 1 none 0, fun i u r h => by simp at h⟩, .inl ⟨by have h9 := hc7; simp at h9; omega, rfl, rfl⟩, hs.out⟩
  · refine .skip ?_
    refine nT ?_
    refine .regSeq (.z zm ?_)
    have hn : 0 ≤ n ∧ n ≤ 8 := by simpa using hc7
    obtain ⟨N, rfl⟩ := Int.eq_ofNat_of_zero_le hn.1
    refine .o (.call Tryz.call56 rfl (ref09_choices_spec (n := N) hs (by omega)) ?_); rintro v9 w ⟨H1, hle1, hRT, hs⟩
    refine .z zg (.nil (.regSeq (.z zm (.z zg (.z zg (.nil ?_))))))
    refine .ret (Fin.ret2 Tryz.results11 rfl rfl ?_)
    exact ⟨H1, _, _, 0, hle1, rfl, hRT, .inr ⟨hn, rfl, rfl⟩, hs.out⟩
theorem ref09_Best_spec {H : Heap} {w : World} {σ : List Ent} {v vl : Value} {a : Quest} {l : List Prb} (hs : St H w σ) (hr : RAsk H v a) (hp : RPs H vl l) :
    Cl Tryz.prog 13 [v, vl] w fun u w' => ∃ H1 x e, HLe H H1 ∧ u = .tuple #[I x, I e] ∧ ((CPrbR a l e ∧ e ≠ 0 ∧ x = 0) ∨ (CPrbR a l 0 ∧ BestP a l x e)) ∧ St H1 w' σ := by
  obtain ⟨ul, uw, rfl, hl, hw⟩ := hr
  obtain ⟨al, cpl, rfl⟩ := RPs.shape hp
  have hcap := (RPs.len hp).2.1
  refine Cl.of Tryz.func13 rfl Tryz.ntmps13 (by simp) (args_cons (k := 0) rfl (args_cons (k := 1) rfl (args0))) ?_
  refine .regSeq ?_
  refine .o (.box hs rfl rfl ?_); intro b2 w hs
  refine .z zg (.z zg (.nil (.regSeq (.y hs (zls [_, _, _, _] Tryz.isAgg27 Tryz.sizeOf27) (.z zm ?_)))))
  refine .o (.call Tryz.call60 rfl (ref09_CheckProbes_spec (a := a) hs ⟨_, _, rfl, hl, hw⟩ hp) ?_); rintro _ w ⟨H1, e, hle1, rfl, hC, hs⟩
  refine .z zg (.nil (.seq (.regSeq (.z zm (.z zneq (.nil ?_))))))
  refine (.condN rfl (fun hc15 => ?_) (fun hc15 => ?_))
  · refine .regSeq (.z zm (.z zg (.z zg (.nil ?_))))
    refine .ret (rT (Fin.ret2 Tryz.results13 rfl rfl ?_))
    exact ⟨H1, 0, e, hle1, rfl, .inl ⟨hC, hc15, rfl⟩, hs.out⟩
  · refine .skip ?_
    refine nT ?_
    refine .seq (.regSeq ?_)
    rw [hc15] at hC
    obtain ⟨hok, hlen, hin⟩ := hC.zero
    refine .z zm (.z (zlen Tryz.runUnderlying28) (.z zeql (.nil ?_)))
    refine (.condD rfl (fun hc19 => ?_) (fun hc19 => ?_))
    · refine .regSeq (.z zg (.z zg (.nil ?_)))
      refine .ret (rT (Fin.ret2 Tryz.results13 rfl rfl ?_))
      exact ⟨H1, 0, 3, hle1, rfl, .inr ⟨hC, .inl ⟨List.length_eq_zero_iff.1 (by omega), rfl, rfl⟩⟩, hs.out⟩
    · refine .skip ?_
      refine nT ?_
      refine .regSeq (.z zg (.nil (.regSeq (.z zg (.nil (.seq (.regSeq (.z zg (.nil ?_)))))))))
      refine .block ?_
      refine .loop (fun p : Nat × Int × Int => ⟨43, [], [(9, I (p.1 : Int)), (7, I p.2.1), (8, I p.2.2), (2, .pointer (some ⟨b2, 0, none⟩)), (1, .slice al l.length cpl)]⟩)
        (fun p w => p.1 ≤ l.length ∧ ∃ b n Hk, HLe H Hk ∧ BestI a l p.1 b n ∧ (p.1 = 0 ∨ (b = p.2.1 ∧ n = p.2.2)) ∧ St Hk w (.blk b2 [I a.sys.many, ul, uw, I a.width] :: σ))
        (fun p => l.length - p.1) (0, 0, 0) (by repeat (first | exact .nil rfl rfl | refine .cons rfl ?_))
        ⟨by omega, _, _, H1, hle1, .none, .inl rfl, hs⟩ ?_
      rintro ⟨k, x, y⟩ w ⟨hk, b, n, Hk, hleK, hB, hkb, hs⟩
      dsimp only at hk hB hkb ⊢
      refine .seq (.regSeq (.z zm (.z zm (.z (zlen Tryz.runUnderlying28) (.z zlss (.nil ?_))))))
      refine (.condD rfl (fun hc23 => ?_) (fun hc23 => ?_))
      · refine .skip ?_
        refine nT ?_
        refine .seq (.block ?_)
        refine .seq (.draw mix rfl hs ?_); intro w hs
        refine .ys 0 rfl hs [_, _, _, _] Tryz.isAgg27 Tryz.sizeOf27 ?_; refine .z 1 rfl zm ?_; refine .z 2 rfl zm ?_; refine .z 3 rfl zm ?_; refine .z 4 rfl zadd ?_; refine .z 5 rfl (q_sliceX (j := k) (k := k + 1) rfl rfl rfl Tryz.runUnderlying28 Tryz.sizeOf54 rfl (by omega) (by omega) (by omega)) ?_
        refine .e1 (i := 6) (by kernel_rfl) rfl rfl .none hs ?_
        refine .call Tryz.call61 rfl (ref09_worst_spec (a := a) (l := oneP l k) hs ⟨_, _, rfl, hl.mono hleK, hw.mono hleK⟩ ((hp.mono hleK).part (by omega) (by omega)) hok (by have := oneP_len l k; omega) (fun p h => (hin p (oneP_mem h)).inn)) ?_; rintro _ w ⟨H2, m, hle2, rfl, hPS, hs⟩
        have hneg : k = 0 → b < 0 := fun e => by
          subst e
          cases hB with
          | none => omega
          | some h => have := h.lt; omega
        have hpos : k ≠ 0 → ¬ b < 0 := fun e => by
          cases hB with
          | none => exact (e rfl).elim
          | some h => omega
        refine .go ?_
        refine .z 7 rfl zg ?_; refine .done (by kernel_rfl) hs ?_
        refine .regSeq (.z zm (.z zeql (.z zm ?_)))
        refine .bifD (t' := 35) rfl (fun hb35 => ?_) (fun hb35 => ?_)
        · refine .gFs 3 2 false rfl rfl rfl ?_
          refine .z zpT (.nil ?_)
          refine (.condT rfl rfl ?_)
          refine .regSeq (.z zm (.z zg (.nil (.region (.z zm (.z zg (.nil ?_)))))))
          refine nB (nT ?_)
          refine .region (.z zm (.z zadd (.z zg (.nil ?_))))
          refine nT ?_
          exact ⟨(k + 1, (k : Int), m), .consI rfl (by push_cast; omega) (by repeat (first | exact .nil rfl rfl | refine .cons rfl ?_)), ⟨by dsimp only; omega, _, _, H2, hleK.trans hle2, hB.better hPS (.inl (hneg (by omega))), .inr ⟨rfl, rfl⟩, hs⟩, by dsimp only; omega⟩
        · refine .gT rfl rfl ?_
          refine .z zm ?_
          refine .gT rfl rfl ?_
          refine .z zm ?_
          refine .gT rfl rfl ?_
          refine .z zlss (.z zpF (.nil ?_))
          refine (.condD rfl (fun hc39 => ?_) (fun hc39 => ?_))
          · refine .regSeq (.z zm (.z zg (.nil (.region (.z zm (.z zg (.nil ?_)))))))
            refine nB (nT ?_)
            refine .region (.z zm (.z zadd (.z zg (.nil ?_))))
            refine nT ?_
            obtain ⟨rfl, rfl⟩ : b = x ∧ n = y := hkb.resolve_left (by omega)
            exact ⟨(k + 1, (k : Int), m), .consI rfl (by push_cast; omega) (by repeat (first | exact .nil rfl rfl | refine .cons rfl ?_)), ⟨by dsimp only; omega, _, _, H2, hleK.trans hle2, hB.better hPS (.inr (by first | omega | simpa using hc39)), .inr ⟨rfl, rfl⟩, hs⟩, by dsimp only; omega⟩
          · refine .skip ?_
            refine nB (nT ?_)
            refine .region (.z zm (.z zadd (.z zg (.nil ?_))))
            refine nT ?_
            obtain ⟨rfl, rfl⟩ : b = x ∧ n = y := hkb.resolve_left (by omega)
            exact ⟨(k + 1, b, n), .consI rfl (by push_cast; omega) (by repeat (first | exact .nil rfl rfl | refine .cons rfl ?_)), ⟨by dsimp only; omega, _, _, H2, hleK.trans hle2, hB.keep hPS (hpos (by omega)) (by first | omega | simpa using hc39), .inr ⟨rfl, rfl⟩, hs⟩, by dsimp only; omega⟩
      · refine .exit ?_
        refine xT (xT (xB (nT ?_)))
        refine .regSeq (.z zm (.z zg (.z zg (.nil ?_))))
        refine .ret (Fin.ret2 Tryz.results13 rfl rfl ?_)
        obtain ⟨rfl, rfl⟩ : b = x ∧ n = y := hkb.resolve_left (by omega)
        obtain rfl : k = l.length := by omega
        refine ⟨Hk, _, 0, hleK, rfl, .inr ⟨hC, .inr ?_⟩, hs.out⟩
        generalize hkl : l.length = k at hB ⊢
        cases hB with
        | none => omega
        | @some _ i _ h => exact ⟨i, _, rfl, rfl, h⟩
theorem BestP.uniq {a : Quest} {l : List Prb} {x y e f : Int} (h : BestP a l x e) (g : BestP a l y f) : x = y ∧ e = f := by
  rcases h with ⟨h1, h2, h3⟩ | ⟨i, n, h1, h2, h3⟩
  · rcases g with ⟨g1, g2, g3⟩ | ⟨j, m, g1, g2, g3⟩
    · exact ⟨by omega, by omega⟩
    · subst h1; have := g3.lt; simp at this
  · rcases g with ⟨g1, g2, g3⟩ | ⟨j, m, g1, g2, g3⟩
    · subst g1; have := h3.lt; simp at this
    · refine ⟨?_, by omega⟩
      have e1 := h3.le j g3.lt m g3.here
      have e2 := g3.le i h3.lt n h3.here
      rcases Nat.lt_trichotomy i j with e | e | e
      · have := g3.first i e n h3.here; omega
      · omega
      · have := h3.first j e m g3.here; omega
end Go.Proofs.YtiiokdeehlfeeaaGreat

namespace Go.Proofs.YtiiokdeehlfeeaaGreat
open Go.MW
theorem shown_proofU {a : Quest} {l : List Prb} {n : Int} {us : List Use} (hok : AskOk a) (h : ShownR a l n us) : ProofR (dblS a l) (dblW a.ws) n us 0 := by
  obtain ⟨_, h1, _, ts, h3, rfl, rfl⟩ := h
  refine .ok (askErr_zero h1 ?_ (dbl_sizes hok)) (flow_proof h1 h3)
  have h4 := hok.wl
  have h5 := hok.ok.m0
  rw [dblW_length]
  simp only [Syst.n, dblS] at h4 ⊢
  omega
theorem apart_valw {a : Quest} {A B : List Int} (hok : AskOk a) (hA : gi A 0 = 0) (hB : gi B 0 = 0) : apartV a A B a.ws.length = valw a.ws a.sys.n (gi B) - valw a.ws a.sys.n (gi A) := by
  unfold apartV valw
  rw [← sumTo_diff, hok.wl]
  refine sumTo_congr fun v hv => ?_
  rw [hA, hB, Int.sub_zero, Int.sub_zero, Int.mul_sub]
theorem TwinF.wrap {a : Quest} {l : List Prb} {A B : List Int} (hok : AskOk a) (h : TwinF a l A B) (hin : ∀ p ∈ l, PrbIn a p) : IntKind.i64.wrap (apartV a A B a.ws.length) = apartV a A B a.ws.length := by
  obtain ⟨lo, hi, hR⟩ := hok.range
  have hb := hR.bd
  obtain ⟨⟨x, y, g1, g2⟩, g3⟩ := h.most
  have h1 := Pair.le hR g1
  obtain ⟨z, hz⟩ := Pair.some hok hin
  have h2 := g3 z z hz
  exact i64wrap (by omega)
theorem meetVals_get {A B : List Int} {l : List Prb} {i : Nat} (h : i < l.length) : gi (meetVals A B l) i = (gi A (getP l i).u.toNat + gi B (getP l i).u.toNat) / 2 := by
  have := getP_get h
  simp [gi, List.getD, meetVals, this]
theorem meet_told {a : Quest} {l : List Prb} {A B : List Int} (hF : TwinF a l A B) : ToldP l (meetVals A B l) (gi A) ∧ ToldP l (meetVals A B l) (gi B) := by
  have h0 := hF.kA.zero
  have h1 := hF.kB.zero
  refine ⟨fun i hi => ?_, fun i hi => ?_⟩ <;> (have := hF.near _ (getP_mem hi); rw [meetVals_get hi]; omega)
theorem meet_width {a : Quest} {l : List Prb} {A B : List Int} {lo hi n : Int} (hok : AskOk a) (hp : ∀ p ∈ l, PrbOk a p) (hF : TwinF a l A B) (hR : RangeR (behS a l (meetVals A B l)) a.ws lo hi 0) (g : PairS a l n) : hi - lo = n := by
  have h1 := beh_width hp hR g
  obtain ⟨tA, tB⟩ := meet_told hF
  have e1 := hR.ends.all (gi A) ((beh_feas hp).2 ⟨hF.kA.feas, tA⟩)
  have e2 := hR.ends.all (gi B) ((beh_feas hp).2 ⟨hF.kB.feas, tB⟩)
  have e3 := hF.most.uniq g
  rw [apart_valw hok hF.kA.zero hF.kB.zero] at e3
  have e : (behS a l (meetVals A B l)).n = a.sys.n := rfl
  rw [e] at e1 e2
  omega
end Go.Proofs.YtiiokdeehlfeeaaGreat
