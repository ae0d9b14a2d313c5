/-
  Texts of these claims, joined: Xs Xt Xu Xv Xw Xx Xy.
-/
import Derived.Test.YtiiokdeehlfeeaaGreatVd
namespace Go.Proofs.YtiiokdeehlfeeaaGreat
open Go.MW
theorem slices_AppendSeq_spec {H : Heap} {w : World} {σ : List Ent} {gf : Nat} {cap : List Value} {L : List (List Int)} {E : Nat → Heap → List Value → Prop} (hs : St H w σ) (hit : IterE Tryz.prog gf cap H L.length E) (hc : ∀ args w, (callFunc gf args).run Tryz.prog w = .ok (.enter gf args) w)
    (hE : ∀ k H' z, E k H' z → ∃ v c, z = [v] ∧ L[k]? = some c ∧ RI H' v c) (hL : L.length ≤ 1000) :
    Cl Tryz.prog 138 [.slice none 0 0, .func (.func gf) #[] cap.toArray] w fun u w' => ∃ H1, HLe H H1 ∧ RT H1 u L ∧ St H1 w' σ := by
  refine Cl.of Tryz.func138 rfl Tryz.ntmps138 (by simp) (args_cons (k := 0) rfl (args_cons (k := 1) rfl (args0))) ?_
  refine .regSeq ?_
  refine .o (.box hs rfl rfl ?_); intro b2 w hs
  refine .z zg (.nil (.seq (.regSeq (.z zm (.nil (.block ?_))))))
  refine .rangeE (gf := gf) (cap := cap) (N := L.length) (E := E) (σb := [.blk b2 [.slice none 0 0], .nul]) (σf := σ)
    (hs.nul.perm (.swap _ _ _)) trivial rfl hit hc (fun _ _ z h => by obtain ⟨v, _, hz, _⟩ := hE _ _ _ h; rw [hz]; rfl) rfl
    (I := fun k H' σb => ∃ us v en, σb = [.blk b2 [v], en] ∧ HLe H H' ∧ OwnS 1 v us en ∧ RLs H' us (L.take k)) (Ix := fun _ _ _ => False)
    (fun k _ _ σ g1 ⟨us, v, en, g2, g3, g4, g5⟩ => ⟨us, v, en, g2, g3.trans g1, g4, g5.mono g1⟩)
    (fun _ _ _ _ _ h => h)
    ⟨[], _, .nul, rfl, HLe.refl _, .nil 1 none, RLs.nil H⟩ ?_ ?_ (fun D c H' σb w _ h _ => h.elim)
  · rintro ll k hk z H2 σb2 σf2 w hle2 hz ⟨us, v, en, rfl, hq2, hO, hR⟩ hs ⟨rr, hrr⟩
    obtain ⟨vc, c, rfl, hcc, hRc⟩ := hE _ _ _ hz
    obtain ⟨av, lv, cv, rfl, hlv⟩ := hO.shape
    obtain ⟨ac, cc, rfl⟩ := RI.shape hRc
    refine .region (.z zg (.nil ?_))
    refine nT ?_
    refine ⟨H2, _, HLe.refl _, hs, ?_⟩; rintro w σf4 - hs
    refine .block (.region (.y hs (zld Tryz.isAgg29) (.z zm ?_)))
    refine .o (.buildSlice (cells := [.slice ac c.length cc]) hs bls_slLL_int_1 rfl rfl ?_); intro b10 w hs
    refine .o (.append (ys := [.slice ac c.length cc]) hs app_slLL_int_LL_int rfl rfl hO (.own .here rfl rfl) (by simp [Value.oneCell']) (fun l' h => by have := hR.1; rw [List.length_take] at this; omega) ?_); intro v11 en11 w hO2 hs
    obtain ⟨a11, l11, c11, rfl, h11⟩ := hO2.shape
    refine .o (.store hs rfl rfl Tryz.sizeOf29 ?_); intro w hs
    refine .nil ?_
    refine nB ?_
    exact ⟨H2, [.blk b2 [.slice a11 l11 c11], en11], HLe.refl _, (hs.sub (by repeat (first | exact Sub.refl _ | constructor | apply Sub.weaken)) : St H2 w (.blk b2 _ :: en11 :: σf4)), _, _, _, rfl, hq2, hO2, by rw [take_snoc hcc]; exact hR.snoc hRc⟩
  · rintro D H2 σb2 w hle2 ⟨us, v, en, rfl, hq2, hO, hR⟩ hs
    rw [List.take_length] at hR
    obtain ⟨av, lv, cv, rfl, hlv⟩ := hO.shape
    refine nB (nT ?_)
    refine .regSeq (.y hs (zld Tryz.isAgg29) (.z zg (.nil ?_)))
    refine .ret ?_
    obtain ⟨H3, hle3, hRT, hs⟩ := hR.publish hO (by rw [hR.1]; exact hL) hs (.there (.there .here))
    exact Fin.retD [D] [.blk b2 [.slice av lv cv]] (hs.perm (.swap _ _ _)) fun w hs => ⟨_, results1 Tryz.results138 rfl, H3, hle2.trans hle3, hRT, hs.out⟩
theorem slices_Collect_spec {H : Heap} {w : World} {σ : List Ent} {gf : Nat} {cap : List Value} {L : List (List Int)} {E : Nat → Heap → List Value → Prop} (hs : St H w σ) (hit : IterE Tryz.prog gf cap H L.length E) (hc : ∀ args w, (callFunc gf args).run Tryz.prog w = .ok (.enter gf args) w)
    (hE : ∀ k H' z, E k H' z → ∃ v c, z = [v] ∧ L[k]? = some c ∧ RI H' v c) (hL : L.length ≤ 1000) :
    Cl Tryz.prog 53 [.func (.func gf) #[] cap.toArray] w fun u w' => ∃ H1, HLe H H1 ∧ RT H1 u L ∧ St H1 w' σ := by
  refine Cl.of Tryz.func53 rfl Tryz.ntmps53 (by simp) (args_cons (k := 0) rfl (args0)) ?_
  refine .regSeq (.z zg (.nil (.regSeq (.z zm ?_))))
  refine .o (.call Tryz.call138 rfl (slices_AppendSeq_spec hs hit hc hE hL) ?_); rintro v4 w ⟨H1, hle1, hRT, hs⟩
  refine .z zg (.nil ?_)
  refine .ret (Fin.ret1 Tryz.results53 rfl ?_)
  exact ⟨H1, hle1, hRT, hs.out⟩
theorem probe_Choices_spec {H : Heap} {w : World} {σ : List Ent} {n : Int} (hs : St H w σ) :
    Cl Tryz.prog 10 [I n] w fun u w' => ∃ H1 v rs e, HLe H H1 ∧ u = .tuple #[v, I e] ∧ RT H1 v rs ∧ ((¬ (0 ≤ n ∧ n ≤ 8) ∧ e = 1 ∧ rs = []) ∨ ((0 ≤ n ∧ n ≤ 8) ∧ e = 0 ∧ rs = choicesL n.toNat)) ∧ St H1 w' σ := by
  refine Cl.of Tryz.func10 rfl Tryz.ntmps10 (by simp) (args_cons (k := 0) rfl (args0)) ?_
  refine .regSeq (.z zg (.z zg (.nil (.seq (.regSeq (.z zm ?_))))))
  refine .o (.call Tryz.call52 rfl (probe_isWithin_spec hs) ?_); rintro _ w ⟨rfl, hs⟩
  refine .z znot (.nil ?_)
  refine (.cond rfl (fun hc6 => ?_) (fun hc6 => ?_))
  · refine .regSeq (.z zg (.z zg (.nil ?_)))
    refine .ret (rT (Fin.ret2 Tryz.results10 rfl rfl ?_))
    exact ⟨H, _, [], 1, HLe.refl _, rfl, ⟨[], rfl, RS.nil H 1 none 0, fun i u r h => by simp at h⟩, .inl ⟨by have h9 := hc6; simp at h9; omega, rfl, rfl⟩, hs.out⟩
  · refine .skip ?_
    refine nT ?_
    refine .regSeq (.z zm ?_)
    have hn : 0 ≤ n ∧ n ≤ 8 := by simpa using hc6
    obtain ⟨N, rfl⟩ := Int.eq_ofNat_of_zero_le hn.1
    refine .o (.call Tryz.call54 rfl (probe_choices_spec (n := N) hs (by omega)) ?_); rintro _ w ⟨H1, b8, hle1, rfl, hit, hs⟩
    refine .o (.call Tryz.call53 rfl (slices_Collect_spec (L := choicesL N) hs hit Tryz.call139 (fun k H' z ⟨v, c, h1, h2, _, h3⟩ => ⟨v, c, h1, h2, h3⟩) (by have := choicesL_length (n := N) (by omega); omega)) ?_); rintro v9 w ⟨H2, hle2, hRT, hs⟩
    refine .z zg (.z zg (.nil ?_))
    refine .ret (Fin.ret2 Tryz.results10 rfl rfl ?_)
    exact ⟨H2, _, _, 0, hle1.trans hle2, rfl, hRT, .inr ⟨hn, rfl, rfl⟩, hs.out⟩
end Go.Proofs.YtiiokdeehlfeeaaGreat

namespace Go.Proofs.YtiiokdeehlfeeaaGreat
open Go.MW
theorem BestP.uniq {a : Quest} {l : List Prb} {x y e f : Int} (h : BestP a l x e) (g : BestP a l y f) : x = y ∧ e = f := by
  rcases h with ⟨h1, h2, h3⟩ | ⟨i, n, h1, h2, h3⟩
  · rcases g with ⟨g1, g2, g3⟩ | ⟨j, m, g1, g2, g3⟩
    · exact ⟨by omega, by omega⟩
    · subst h1; have := g3.lt; simp at this
  · rcases g with ⟨g1, g2, g3⟩ | ⟨j, m, g1, g2, g3⟩
    · subst g1; have := h3.lt; simp at this
    · refine ⟨?_, by omega⟩
      have e1 := h3.le j g3.lt m g3.here
      have e2 := g3.le i h3.lt n h3.here
      rcases Nat.lt_trichotomy i j with e | e | e
      · have := g3.first i e n h3.here; omega
      · omega
      · have := h3.first j e m g3.here; omega
end Go.Proofs.YtiiokdeehlfeeaaGreat

namespace Go.Proofs.YtiiokdeehlfeeaaGreat
open Go.MW
theorem shown_proofU {a : Quest} {l : List Prb} {n : Int} {us : List Use} (hok : AskOk a) (h : ShownR a l n us) : ProofR (dblS a l) (dblW a.ws) n us 0 := by
  obtain ⟨_, h1, _, ts, h3, rfl, rfl⟩ := h
  refine .ok (askErr_zero h1 ?_ (dbl_sizes hok)) (flow_proof h1 h3)
  have h4 := hok.wl
  have h5 := hok.ok.m0
  rw [dblW_length]
  simp only [Syst.n, dblS] at h4 ⊢
  omega
theorem apart_valw {a : Quest} {A B : List Int} (hok : AskOk a) (hA : gi A 0 = 0) (hB : gi B 0 = 0) : apartV a A B a.ws.length = valw a.ws a.sys.n (gi B) - valw a.ws a.sys.n (gi A) := by
  unfold apartV valw
  rw [← sumTo_diff, hok.wl]
  refine sumTo_congr fun v hv => ?_
  rw [hA, hB, Int.sub_zero, Int.sub_zero, Int.mul_sub]
theorem TwinF.wrap {a : Quest} {l : List Prb} {A B : List Int} (hok : AskOk a) (h : TwinF a l A B) (hin : ∀ p ∈ l, PrbIn a p) : IntKind.i64.wrap (apartV a A B a.ws.length) = apartV a A B a.ws.length := by
  obtain ⟨lo, hi, hR⟩ := hok.range
  have hb := hR.bd
  obtain ⟨⟨x, y, g1, g2⟩, g3⟩ := h.most
  have h1 := Pair.le hR g1
  obtain ⟨z, hz⟩ := Pair.some hok hin
  have h2 := g3 z z hz
  exact i64wrap (by omega)
theorem meetVals_get {A B : List Int} {l : List Prb} {i : Nat} (h : i < l.length) : gi (meetVals A B l) i = (gi A (getP l i).u.toNat + gi B (getP l i).u.toNat) / 2 := by
  have := getP_get h
  simp [gi, List.getD, meetVals, this]
theorem meet_told {a : Quest} {l : List Prb} {A B : List Int} (hF : TwinF a l A B) : ToldP l (meetVals A B l) (gi A) ∧ ToldP l (meetVals A B l) (gi B) := by
  have h0 := hF.kA.zero
  have h1 := hF.kB.zero
  refine ⟨fun i hi => ?_, fun i hi => ?_⟩ <;> (have := hF.near _ (getP_mem hi); rw [meetVals_get hi]; omega)
theorem meet_width {a : Quest} {l : List Prb} {A B : List Int} {lo hi n : Int} (hok : AskOk a) (hp : ∀ p ∈ l, PrbOk a p) (hF : TwinF a l A B) (hR : RangeR (behS a l (meetVals A B l)) a.ws lo hi 0) (g : PairS a l n) : hi - lo = n := by
  have h1 := beh_width hp hR g
  obtain ⟨tA, tB⟩ := meet_told hF
  have e1 := hR.ends.all (gi A) ((beh_feas hp).2 ⟨hF.kA.feas, tA⟩)
  have e2 := hR.ends.all (gi B) ((beh_feas hp).2 ⟨hF.kB.feas, tB⟩)
  have e3 := hF.most.uniq g
  rw [apart_valw hok hF.kA.zero hF.kB.zero] at e3
  have e : (behS a l (meetVals A B l)).n = a.sys.n := rfl
  rw [e] at e1 e2
  omega
end Go.Proofs.YtiiokdeehlfeeaaGreat

namespace Go.Proofs.YtiiokdeehlfeeaaGreat
open Go.MW
theorem ref09_Chosen_spec {H : Heap} {w : World} {σ : List Ent} {v vc : Value} {l : List Prb} {c : List Int} (hs : St H w σ) (hr : RPs H v l) (hc : RI H vc c) (hin : ∀ x ∈ c, 0 ≤ x ∧ x < l.length) (hc3 : c.length ≤ 1000) :
    Cl Tryz.prog 41 [v, vc] w fun u w' => ∃ H1, HLe H H1 ∧ RPs H1 u (chosenL l c) ∧ St H1 w' σ := by
  obtain ⟨al, cpl, rfl⟩ := RPs.shape hr
  obtain ⟨ac, cc, rfl⟩ := RI.shape hc
  refine Cl.of Tryz.func41 rfl Tryz.ntmps41 (by simp) (args_cons (k := 0) rfl (args_cons (k := 1) rfl (args0))) ?_
  refine .regSeq (.z zg (.nil (.regSeq (.z zg (.nil (.seq (.regSeq (.z zg (.nil ?_)))))))))
  refine .block ?_
  refine .loop (fun p : Nat × Value => ⟨24, [], [(6, I (p.1 : Int)), (5, p.2), (0, .slice al l.length cpl), (1, .slice ac c.length cc)]⟩)
    (fun p w => p.1 ≤ c.length ∧ ∃ en, OwnS 2 p.2 (Prbs (chosenL l (c.take p.1))) en ∧ St H w (en :: σ))
    (fun p => c.length - p.1) (0, .slice none 0 0) (by repeat (first | exact .nil rfl rfl | refine .cons rfl ?_))
    ⟨by omega, _, .nil 2 none, hs.nul⟩ ?_
  rintro ⟨k, v5⟩ w ⟨hk, en, hO, hs⟩
  dsimp only at hk hO ⊢
  refine .seq (.regSeq (.z zm (.z zm (.z (zlen Tryz.runUnderlying25) (.z zlss (.nil ?_))))))
  refine (.condD rfl (fun hc10 => ?_) (fun hc10 => ?_))
  · refine .skip ?_
    refine nT ?_
    refine .seq (.block (.region ?_))
    have hk' : k < c.length := by omega
    have hx := gi_get (l := c) hk'
    have hxi := hin _ (List.mem_of_getElem? hx)
    obtain ⟨p, hp⟩ := nth (l := l) (k := (gi c k).toNat) (by omega)
    refine .z zm (.z zm (.z zm (.z zm ?_)))
    refine .ixY hs hc rfl rfl Tryz.runUnderlying25 Tryz.sizeOf3 hx rfl ?_; intro b17 o17 hc17
    refine .q hs (q_loadR rfl Tryz.isAgg3 hc17) ?_
    refine .ixX (enc := Prb.c) hs hr rfl rfl Tryz.runUnderlying28 Tryz.sizeOf54 hp (by omega) ?_; intro b19 o19 hc19
    refine .q hs (q_loadsR (vs := p.c) rfl Tryz.isAgg54 Tryz.sizeOf54 hc19) ?_
    refine .o (.buildSlice (cells := p.c) hs bls_sl_api_Probe_1 rfl rfl ?_); intro b21 w hs
    refine .o (.append (ys := p.c) hs app_sl_api_Probe_api_Probe rfl rfl hO (.own .here rfl rfl) (by simp [Prb.c, Value.oneCell']) (fun l' h => by have := chosenL_length (l := l) (c := c.take k); rw [List.length_take] at this; rw [Prbs_length] at h; omega) ?_); intro v22 en22 w hO2 hs
    refine .z zg (.nil ?_)
    refine nB (nT ?_)
    refine .region (.z zm (.z zadd (.z zg (.nil ?_))))
    refine nT ?_
    exact ⟨(k + 1, v22), .consI rfl (by push_cast; omega) (by repeat (first | exact .nil rfl rfl | refine .cons rfl ?_)), ⟨by dsimp only; omega, _, by
      rw [take_snoc hx, chosenL_snoc hp, Prbs_append]; simpa [Prbs] using hO2, hs.sub (by repeat (first | exact Sub.refl _ | constructor | apply Sub.weaken))⟩, by dsimp only; omega⟩
  · refine .exit ?_
    refine xT (xT (xB (nT ?_)))
    refine .regSeq (.z zm (.z zg (.nil ?_)))
    refine .ret (Fin.ret1 Tryz.results41 rfl ?_)
    obtain rfl : k = c.length := by omega
    rw [List.take_length] at hO
    obtain ⟨H2, g1, g2, hs⟩ := OwnS.publish (m := 2) (cs := (chosenL l c).map Prb.c) hO (fun c hc => by simp only [List.mem_map] at hc; obtain ⟨x, _, rfl⟩ := hc; rfl) (by omega) (by rw [List.length_map]; have := chosenL_length (l := l) (c := c); omega) hs .here
    exact ⟨H2, g1, g2, hs⟩
theorem choice_ok {a : Quest} {l : List Prb} (hin : ∀ p ∈ l, PrbIn a p) {c : List Int} (hc : c ∈ choicesL l.length) : (chosenL l c).length ≤ 8 ∧ (∀ p ∈ chosenL l c, PrbIn a p) ∧ c.length ≤ 3 ∧ ∀ x ∈ c, 0 ≤ x ∧ x < (l.length : Int) := by
  obtain ⟨h1, h2⟩ := choicesL_in hc
  exact ⟨by have := chosenL_length (l := l) (c := c); omega, fun p hp => hin p (chosenL_mem hp), h1, h2⟩
end Go.Proofs.YtiiokdeehlfeeaaGreat

namespace Go.Proofs.YtiiokdeehlfeeaaGreat
open Go.MW
set_option maxRecDepth 100000 in
theorem choices_nodup : ∀ n, n < 9 → (choicesL n).Nodup := by decide +kernel
theorem choices_inj {n i j : Nat} {c : List Int} (hn : n < 9) (h1 : (choicesL n)[i]? = some c) (h2 : (choicesL n)[j]? = some c) : i = j :=
  (List.getElem?_inj (List.getElem?_eq_some_iff.1 h1).1 (choices_nodup n hn)).1 (h1.trans h2.symm)
def gtw (p : Pck) (j : Nat) : List Int × List Int := p.fails.getD j ([], [])
theorem gtw_get {p : Pck} {j : Nat} (h : j < p.fails.length) : p.fails[j]? = some (gtw p j) := by
  simp [gtw, List.getD, List.getElem?_eq_getElem h]
structure GoodK (a : Quest) (l : List Prb) (p : Pck) (k : Nat) : Prop where
  here : (choicesL l.length)[k]? = some p.probes
  len : p.fails.length = k
  width : p.width ≤ a.width
  worst : CWR a (chosenL l p.probes) p.width p.bound p.uses 0
  fails : ∀ (j : Nat) (cj : List Int), j < k → (choicesL l.length)[j]? = some cj → ∃ n, ApR a (chosenL l cj) (gtw p j).1 (gtw p j).2 n 0 ∧ a.width < n
def PickR (a : Quest) (l : List Prb) (p : Pck) (e : Int) : Prop := (CPrbR a l e ∧ e ≠ 0) ∨ (CPrbR a l 0 ∧ ((e = 0 ∧ ∃ k, GoodK a l p k) ∨ (e = 93 ∧ ¬ ∃ k, GoodK a l p k)))
theorem PickR.uniq {a : Quest} {l : List Prb} {p : Pck} {e f : Int} (h : PickR a l p e) (g : PickR a l p f) : e = f := by
  rcases h with ⟨h1, h2⟩ | ⟨h1, h2⟩
  · rcases g with ⟨g1, g2⟩ | ⟨g1, g2⟩
    · exact h1.uniq g1
    · exact (h2 (h1.uniq g1)).elim
  · rcases g with ⟨g1, g2⟩ | ⟨g1, g2⟩
    · exact (g2 (g1.uniq h1)).elim
    · rcases h2 with ⟨h2, h3⟩ | ⟨h2, h3⟩ <;> rcases g2 with ⟨g2, g3⟩ | ⟨g2, g3⟩
      · omega
      · exact (g3 h3).elim
      · exact (h3 g3).elim
      · omega
theorem RPick.twin {H : Heap} {p : Pck} {css : List (List Value)} (h1 : css.length = p.fails.length) (h2 : ∀ (j : Nat) (c : List Value) (t : List Int × List Int), css[j]? = some c → p.fails[j]? = some t → TwC H c t) {j : Nat} (hj : j < p.fails.length) :
    ∃ va vb, css[j]? = some [va, vb] ∧ RI H va (gtw p j).1 ∧ RI H vb (gtw p j).2 := by
  have hc : css[j]? = some (css[j]'(by omega)) := List.getElem?_eq_getElem _
  obtain ⟨va, vb, e, g1, g2⟩ := h2 j _ _ hc (gtw_get hj)
  exact ⟨va, vb, by rw [hc, e], g1, g2⟩
end Go.Proofs.YtiiokdeehlfeeaaGreat

namespace Go.Proofs.YtiiokdeehlfeeaaGreat
open Go.MW
def UptoK (a : Quest) (l : List Prb) (p : Pck) (k : Nat) : Prop :=
  ∀ (j : Nat) (cj : List Int), j < k → (choicesL l.length)[j]? = some cj → cj ≠ p.probes ∧ j < p.fails.length ∧ ∃ n, ApR a (chosenL l cj) (gtw p j).1 (gtw p j).2 n 0 ∧ a.width < n
theorem UptoK.good {a : Quest} {l : List Prb} {p : Pck} {k k' : Nat} (h : UptoK a l p k) (g : GoodK a l p k') : k ≤ k' := by
  apply Classical.byContradiction
  intro hn
  exact (h k' _ (by omega) g.here).1 rfl
set_option maxHeartbeats 8000000 in
theorem probe_CheckPick_1 {H : Heap} {w : World} {σ : List Ent} {v vl vp vu vf : Value} {a : Quest} {l : List Prb} {p : Pck} {css : List (List Value)} {bl bk : Nat} (hs : St H w σ) (hr : RAsk H v a) (hb : Row H bl [vl]) (hbk : Row H bk [vp, I p.width, I p.bound, vu, vf]) (hp : RPs H vl l)
    (hkp : RI H vp p.probes) (hku : RU H vu p.uses) (hkf : RS H 2 vf css) (hkl : css.length = p.fails.length) (hkt : ∀ (j : Nat) (c : List Value) (t : List Int × List Int), css[j]? = some c → p.fails[j]? = some t → TwC H c t) (hC : CPrbR a l 0) :
    Cl Tryz.prog 90 [v, .pointer (some ⟨bl, 0, none⟩), .pointer (some ⟨bk, 0, none⟩)] w fun u w' => ∃ H1 e, HLe H H1 ∧ u = .tuple #[.agg #[], I e] ∧ ((e = 0 ∧ ∃ k, GoodK a l p k) ∨ (e = 93 ∧ ¬ ∃ k, GoodK a l p k)) ∧ St H1 w' σ := by
  obtain ⟨ul, uw, rfl, hl, hw⟩ := hr
  obtain ⟨al, cpl, rfl⟩ := RPs.shape hp
  obtain ⟨akp, ckp, rfl⟩ := RI.shape hkp
  obtain ⟨aku, cku, rfl⟩ := RU.shape hku
  obtain ⟨akf, ckf, rfl⟩ := RS.shape hkf
  have hkf' : RS H 2 (.slice akf css.length ckf) (css.map fun c => c) := by simpa using hkf
  obtain ⟨hok, hlen, hin0⟩ := hC.zero
  have hin : ∀ p ∈ l, PrbIn a p := fun p h => (hin0 p h).inn
  have hLn := choicesL_length (n := l.length) (by omega)
  refine Cl.of Tryz.func90 rfl Tryz.ntmps90 (by simp) (args_cons (k := 0) rfl (args_cons (k := 1) rfl (args_cons (k := 2) rfl (args0)))) ?_
  refine .regSeq ?_
  refine .o (.box hs rfl rfl ?_); intro b3 w hs
  refine .o (.alloc hs Tryz.zeroValue130 rfl ?_); intro b4 w hs
  refine .o (.alloc hs Tryz.zeroValue30 rfl ?_); intro b5 w hs
  refine .nil (.regSeq ?_)
  refine .o (.alloc hs Tryz.zeroValue3 rfl ?_); intro b6 w hs
  refine .o (.store hs rfl rfl Tryz.sizeOf3 ?_); intro w hs
  refine .nil ?_
  obtain ⟨Hq, hleq, hrq, hs⟩ := hs.publish (b := b3) (by repeat constructor)
  have hbq := (hb.mono hleq).at 0
  refine .cut (fun fs w => ∃ D Hx z, FSub fs ⟨73, marks [D], [(4, .pointer (some ⟨b4, 0, none⟩)), (5, .pointer (some ⟨b5, 0, none⟩))]⟩ ∧ HLe Hq Hx ∧ (¬ ∃ k, GoodK a l p k) ∧ St Hx w (.obj D (.deferred (some [])) :: .blk b6 [I z] :: .blk b5 [I 0] :: .blk b4 [] :: σ)) ?_ ?_
  · refine .regSeq (.y hs (zld Tryz.isAgg28) (.z (zlen Tryz.runUnderlying28) ?_))
    refine .o (.call Tryz.call54 rfl (probe_choices_spec hs (n := l.length) (by omega)) ?_); rintro _ w ⟨Hc, bc, hlec, rfl, hit, hs⟩
    refine .nil (.block ?_)
    refine .rangeE (gf := 139) (cap := [.pointer (some ⟨bc, 0, none⟩)]) (N := (choicesL l.length).length) (E := ChE l.length) (σb := [.blk b6 [I 0], .blk b5 [I 0], .blk b4 []]) (σf := σ)
      hs trivial rfl hit Tryz.call139 (fun _ _ z ⟨v, _, hz, _⟩ => by rw [hz]; rfl) rfl
      (I := fun k H' σb => σb = [.blk b6 [I (k : Int)], .blk b5 [I 0], .blk b4 []] ∧ HLe Hc H' ∧ UptoK a l p k)
      (Ix := fun c H' σb => HLe Hc H' ∧ ((c = .ret ∧ ∃ e z, σb = [.blk b6 [I z], .blk b5 [I e], .blk b4 []] ∧ ((e = 0 ∧ ∃ k, GoodK a l p k) ∨ (e = 93 ∧ ¬ ∃ k, GoodK a l p k))) ∨ (c = .exit 0 ∧ ∃ z, σb = [.blk b6 [I z], .blk b5 [I 0], .blk b4 []] ∧ ¬ ∃ k, GoodK a l p k)))
      (fun k _ _ σ g1 ⟨g2, g3, g4⟩ => ⟨g2, g3.trans g1, g4⟩) (fun c _ _ σ g1 ⟨g2, g3⟩ => ⟨g2.trans g1, g3⟩)
      ⟨rfl, HLe.refl _, fun j cj h => by omega⟩ ?_ ?_ ?_
    · rintro ll k hk z H2 σb2 σf2 w hle2 ⟨vc, cc, rfl, hcc, hnn, hRc⟩ ⟨rfl, hc2, hU⟩ hs ⟨rr, hrr⟩
      obtain ⟨q1, q2, q3, q4⟩ := choice_ok hin (List.mem_of_getElem? hcc)
      obtain ⟨ac, cpc, rfl⟩ := RI.shape hRc
      refine .region (.z zg (.nil ?_))
      refine nT ?_
      refine ⟨H2, _, HLe.refl _, hs, ?_⟩; rintro w σf4 - hs
      replace hs : St H2 w (.blk b6 [I (k : Int)] :: .blk b5 [I 0] :: .blk b4 [] :: σf4) := hs
      have hH2 := hleq.trans (hlec.trans hc2)
      have hq2 := hlec.trans hc2
      have hb2 := (hb.mono hH2).at 0
      have hk0 : cellAt H2 bk 0 = some (.slice akp p.probes.length ckp) := (hbk.mono hH2).at 0
      have hk1 : cellAt H2 bk 1 = some (I p.width) := (hbk.mono hH2).at 1
      have hk4 : cellAt H2 bk 4 = some (.slice akf css.length ckf) := (hbk.mono hH2).at 4
      have hk2 := (hbk.mono hH2).cells 2 [I p.bound, .slice aku p.uses.length cku]
      have hq3 : cellAt H2 b3 3 = some (I a.width) := (hrq.mono hq2).at 3
      have hq4 := (hrq.mono hq2).cells 0 [I a.sys.many, ul, uw, I a.width]
      refine .block (.seq (.regSeq (.z zm (.z (zfa fa_api_Pick_0) (.y hs (zld Tryz.isAgg25) ?_)))))
      refine .o (.call Tryz.call91 rfl (slices_Equal_int hs hRc (hkp.mono hH2)) ?_); rintro _ w ⟨rfl, hs⟩
      refine .nil ?_
      refine (.cond rfl (fun hc17 => ?_) (fun hc17 => ?_))
      · refine .seq ?_
        refine .cut (fun fs w => ∃ (bb : Bool) (Hm : Heap), FSub fs ⟨73, [], [(41, .bool bb), (4, .pointer (some ⟨b4, 0, none⟩)), (5, .pointer (some ⟨b5, 0, none⟩)), (6, .pointer (some ⟨b6, 0, none⟩))]⟩ ∧ HLe H2 Hm ∧ (bb = true → ¬ ∃ k, GoodK a l p k) ∧ (bb = false → GoodK a l p k) ∧ St Hm w (.blk b6 [I (k : Int)] :: .blk b5 [I 0] :: .blk b4 [] :: σf4)) ?_ ?_
        · refine .draw mix rfl hs ?_; intro w hs
          have heq : cc = p.probes := of_decide_eq_true (by simpa using hc17)
          have hccp : (choicesL l.length)[k]? = some p.probes := by rw [hcc, heq]
          refine .y 0 rfl hs Tryz.isAgg3 ?_; refine .z 1 rfl (zfa fa_api_Pick_3) ?_; refine .y 2 rfl hs Tryz.isAgg64 ?_; refine .z 3 rfl (zlen Tryz.runUnderlying64) ?_; refine .z 4 rfl zneq ?_; refine .z 5 rfl zm ?_
          refine .bifN (t' := 23) rfl (fun hb23 => ?_) (fun hb23 => ?_)
          · refine .qF (i := 6) rfl (by kernel_rfl) rfl rfl ?_
            refine .qF (i := 7) rfl (by kernel_rfl) rfl rfl ?_
            refine .qF (i := 8) rfl (by kernel_rfl) rfl rfl ?_
            refine .qF (i := 9) rfl (by kernel_rfl) rfl rfl ?_
            refine .qF (i := 10) rfl (by kernel_rfl) rfl rfl ?_
            refine .z 11 rfl zpT ?_; refine .z 12 rfl zm ?_
            refine .qF (i := 13) rfl (by kernel_rfl) rfl rfl ?_
            refine .qF (i := 14) rfl (by kernel_rfl) rfl rfl ?_
            refine .qF (i := 15) rfl (by kernel_rfl) rfl rfl ?_
            refine .qF (i := 16) rfl (by kernel_rfl) rfl rfl ?_
            refine .qF (i := 17) rfl (by kernel_rfl) rfl rfl ?_
            refine .qF (i := 18) rfl (by kernel_rfl) rfl rfl ?_
            refine .qF (i := 19) rfl (by kernel_rfl) rfl rfl ?_
            refine .qF (i := 20) rfl (by kernel_rfl) rfl rfl ?_
            refine .qF (i := 21) rfl (by kernel_rfl) rfl rfl ?_
            refine .qF (i := 22) rfl (by kernel_rfl) rfl rfl ?_
            refine .z 23 rfl zpT ?_; refine .done (by kernel_rfl) hs ?_
            first
              | (have hx := hCW
                 exact nT ⟨_, H4, by repeat (first | exact .nil rfl rfl | refine .cons rfl ?_), hle3.trans hle4, fun hb ⟨k', g⟩ => by
                  have e1 := choices_inj (by omega) g.here hccp
                  have e2 := hCW.uniq (by rw [heq]; exact g.worst)
                  simp [e2] at hb, fun hb => by
                  have e2 : e39 = 0 := by simpa using hb
                  subst e2
                  have h46 := hb23
                  have h53 := hb30
                  simp at h46 h53
                  exact ⟨hccp, by omega, by omega, by rw [← heq]; exact hCW, fun j cj hj hcj => (hU j cj hj hcj).2.2⟩, hs⟩)
              | (have hx := hb30
                 exact nT ⟨true, H2, by repeat (first | exact .nil rfl rfl | refine .cons rfl ?_), HLe.refl _, fun _ ⟨k', g⟩ => by
                  have e2 := g.width
                  first | omega | (simp at hb30; omega), fun h => (by cases h), hs⟩)
              | exact nT ⟨true, H2, by repeat (first | exact .nil rfl rfl | refine .cons rfl ?_), HLe.refl _, fun _ ⟨k', g⟩ => by
                  have e1 := choices_inj (by omega) g.here hccp
                  have e2 := g.len
                  first | omega | (simp at hb23; omega), fun h => (by cases h), hs⟩
          · refine .z 6 rfl (zfa fa_api_Pick_1) ?_; refine .y 7 rfl hs Tryz.isAgg3 ?_; refine .z 8 rfl (zfa fa_api_Ask_2) ?_; refine .y 9 rfl hs Tryz.isAgg3 ?_; refine .z 10 rfl zgtr ?_; refine .z 11 rfl zpF ?_; refine .z 12 rfl zm ?_
            refine .bifD (t' := 30) rfl (fun hb30 => ?_) (fun hb30 => ?_)
            · refine .qF (i := 13) rfl (by kernel_rfl) rfl rfl ?_
              refine .qF (i := 14) rfl (by kernel_rfl) rfl rfl ?_
              refine .qF (i := 15) rfl (by kernel_rfl) rfl rfl ?_
              refine .qF (i := 16) rfl (by kernel_rfl) rfl rfl ?_
              refine .qF (i := 17) rfl (by kernel_rfl) rfl rfl ?_
              refine .qF (i := 18) rfl (by kernel_rfl) rfl rfl ?_
              refine .qF (i := 19) rfl (by kernel_rfl) rfl rfl ?_
              refine .qF (i := 20) rfl (by kernel_rfl) rfl rfl ?_
              refine .qF (i := 21) rfl (by kernel_rfl) rfl rfl ?_
              refine .qF (i := 22) rfl (by kernel_rfl) rfl rfl ?_
              refine .z 23 rfl zpT ?_; refine .done (by kernel_rfl) hs ?_
              first
                | (have hx := hCW
                   exact nT ⟨_, H4, by repeat (first | exact .nil rfl rfl | refine .cons rfl ?_), hle3.trans hle4, fun hb ⟨k', g⟩ => by
                    have e1 := choices_inj (by omega) g.here hccp
                    have e2 := hCW.uniq (by rw [heq]; exact g.worst)
                    simp [e2] at hb, fun hb => by
                    have e2 : e39 = 0 := by simpa using hb
                    subst e2
                    have h46 := hb23
                    have h53 := hb30
                    simp at h46 h53
                    exact ⟨hccp, by omega, by omega, by rw [← heq]; exact hCW, fun j cj hj hcj => (hU j cj hj hcj).2.2⟩, hs⟩)
                | (have hx := hb30
                   exact nT ⟨true, H2, by repeat (first | exact .nil rfl rfl | refine .cons rfl ?_), HLe.refl _, fun _ ⟨k', g⟩ => by
                    have e2 := g.width
                    first | omega | (simp at hb30; omega), fun h => (by cases h), hs⟩)
                | exact nT ⟨true, H2, by repeat (first | exact .nil rfl rfl | refine .cons rfl ?_), HLe.refl _, fun _ ⟨k', g⟩ => by
                    have e1 := choices_inj (by omega) g.here hccp
                    have e2 := g.len
                    first | omega | (simp at hb23; omega), fun h => (by cases h), hs⟩
            · refine .ys 13 rfl hs [_, _, _, _] Tryz.isAgg27 Tryz.sizeOf27 ?_; refine .y 14 rfl hs Tryz.isAgg28 ?_; refine .z 15 rfl zm ?_; refine .z 17 rfl (zfa fa_api_Pick_1) ?_; refine .y 18 rfl hs Tryz.isAgg3 ?_; refine .z 19 rfl (zfa fa_api_Pick_2) ?_; refine .ys 20 rfl hs [_, _] Tryz.isAgg63 Tryz.sizeOf63 ?_
              refine .e1 (i := 16) (by kernel_rfl) rfl rfl (.some rfl rfl) hs ?_
              refine .call Tryz.call86 rfl (probe_chosen_spec hs (hp.mono hH2) hRc q4 (by omega)) ?_; rintro v34 w ⟨H3, hle3, hch3, hs⟩
              obtain ⟨a34, c34, rfl⟩ := RPs.shape hch3
              refine .go ?_
              refine .e1 (i := 21) (by kernel_rfl) rfl rfl (.some rfl rfl) hs ?_
              refine .call Tryz.call37 rfl (probe_CheckWorst_spec (a := a) (l := chosenL l cc) hs ⟨_, _, rfl, hl.mono (hH2.trans hle3), hw.mono (hH2.trans hle3)⟩ hch3 ⟨_, rfl, RU.mono hku (hH2.trans hle3)⟩) ?_; rintro _ w ⟨H4, e39, hle4, rfl, hCW, hs⟩
              have hle24 := hle3.trans hle4
              refine .go ?_
              refine .z 22 rfl zneq ?_; refine .z 23 rfl zpF ?_; refine .done (by kernel_rfl) hs ?_
              first
                | (have hx := hCW
                   exact nT ⟨_, H4, by repeat (first | exact .nil rfl rfl | refine .cons rfl ?_), hle3.trans hle4, fun hb ⟨k', g⟩ => by
                    have e1 := choices_inj (by omega) g.here hccp
                    have e2 := hCW.uniq (by rw [heq]; exact g.worst)
                    simp [e2] at hb, fun hb => by
                    have e2 : e39 = 0 := by simpa using hb
                    subst e2
                    have h46 := hb23
                    have h53 := hb30
                    simp at h46 h53
                    exact ⟨hccp, by omega, by omega, by rw [← heq]; exact hCW, fun j cj hj hcj => (hU j cj hj hcj).2.2⟩, hs⟩)
                | (have hx := hb30
                   exact nT ⟨true, H2, by repeat (first | exact .nil rfl rfl | refine .cons rfl ?_), HLe.refl _, fun _ ⟨k', g⟩ => by
                    have e2 := g.width
                    first | omega | (simp at hb30; omega), fun h => (by cases h), hs⟩)
                | exact nT ⟨true, H2, by repeat (first | exact .nil rfl rfl | refine .cons rfl ?_), HLe.refl _, fun _ ⟨k', g⟩ => by
                    have e1 := choices_inj (by omega) g.here hccp
                    have e2 := g.len
                    first | omega | (simp at hb23; omega), fun h => (by cases h), hs⟩
        · rintro fs w ⟨bb, Hm, hfs, hleM, hbt, hbf, hs⟩
          refine WE.sub ?_ hfs
          refine (.cond rfl (fun hc41 => ?_) (fun hc41 => ?_))
          · refine .regSeq (.z (zbd [] bld_struct) ?_)
            refine .o (.stores (vs := []) hs rfl rfl Tryz.sizeOf130 ?_); intro w hs
            refine .o (.store hs rfl rfl Tryz.sizeOf30 ?_); intro w hs
            refine .nil ?_
            refine .ret (rT (rT (rB (?_))))
            exact ⟨Hm, _, hleM, hs, hc2.trans hleM, .inl ⟨rfl, 93, _, rfl, .inr ⟨rfl, hbt hc41⟩⟩⟩
          · refine .skip ?_
            refine nT ?_
            refine .regSeq (.z (zbd [] bld_struct) ?_)
            refine .o (.stores (vs := []) hs rfl rfl Tryz.sizeOf130 ?_); intro w hs
            refine .o (.store hs rfl rfl Tryz.sizeOf30 ?_); intro w hs
            refine .nil ?_
            refine .ret (rT (rB (?_)))
            exact ⟨Hm, _, hleM, hs, hc2.trans hleM, .inl ⟨rfl, 0, _, rfl, .inl ⟨rfl, k, hbf hc41⟩⟩⟩
      · refine .skip ?_
        refine nT ?_
        refine .seq (.regSeq ?_)
        have hne : cc ≠ p.probes := fun h => by simp [h] at hc17
        have hUk : ∀ k', GoodK a l p k' → k < k' := fun k' g => by
          have h1 := hU.good g
          rcases Nat.lt_or_ge k k' with h | h
          · exact h
          · obtain rfl : k = k' := by omega
            have := g.here
            rw [hcc] at this
            exact (hne (Option.some.inj this)).elim
        refine .y hs (zld Tryz.isAgg3) (.z (zfa fa_api_Pick_3) (.y hs (zld Tryz.isAgg64) (.z (zlen Tryz.runUnderlying64) (.z zgeq (.nil ?_)))))
        refine (.condD rfl (fun hc48 => ?_) (fun hc48 => ?_))
        · refine .exit ?_
          refine xT (xN ?_)
          first
            | (have hx := hbad
               exact ⟨Hn, _, hleN, hs, hc2.trans hleN, .inr ⟨rfl, _, rfl, hbad (by first | exact .inl (by first | assumption | (simpa using hb64)) | exact .inr (by first | assumption | (simpa using hc69)))⟩⟩)
            | exact ⟨H2, _, HLe.refl _, hs, hc2, .inr ⟨rfl, _, rfl, fun ⟨k', g⟩ => by
                have h1 := hUk k' g
                have h2 := g.len
                first | omega | (simp at hc48; omega)⟩⟩
        · refine .skip ?_
          refine nT ?_
          refine .seq ?_
          refine .cut (fun fs w => ∃ (n e : Int) (Hn : Heap), FSub fs ⟨73, [], [(8, I n), (9, I e), (2, .pointer (some ⟨bk, 0, none⟩)), (3, .pointer (some ⟨b3, 0, none⟩)), (6, .pointer (some ⟨b6, 0, none⟩))]⟩ ∧ HLe H2 Hn ∧ k < p.fails.length ∧ ApR a (chosenL l cc) (gtw p k).1 (gtw p k).2 n e ∧ St Hn w (.blk b6 [I (k : Int)] :: .blk b5 [I 0] :: .blk b4 [] :: σf4)) ?_ ?_
          · refine .draw mix rfl hs ?_; intro w hs
            refine .ys 0 rfl hs [_, _, _, _] Tryz.isAgg27 Tryz.sizeOf27 ?_; refine .y 1 rfl hs Tryz.isAgg28 ?_; refine .z 2 rfl zm ?_; refine .z 4 rfl (zfa fa_api_Pick_3) ?_; refine .y 5 rfl hs Tryz.isAgg64 ?_; refine .y 6 rfl hs Tryz.isAgg3 ?_
            have hkf2 : k < p.fails.length := by omega
            obtain ⟨va, vb, hcs, hA, hB⟩ := RPick.twin (p := p) hkl hkt (j := k) hkf2
            refine .ixX (enc := fun c => c) (i := 7) hs rfl (by kernel_rfl) .none (RS.mono hkf' hH2) rfl rfl Tryz.runUnderlying64 Tryz.sizeOf39 hcs rfl ?_; intro b57 o57 hc57
            refine .r (i := 8) hs rfl (by kernel_rfl) .none (q_loadsR (vs := [va, vb]) rfl Tryz.isAgg39 Tryz.sizeOf39 hc57) ?_
            refine .e1 (i := 3) (by kernel_rfl) rfl rfl .none hs ?_
            refine .call Tryz.call86 rfl (probe_chosen_spec hs (hp.mono hH2) hRc q4 (by omega)) ?_; rintro v53 w ⟨H3, hle3, hch3, hs⟩
            obtain ⟨a53, c53, rfl⟩ := RPs.shape hch3
            have hH3 := hH2.trans hle3
            refine .go ?_
            refine .e1 (i := 9) (by kernel_rfl) rfl rfl .none hs ?_
            refine .call Tryz.call66 rfl (probe_apart_spec (a := a) (l := chosenL l cc) (A := (gtw p k).1) (B := (gtw p k).2) hs ⟨_, _, rfl, hl.mono hH3, hw.mono hH3⟩ hch3 (hA.mono hH3) (hB.mono hH3) hok q1 q2) ?_; rintro _ w ⟨n, e59, rfl, hAp, hs⟩
            refine .go ?_
            refine .z 10 rfl zm ?_; refine .z 11 rfl zex ?_; refine .z 12 rfl zex ?_; refine .z 13 rfl zg ?_; refine .z 14 rfl zg ?_; refine .done (by kernel_rfl) hs ?_
            exact nT ⟨n, e59, H3, by repeat (first | exact .nil rfl rfl | refine .cons rfl ?_), hle3, hkf2, hAp, hs⟩
          · rintro fs w ⟨n, e59, Hn, hfs, hleN, hkf2, hAp, hs⟩
            refine WE.sub ?_ hfs
            have hq9 : cellAt Hn b3 3 = some (I a.width) := (hrq.mono (hq2.trans hleN)).at 3
            have hbad : (e59 ≠ 0 ∨ n ≤ a.width) → ¬ ∃ k, GoodK a l p k := fun hb ⟨k', g⟩ => by
              obtain ⟨m, g1, g2⟩ := g.fails k cc (hUk k' g) hcc
              obtain ⟨e3, e4⟩ := hAp.uniq g1
              rcases hb with h | h
              · exact h e4
              · omega
            refine .regSeq (.z zm (.z zneq (.z zm ?_)))
            refine .bifN (t' := 64) rfl (fun hb64 => ?_) (fun hb64 => ?_)
            · refine .gFs 4 2 false rfl rfl rfl ?_
              refine .z zpT (.nil ?_)
              refine (.condT rfl rfl ?_)
              refine .exit ?_
              refine xT (xN ?_)
              first
                | (have hx := hbad
                   exact ⟨Hn, _, hleN, hs, hc2.trans hleN, .inr ⟨rfl, _, rfl, hbad (by first | exact .inl (by first | assumption | (simpa using hb64)) | exact .inr (by first | assumption | (simpa using hc69)))⟩⟩)
                | exact ⟨H2, _, HLe.refl _, hs, hc2, .inr ⟨rfl, _, rfl, fun ⟨k', g⟩ => by
                    have h1 := hUk k' g
                    have h2 := g.len
                    first | omega | (simp at hc48; omega)⟩⟩
            · refine .gT rfl rfl ?_
              refine .z zm ?_
              refine .gT rfl rfl ?_
              refine .z (zfa fa_api_Ask_2) ?_
              refine .gT rfl rfl ?_
              refine .y hs (zld Tryz.isAgg3) ?_
              refine .gT rfl rfl ?_
              refine .z zleq (.z zpF (.nil ?_))
              refine (.condD rfl (fun hc69 => ?_) (fun hc69 => ?_))
              · refine .exit ?_
                refine xT (xN ?_)
                first
                  | (have hx := hbad
                     exact ⟨Hn, _, hleN, hs, hc2.trans hleN, .inr ⟨rfl, _, rfl, hbad (by first | exact .inl (by first | assumption | (simpa using hb64)) | exact .inr (by first | assumption | (simpa using hc69)))⟩⟩)
                  | exact ⟨H2, _, HLe.refl _, hs, hc2, .inr ⟨rfl, _, rfl, fun ⟨k', g⟩ => by
                      have h1 := hUk k' g
                      have h2 := g.len
                      first | omega | (simp at hc48; omega)⟩⟩
              · refine .skip ?_
                refine nT ?_
                refine .region (.y hs (zld Tryz.isAgg3) (.z zadd ?_))
                refine .o (.store hs rfl rfl Tryz.sizeOf3 ?_); intro w hs
                refine .nil ?_
                refine nB ?_
                exact ⟨Hn, _, hleN, hs, by
                  obtain rfl : e59 = 0 := by first | assumption | (simpa using hb64)
                  exact ⟨rfl, hc2.trans hleN, fun j cj hj hcj => by
                    by_cases e : j = k
                    · subst e
                      rw [hcc] at hcj
                      obtain rfl := Option.some.inj hcj
                      exact ⟨hne, hkf2, n, hAp, by first | omega | (simp at hc69; omega)⟩
                    · exact hU j cj (by omega) hcj⟩⟩
    · rintro D H2 σb2 w hle2 ⟨rfl, hc2, hU⟩ hs
      refine nB (nT ?_)
      exact ⟨D, H2, _, by repeat (first | exact .nil rfl rfl | refine .cons rfl ?_), hlec.trans hc2, fun ⟨k', g⟩ => by
        have h1 := hU.good g
        have h2 := (List.getElem?_eq_some_iff.1 g.here).1
        omega, hs⟩
    · rintro D c H2 σb2 w hle2 ⟨hc2, ⟨rfl, e, z, rfl, hfact⟩ | ⟨rfl, z, rfl, hno⟩⟩ hs
      · exact .ret (rB (rT (Fin.retD [D] [] (show St _ _ ([] ++ (mes [D] ++ _)) from hs) fun w hs => ⟨_, results2 Tryz.results90 (rcells (vs := []) hs rfl Tryz.isAgg130 Tryz.sizeOf130) (rcell hs rfl Tryz.isAgg30), H2, e, hleq.trans (hlec.trans hc2), rfl, hfact, hs.out⟩)))
      · exact .exit (xB (nT ⟨D, H2, z, by repeat (first | exact .nil rfl rfl | refine .cons rfl ?_), hlec.trans hc2, hno, hs⟩))
  · rintro fs w ⟨D, Hx, z, hfs, hqx, hno, hs⟩
    refine WE.sub ?_ hfs
    refine .regSeq (.z (zbd [] bld_struct) ?_)
    refine .o (.stores (vs := []) hs rfl rfl Tryz.sizeOf130 ?_); intro w hs
    refine .o (.store hs rfl rfl Tryz.sizeOf30 ?_); intro w hs
    refine .nil ?_
    refine .ret ?_
    exact Fin.endD [D] [] (show St _ _ ([] ++ (mes [D] ++ _)) from hs) fun w hs => ⟨_, results2 Tryz.results90 (rcells (vs := []) hs rfl Tryz.isAgg130 Tryz.sizeOf130) (rcell hs rfl Tryz.isAgg30), Hx, 93, hleq.trans hqx, rfl, .inr ⟨rfl, hno⟩, hs.out⟩
end Go.Proofs.YtiiokdeehlfeeaaGreat

namespace Go.Proofs.YtiiokdeehlfeeaaGreat
open Go.MW
theorem probe_CheckPick_spec {H : Heap} {w : World} {σ : List Ent} {v vl vk : Value} {a : Quest} {l : List Prb} {p : Pck} (hs : St H w σ) (hr : RAsk H v a) (hp : RPs H vl l) (hk : RPick H vk p) :
    Cl Tryz.prog 32 [v, vl, vk] w fun u w' => ∃ H1 e, HLe H H1 ∧ u = I e ∧ PickR a l p e ∧ St H1 w' σ := by
  obtain ⟨ul, uw, rfl, hl, hw⟩ := hr
  obtain ⟨al, cpl, rfl⟩ := RPs.shape hp
  obtain ⟨vp, vu, vf, css, rfl, hkp, hku, hkf, hkl, hkt⟩ := hk
  obtain ⟨akp, ckp, rfl⟩ := RI.shape hkp
  obtain ⟨aku, cku, rfl⟩ := RU.shape hku
  obtain ⟨akf, ckf, rfl⟩ := RS.shape hkf
  refine Cl.of Tryz.func32 rfl Tryz.ntmps32 (by simp) (args_cons (k := 0) rfl (args_cons (k := 1) rfl (args_cons (k := 2) rfl (args0)))) ?_
  refine .regSeq ?_
  refine .o (.box hs rfl rfl ?_); intro b3 w hs
  refine .o (.box hs rfl rfl ?_); intro b4 w hs
  refine .o (.box hs rfl rfl ?_); intro b5 w hs
  refine .z zg (.nil (.regSeq (.y hs (zls [_, _, _, _] Tryz.isAgg27 Tryz.sizeOf27) (.y hs (zld Tryz.isAgg28) ?_))))
  refine .q hs (q_makeFunc (f := []) (c := [_, _]) rfl rfl) ?_
  obtain ⟨H0, hle0, hb4, hs⟩ := hs.publish (b := b4) (by repeat constructor)
  obtain ⟨H1, hle1, hb5, hs⟩ := hs.publish (b := b5) (by repeat constructor)
  have hle01 := hle0.trans hle1
  refine .o (.call Tryz.call89 rfl (probe_told_none (R := fun e => (e = 0 ∧ ∃ k, GoodK a l p k) ∨ (e = 93 ∧ ¬ ∃ k, GoodK a l p k)) (a := a) (l := l) (cap := [.pointer (some ⟨b4, 0, none⟩), .pointer (some ⟨b5, 0, none⟩)]) hs ⟨_, _, rfl, hl.mono hle01, hw.mono hle01⟩ (hp.mono hle01) Tryz.call90 ?_) ?_)
  · rintro H' w σ' hle hC hs
    have hle2 := hle01.trans hle
    exact probe_CheckPick_1 (a := a) (l := l) (p := p) hs ⟨_, _, rfl, hl.mono hle2, hw.mono hle2⟩ ((hb4.mono hle1).mono hle) (hb5.mono hle) (hp.mono hle2) (hkp.mono hle2) (RU.mono hku hle2) (RS.mono hkf hle2) hkl (fun j c t h1 h2 => (hkt j c t h1 h2).mono hle2) hC
  rintro _ w ⟨H2, e, hle2, rfl, hR, hs⟩
  refine .z zm (.z zex (.z zex ?_))
  refine .o (.alloc hs Tryz.zeroValue130 rfl ?_); intro b7 w hs
  refine .o (.stores (vs := []) hs rfl rfl Tryz.sizeOf130 ?_); intro w hs
  refine .z zg (.nil (.regSeq (.z zm (.z zg (.nil ?_)))))
  refine .ret (Fin.ret1 Tryz.results32 rfl ?_)
  exact ⟨H2, e, hle01.trans hle2, rfl, hR, hs.out⟩
theorem FewP.good {a : Quest} {l : List Prb} {p : Pck} (hok : AskOk a) (hin0 : ∀ p ∈ l, PrbOk a p) {k : Nat} (h1 : (choicesL l.length)[k]? = some p.probes) (h2 : ShownR a (chosenL l p.probes) p.width p.uses) (h3 : p.bound = p.width) (h4 : p.width ≤ a.width) (h5 : p.fails.length = k)
    (h6 : ∀ (j : Nat) (cj : List Int), j < k → (choicesL l.length)[j]? = some cj → (∀ m, PairS a (chosenL l cj) m → a.width < m) ∧ ∃ t, p.fails[j]? = some t ∧ TwinR a (chosenL l cj) t) : GoodK a l p k := by
  have hin : ∀ p ∈ l, PrbIn a p := fun p h => (hin0 p h).inn
  have hsub : ∀ {c : List Int}, c ∈ choicesL l.length → CPrbR a (chosenL l c) 0 := fun {c} hc => .ok hok (by have := (choice_ok hin hc).1; omega) fun p hp => hin0 p (chosenL_mem hp)
  refine ⟨h1, h5, h4, ?_, fun j cj hj hcj => ?_⟩
  · rw [h3]
    exact .ok (hsub (List.mem_of_getElem? h1)) (shown_proofU hok h2) (by omega)
  · obtain ⟨g1, t, g2, g3⟩ := h6 j cj hj hcj
    obtain ⟨q1, q2, q3, q4⟩ := choice_ok hin (List.mem_of_getElem? hcj)
    have e : gtw p j = t := by
      have := gtw_get (p := p) (j := j) (by omega)
      rw [g2] at this
      exact (Option.some.inj this).symm
    have hF : TwinF a (chosenL l cj) (gtw p j).1 (gtw p j).2 := by
      rw [e]
      exact twin_facts hok q2 (by exact g3)
    refine ⟨_, .ok hF.kA hF.kB hF.near, ?_⟩
    rw [hF.wrap hok q2]
    exact g1 _ hF.most
end Go.Proofs.YtiiokdeehlfeeaaGreat
