/-
  Texts of these claims, joined: Wn Wo Wp Wt Wu Wy Wz Xb Xd Xe Xf Xg Xh Xi Xj Xk Xl Wq Wr Xm Xn Xo Xq.
-/
import Derived.Test.YtiiokdeehlfeeaaGreatVc
namespace Go.Proofs.YtiiokdeehlfeeaaGreat
open Go.MW
structure Pck where
  probes : List Int
  width : Int
  bound : Int
  uses : List Use
  fails : List (List Int × List Int)
def Pck.none : Pck := ⟨[], 0, 0, [], []⟩
def RPick (H : Heap) (v : Value) (p : Pck) : Prop := ∃ (vp vu vf : Value) (css : List (List Value)), v = .agg #[vp, I p.width, I p.bound, vu, vf] ∧ RI H vp p.probes ∧ RU H vu p.uses ∧ RS H 2 vf css ∧ css.length = p.fails.length ∧ ∀ (j : Nat) (c : List Value) (t : List Int × List Int), css[j]? = some c → p.fails[j]? = some t → TwC H c t
theorem RPick.nil (H : Heap) : RPick H (.agg #[.slice none 0 0, I 0, I 0, .slice none 0 0, .slice none 0 0]) .none :=
  ⟨_, _, _, [], rfl, RS.nil _ _ _ _, RS.nil _ _ _ _, RS.nil _ _ _ _, rfl, fun _ _ _ h => by simp at h⟩
def FewP (a : Quest) (l : List Prb) (p : Pck) (e : Int) : Prop :=
  (e = 94 ∧ p = .none ∧ ∀ c ∈ choicesL l.length, ∀ m, PairS a (chosenL l c) m → a.width < m) ∨
  (e = 0 ∧ ∃ k, (choicesL l.length)[k]? = some p.probes ∧ ShownR a (chosenL l p.probes) p.width p.uses ∧ p.bound = p.width ∧ p.width ≤ a.width ∧ p.fails.length = k ∧
    ∀ (j : Nat) (cj : List Int), j < k → (choicesL l.length)[j]? = some cj → (∀ m, PairS a (chosenL l cj) m → a.width < m) ∧ ∃ t, p.fails[j]? = some t ∧ TwinR a (chosenL l cj) t)
theorem fails_twins {a : Quest} {l : List Prb} {H : Heap} {k : Nat} {css : List (List Value)} (h : FailsAt a l H k css) (hk : k ≤ (choicesL l.length).length) :
    ∃ ts : List (List Int × List Int), ts.length = k ∧ (∀ (j : Nat) (c : List Value) (t : List Int × List Int), css[j]? = some c → ts[j]? = some t → TwC H c t) ∧ ∀ (j : Nat) (cj : List Int), j < k → (choicesL l.length)[j]? = some cj → (∀ m, PairS a (chosenL l cj) m → a.width < m) ∧ ∃ t, ts[j]? = some t ∧ TwinR a (chosenL l cj) t := by
  obtain ⟨F, hF⟩ : ∃ F : Nat → List Int × List Int, ∀ (j : Nat), j < k → ∀ (c : List Value) (cj : List Int), css[j]? = some c → (choicesL l.length)[j]? = some cj → TwC H c (F j) ∧ TwinR a (chosenL l cj) (F j) := by
    refine Go.Deep.choose_lt (n := k) (p := fun j t => ∀ (c : List Value) (cj : List Int), css[j]? = some c → (choicesL l.length)[j]? = some cj → TwC H c t ∧ TwinR a (chosenL l cj) t) fun j hj => ?_
    have h1 : css[j]? = some (css[j]'(by rw [h.1]; exact hj)) := List.getElem?_eq_getElem _
    have h2 : (choicesL l.length)[j]? = some ((choicesL l.length)[j]'(by omega)) := List.getElem?_eq_getElem _
    obtain ⟨_, ⟨t, g1, g2⟩, _⟩ := h.2 j _ _ h1 h2
    exact ⟨t, fun c cj h3 h4 => by rw [h1] at h3; rw [h2] at h4; cases h3; cases h4; exact ⟨g1, g2⟩⟩
  refine ⟨(List.range k).map F, by simp, fun j c t h1 h2 => ?_, fun j cj hj h2 => ?_⟩
  · have hj : j < k := by rw [← h.1]; exact (List.getElem?_eq_some_iff.1 h1).1
    have h3 : (choicesL l.length)[j]? = some ((choicesL l.length)[j]'(by omega)) := List.getElem?_eq_getElem _
    have h4 : F j = t := by simpa [hj] using h2
    rw [← h4]; exact (hF j hj _ _ h1 h3).1
  · have h1 : css[j]? = some (css[j]'(by rw [h.1]; exact hj)) := List.getElem?_eq_getElem _
    obtain ⟨_, _, g3⟩ := h.2 j _ _ h1 h2
    exact ⟨g3, F j, by simp [hj], (hF j hj _ _ h1 h2).2⟩
def FewI (a : Quest) (l : List Prb) (b5 : Nat) (Hq : Heap) (k : Nat) (H' : Heap) (σb : List Ent) : Prop :=
  ∃ css en vf, σb = [.blk b5 [.slice none 0 0, I 0, I 0, .slice none 0 0, vf], en] ∧ HLe Hq H' ∧ OwnS 2 vf css.flatten en ∧ FailsAt a l H' k css
def FewX (a : Quest) (l : List Prb) (b5 : Nat) (Hq : Heap) (H' : Heap) (σb : List Ent) : Prop :=
  ∃ k cc css en vf ap lp cp vu n us, σb = [.blk b5 [.slice ap lp cp, I n, I n, vu, vf], en] ∧ HLe Hq H' ∧ OwnS 2 vf css.flatten en ∧ FailsAt a l H' k css ∧ (choicesL l.length)[k]? = some cc ∧ ap.isSome = true ∧ RI H' (.slice ap lp cp) cc ∧ RU H' vu us ∧
    ShownR a (chosenL l cc) n us ∧ n ≤ a.width
theorem probe_Fewest_1 {H : Heap} {w : World} {σ : List Ent} {v vl : Value} {a : Quest} {l : List Prb} {bl : Nat} (hs : St H w σ) (hr : RAsk H v a) (hb : Row H bl [vl]) (hp : RPs H vl l) (hok : AskOk a) (hlen : l.length ≤ 8) (hin : ∀ p ∈ l, PrbIn a p) :
    Cl Tryz.prog 85 [v, .pointer (some ⟨bl, 0, none⟩)] w fun u w' => ∃ H1 vk p e, HLe H H1 ∧ u = .tuple #[vk, I e] ∧ RPick H1 vk p ∧ FewP a l p e ∧ St H1 w' σ := by
  obtain ⟨ul, uw, rfl, hl, hw⟩ := hr
  obtain ⟨al, cpl, rfl⟩ := RPs.shape hp
  have hch : ∀ {c : List Int}, c ∈ choicesL l.length → (chosenL l c).length ≤ 8 ∧ (∀ p ∈ chosenL l c, PrbIn a p) ∧ c.length ≤ 3 ∧ ∀ x ∈ c, 0 ≤ x ∧ x < (l.length : Int) := fun {c} hc => by
    obtain ⟨h1, h2⟩ := choicesL_in hc
    exact ⟨by have := chosenL_length (l := l) (c := c); omega, fun p hp => hin p (chosenL_mem hp), h1, h2⟩
  refine Cl.of Tryz.func85 rfl Tryz.ntmps85 (by simp) (args_cons (k := 0) rfl (args_cons (k := 1) rfl (args0))) ?_
  refine .regSeq ?_
  refine .o (.box hs rfl rfl ?_); intro b2 w hs
  refine .o (.alloc hs Tryz.zeroValue66 rfl ?_); intro b3 w hs
  refine .o (.alloc hs Tryz.zeroValue30 rfl ?_); intro b4 w hs
  refine .nil ?_
  refine .scope ?_
  refine .regSeq ?_
  refine .o (.alloc hs Tryz.zeroValue66 rfl ?_); intro b5 w hs
  obtain ⟨Hq, hleq, hrq, hs⟩ := hs.publish (b := b2) (by repeat constructor)
  have hbq := (hb.mono hleq).at 0
  have hpq := hp.mono hleq
  refine .nil (.seq ?_)
  refine .label ?_
  refine nT ?_
  refine .cut (fun fs w => ∃ D Hx en ap lp cp wd bd au lu cu af lf cf, FSub fs ⟨74, marks [D], [(3, .pointer (some ⟨b3, 0, none⟩)), (4, .pointer (some ⟨b4, 0, none⟩)), (5, .pointer (some ⟨b5, 0, none⟩))]⟩ ∧ HLe Hq Hx ∧ St Hx w (.obj D (.deferred (some [])) :: .blk b5 [.slice ap lp cp, I wd, I bd, .slice au lu cu, .slice af lf cf] :: en :: .blk b4 [I 0] :: .blk b3 [.slice none 0 0, I 0, I 0, .slice none 0 0, .slice none 0 0] :: σ) ∧ ((ap = none ∧ FewI a l b5 Hq (choicesL l.length).length Hx [.blk b5 [.slice ap lp cp, I wd, I bd, .slice au lu cu, .slice af lf cf], en]) ∨ (ap.isSome = true ∧ FewX a l b5 Hq Hx [.blk b5 [.slice ap lp cp, I wd, I bd, .slice au lu cu, .slice af lf cf], en]))) ?_ ?_
  · refine .regSeq ?_
    refine .q hs (q_loadR rfl Tryz.isAgg28 hbq) ?_
    refine .z (zlen Tryz.runUnderlying28) ?_
    refine .o (.call Tryz.call54 rfl (probe_choices_spec hs (n := l.length) (by omega)) ?_); rintro _ w ⟨Hc, bc, hlec, rfl, hit, hs⟩
    refine .nil (.block ?_)
    refine .rangeE (gf := 139) (cap := [.pointer (some ⟨bc, 0, none⟩)]) (N := (choicesL l.length).length) (E := ChE l.length) (σb := [.blk b5 [.slice none 0 0, I 0, I 0, .slice none 0 0, .slice none 0 0], .nul]) (σf := .blk b4 [I 0] :: .blk b3 [.slice none 0 0, I 0, I 0, .slice none 0 0, .slice none 0 0] :: σ)
      (hs.nul.perm (.swap _ _ _)) trivial rfl hit Tryz.call139 (fun _ _ z ⟨v, _, hz, _⟩ => by rw [hz]; rfl) rfl
      (I := FewI a l b5 Hq) (Ix := fun c H' σb => c = .exit 0 ∧ FewX a l b5 Hq H' σb)
      (fun k _ _ σ g1 ⟨css, en, vf, g2, g3, g4, g5⟩ => ⟨css, en, vf, g2, g3.trans g1, g4, g5.mono g1⟩)
      (fun c _ _ σ g1 ⟨g0, k, cc, css, en, vf, ap, lp, cp, vu, n, us, g2, g3, g4, g5, g6, g7, g8, g9, g10⟩ => ⟨g0, k, cc, css, en, vf, ap, lp, cp, vu, n, us, g2, g3.trans g1, g4, g5.mono g1, g6, g7, g8.mono g1, g9.mono g1, g10⟩)
      ⟨[], .nul, _, rfl, hlec, .nil 2 none, rfl, fun j c cj h => by simp at h⟩ ?_ ?_ ?_
    · rintro ll k hk z H2 σb2 σf2 w hle2 ⟨vc, cc, rfl, hcc, hnn, hRc⟩ ⟨css, en, vf, rfl, hq2, hO, hF⟩ hs ⟨rr, hrr⟩
      obtain ⟨hcl, hcin, hc3, hcx⟩ := hch (List.mem_of_getElem? hcc)
      obtain ⟨ac, cpc, rfl⟩ := RI.shape hRc
      refine .region (.z zg (.nil ?_))
      refine nT ?_
      refine ⟨H2, _, HLe.refl _, hs, ?_⟩; rintro w σf4 - hs
      have hb2 := (hb.mono (hleq.trans hq2)).at 0
      have hp2 := hp.mono (hleq.trans hq2)
      have hq4 := (hrq.mono hq2).cells 0 [I a.sys.many, ul, uw, I a.width]
      refine .block (.regSeq ?_)
      refine .q hs (q_loadR rfl Tryz.isAgg28 hb2) ?_
      refine .z zm ?_
      refine .o (.call Tryz.call86 rfl (probe_chosen_spec hs hp2 hRc hcx (by omega)) ?_); rintro v21 w ⟨H3, hle3, hch3, hs⟩
      obtain ⟨a21, c21, rfl⟩ := RPs.shape hch3
      have hq5 := ((hrq.mono (hq2.trans hle3)).cells 0 [I a.sys.many, ul, uw, I a.width])
      have hq6 : cellAt H3 b2 3 = some (I a.width) := (hrq.mono (hq2.trans hle3)).at 3
      refine .z zg (.nil (.seq (.regSeq ?_)))
      refine .q hs (q_loadsR (vs := [I a.sys.many, ul, uw, I a.width]) rfl Tryz.isAgg27 Tryz.sizeOf27 hq5) ?_
      refine .z zm ?_
      refine .o (.call Tryz.call59 rfl (probe_worst_spec (a := a) hs ⟨_, _, rfl, hl.mono (hleq.trans (hq2.trans hle3)), hw.mono (hleq.trans (hq2.trans hle3))⟩ hch3 hok hcl hcin) ?_); rintro _ w ⟨H4, n, hle4, rfl, hPS, hs⟩
      have hq7 : cellAt H4 b2 3 = some (I a.width) := (hrq.mono (hq2.trans (hle3.trans hle4))).at 3
      have hq8 := ((hrq.mono (hq2.trans (hle3.trans hle4))).cells 0 [I a.sys.many, ul, uw, I a.width])
      have hle24 := hle3.trans hle4
      refine .z zm (.z zex (.z zex (.z zg (.z zg (.nil (.regSeq (.z zm (.z (zfa fa_api_Ask_2) ?_))))))))
      refine .q hs (q_loadR rfl Tryz.isAgg3 hq7) ?_
      refine .z zleq (.nil ?_)
      refine (.condD rfl (fun hc31 => ?_) (fun hc31 => ?_))
      · refine .regSeq ?_
        refine .q hs (q_loadsR (vs := [I a.sys.many, ul, uw, I a.width]) rfl Tryz.isAgg27 Tryz.sizeOf27 hq8) ?_
        refine .z zm ?_
        refine .o (.call Tryz.call87 rfl (probe_double_spec (a := a) hs ⟨_, _, rfl, hl.mono (hleq.trans (hq2.trans hle24)), hw.mono (hleq.trans (hq2.trans hle24))⟩ (hch3.mono hle4) hok hcl hcin) ?_); rintro _ w ⟨H5, ul1, uw1, vp, vw, hle5, rfl, hl1, hw1, hvp, hvw, hs⟩
        obtain ⟨al1, cl1, rfl⟩ := RL.shape hl1; obtain ⟨aw1, cw1, rfl⟩ := RI.shape hw1; obtain ⟨ap1, cp1, rfl⟩ := RL.shape hvp; obtain ⟨av1, cv1, rfl⟩ := RI.shape hvw
        refine .o (.alloc hs Tryz.zeroValue125 rfl ?_); intro b10 w hs
        refine .o (.stores (vs := [_, _, _, _, _, _, _]) hs rfl rfl Tryz.sizeOf125 ?_); intro w hs
        refine .nil (.regSeq (.z (zfa fa_probe_doubled_1) (.y hs (zls [_, _] Tryz.isAgg24 Tryz.sizeOf24) (.z (zfa fa_probe_doubled_2) (.y hs (zld Tryz.isAgg25) ?_)))))
        refine .o (.call Tryz.call88 rfl (bound_Prove_spec (s := dblS a (chosenL l cc)) hs ⟨_, rfl, hvp⟩ hvw) ?_); rintro _ w ⟨H6, _, n2, us, e, hle6, rfl, hM, ⟨vu, rfl, hU⟩, -, h0, hs⟩
        obtain ⟨rfl, hPS2⟩ := dbl_most hok hcl hcin hM
        obtain rfl := hPS.uniq hPS2
        obtain ⟨au, cu, rfl⟩ := RU.shape hU
        refine .z zm (.z zex (.z zex ?_))
        refine .o (.alloc hs Tryz.zeroValue63 rfl ?_); intro b11 w hs
        refine .o (.stores (vs := [_, _]) hs rfl rfl Tryz.sizeOf63 ?_); intro w hs
        refine .z zg (.nil (.seq (.regSeq (.z zm (.z zneq (.nil ?_))))))
        refine (.condN rfl (fun hc44 => ?_) (fun hc44 => ?_))
        · exact (hc44 rfl).elim
        · refine .skip ?_
          refine nT ?_
          refine .seq (.draw mix rfl hs ?_); intro w hs
          refine .z 0 rfl zm ?_; refine .z 1 rfl zm ?_; refine .ys 2 rfl hs [_, _] Tryz.isAgg63 Tryz.sizeOf63 ?_; refine .z 3 rfl (zfa fa_api_Pick_0) ?_
          refine .e1 (i := 4) (by kernel_rfl) rfl rfl .none hs ?_
          refine .store hs rfl rfl Tryz.sizeOf25 ?_; intro w hs
          refine .go ?_
          refine .z 5 rfl (zfa fa_api_Pick_1) ?_
          refine .e1 (i := 6) (by kernel_rfl) rfl rfl .none hs ?_
          refine .store hs rfl rfl Tryz.sizeOf3 ?_; intro w hs
          refine .go ?_
          refine .z 7 rfl (zfa fa_api_Pick_2) ?_
          refine .e1 (i := 8) (by kernel_rfl) rfl rfl .none hs ?_
          refine .stores (vs := [_, _]) hs rfl rfl Tryz.sizeOf63 ?_; intro w hs
          refine .go ?_
          refine .done (by kernel_rfl) hs ?_
          refine .exit ?_
          refine xT (xN ?_)
          exact ⟨H6, _, hle24.trans (hle5.trans hle6), hs.tail.tail, rfl, k, cc, css, en, vf, _, _, _, _, n, us, rfl, hq2.trans (hle24.trans (hle5.trans hle6)), hO, hF.mono (hle24.trans (hle5.trans hle6)), hcc, nnil_some hnn, hRc.mono (hle24.trans (hle5.trans hle6)), hU, ⟨hPS, h0 rfl⟩, by simpa using hc31⟩
      · refine .skip ?_
        refine nT ?_
        refine .regSeq ?_
        refine .q hs (q_loadsR (vs := [I a.sys.many, ul, uw, I a.width]) rfl Tryz.isAgg27 Tryz.sizeOf27 hq8) ?_
        refine .z zm ?_
        refine .o (.call Tryz.call70 rfl (probe_twins_spec (a := a) hs ⟨_, _, rfl, hl.mono (hleq.trans (hq2.trans hle24)), hw.mono (hleq.trans (hq2.trans hle24))⟩ (hch3.mono hle4) hok hcl hcin) ?_); rintro _ w ⟨H5, va, vb, xs, hle5, rfl, hva, hvb, hB, hs⟩
        obtain ⟨ata, cta, rfl⟩ := RI.shape hva; obtain ⟨atb, ctb, rfl⟩ := RI.shape hvb
        have hO5 := hO
        obtain ⟨avf, lvf, cvf, rfl, hvf⟩ := hO5.shape
        refine .z zm (.z zex (.z zex ?_))
        refine .o (.alloc hs Tryz.zeroValue39 rfl ?_); intro b13 w hs
        refine .o (.stores (vs := [_, _]) hs rfl rfl Tryz.sizeOf39 ?_); intro w hs
        refine .z zg (.nil (.seq (.regSeq (.z zm (.z zneq (.nil ?_))))))
        refine (.condN rfl (fun hc60 => ?_) (fun hc60 => ?_))
        · exact (hc60 rfl).elim
        · refine .skip ?_
          refine nT ?_
          refine .region (.z (zfa fa_api_Pick_3) (.y hs (zld Tryz.isAgg64) (.y hs (zls [_, _] Tryz.isAgg39 Tryz.sizeOf39) ?_)))
          refine .o (.buildSlice (cells := [_, _]) hs bls_sl_api_Twins_1 rfl rfl ?_); intro b66 w hs
          refine .o (.append (ys := [.slice ata (xs.take a.sys.n).length cta, .slice atb (0 :: xs.drop a.sys.n).length ctb]) hs app_sl_api_Twins_api_Twins rfl rfl hO (.own .here rfl rfl) (by simp [Value.oneCell']) (fun l' h => by have := flat2 (hF.two (by omega)); have := choicesL_length hlen; have := hF.1; omega) ?_); intro v67 en67 w hO2 hs
          obtain ⟨a67, l67, c67, rfl, h67⟩ := hO2.shape
          refine .z (zfa fa_api_Pick_3) ?_
          refine .o (.store hs rfl rfl Tryz.sizeOf64 ?_); intro w hs
          refine .nil ?_
          refine nB ?_
          exact ⟨H5, [.blk b5 [.slice none 0 0, I 0, I 0, .slice none 0 0, .slice a67 l67 c67], en67], hle24.trans hle5, (hs.sub (by repeat (first | exact Sub.refl _ | constructor | apply Sub.weaken)) : St H5 w (.blk b5 _ :: en67 :: σf4)),
            css ++ [[.slice ata (xs.take a.sys.n).length cta, .slice atb (0 :: xs.drop a.sys.n).length ctb]], en67, _, rfl, hq2.trans (hle24.trans hle5), by rw [List.flatten_append]; exact hO2, (hF.mono (hle24.trans hle5)).snoc hcc rfl ⟨_, _, rfl, hva, hvb⟩ ⟨xs, hB, rfl⟩ (fun m hm => by rw [← hPS.uniq hm]; omega)⟩
    · rintro D H2 σb2 w hle2 ⟨css, en, vf, rfl, hq2, hO, hF⟩ hs
      refine nB (nT ?_)
      obtain ⟨af, lf, cf, rfl, -⟩ := id hO.shape
      exact ⟨D, H2, en, none, 0, 0, 0, 0, none, 0, 0, af, lf, cf, by repeat (first | exact .nil rfl rfl | refine .cons rfl ?_), hq2, hs, .inl ⟨rfl, css, en, _, rfl, hq2, hO, hF⟩⟩
    · rintro D c H2 σb2 w hle2 ⟨rfl, k, cc, css, en, vf, ap, lp, cp, vu, n, us, rfl, hq2, hO, hF, g1, g2, g3⟩ hs
      obtain ⟨af, lf, cf, rfl, -⟩ := id hO.shape
      obtain ⟨au, cu, rfl⟩ := RU.shape g3.2.1
      exact .exit (xB (nT ⟨D, H2, en, ap, lp, cp, n, n, au, us.length, cu, af, lf, cf, by repeat (first | exact .nil rfl rfl | refine .cons rfl ?_), hq2, hs, .inr ⟨g2, k, cc, css, en, _, ap, lp, cp, _, n, us, rfl, hq2, hO, hF, g1, g2, g3⟩⟩))
  · rintro fs w ⟨D, Hx, en, ap, lp, cp, wd, bd, au, lu, cu, af, lf, cf, hfs, hqx, hs, hcase⟩
    refine WE.sub ?_ hfs
    refine .seq (.regSeq (.z (zfa fa_api_Pick_0) (.y hs (zld Tryz.isAgg25) ?_)))
    refine .q hs (q_eqSN rfl rfl Tryz.runUnderlying25) ?_
    refine .nil ?_
    refine (.cond rfl (fun hc71 => ?_) (fun hc71 => ?_))
    · refine .regSeq (.z (zbd [_, _, _, _, _] bld_api_Pick) ?_)
      refine .o (.stores (vs := [_, _, _, _, _]) hs rfl rfl Tryz.sizeOf66 ?_); intro w hs
      refine .o (.store hs rfl rfl Tryz.sizeOf30 ?_); intro w hs
      refine .nil ?_
      refine .ret (rT (rS (?_)))
      rcases hcase with ⟨-, css, en', vf', -, -, -, hF⟩ | ⟨h, -⟩
      · exact Fin.retD [D] [] (show St _ _ ([] ++ (mes [D] ++ _)) from hs) fun w hs => ⟨_, results2 Tryz.results85 (rcells (vs := [_, _, _, _, _]) hs rfl Tryz.isAgg66 Tryz.sizeOf66) (rcell hs rfl Tryz.isAgg30), Hx, _, .none, 94, hleq.trans hqx, rfl, RPick.nil _, .inl ⟨rfl, rfl, fun c hc m hm => by
          obtain ⟨j, hj⟩ := List.getElem?_of_mem hc
          have hlt := (List.getElem?_eq_some_iff.1 hj).1
          exact (hF.2 j _ c (List.getElem?_eq_getElem (by rw [hF.1]; exact hlt)) hj).2.2 m hm⟩, hs.out⟩
      · cases ap <;> simp_all
    · refine .skip ?_
      refine nT ?_
      refine .regSeq (.y hs (zls [_, _, _, _, _] Tryz.isAgg66 Tryz.sizeOf66) ?_)
      refine .o (.stores (vs := [_, _, _, _, _]) hs rfl rfl Tryz.sizeOf66 ?_); intro w hs
      refine .o (.store hs rfl rfl Tryz.sizeOf30 ?_); intro w hs
      refine .nil ?_
      refine .ret (rS (?_))
      rcases hcase with ⟨h, -⟩ | ⟨-, k, cc, css, en', vf', ap', lp', cp', vu', n, us, hh, -, hO, hF, hcc, -, hRc, hU, hS, hn⟩
      · subst h; simp at hc71
      · simp only [List.cons.injEq, Ent.blk.injEq, true_and, and_true, Value.slice.injEq, Value.int.injEq] at hh
        obtain ⟨⟨⟨rfl, rfl, rfl⟩, rfl, rfl, rfl, rfl⟩, rfl⟩ := hh
        have hkl : k < (choicesL l.length).length := (List.getElem?_eq_some_iff.1 hcc).1
        obtain ⟨H7, g7, r7, hs⟩ := OwnS.publish (cs := css) hO (hF.two (by omega)) (by decide) (by have := choicesL_length hlen; have := hF.1; omega) hs (by repeat constructor)
        obtain ⟨ts, t1, t2, t3⟩ := fails_twins hF (by omega)
        exact Fin.retD [D] [] (show St _ _ ([] ++ (mes [D] ++ _)) from hs) fun w hs => ⟨_, results2 Tryz.results85 (rcells (vs := [_, _, _, _, _]) hs rfl Tryz.isAgg66 Tryz.sizeOf66) (rcell hs rfl Tryz.isAgg30), H7, _, ⟨cc, _, _, us, ts⟩, 0, (hleq.trans hqx).trans g7, rfl,
          ⟨_, _, _, css, rfl, hRc.mono g7, hU.mono g7, r7, by rw [hF.1, t1], fun j c t h1 h2 => (t2 j c t h1 h2).mono g7⟩, .inr ⟨rfl, k, hcc, hS, rfl, hn, t1, t3⟩, hs.out⟩
theorem probe_told_Pick {R : Pck → Int → Prop} {H : Heap} {w : World} {σ : List Ent} {v vl : Value} {a : Quest} {l : List Prb} {g : Nat} {cap : List Value} (hs : St H w σ) (hr : RAsk H v a) (hp : RPs H vl l) (hc : ∀ args w, (callFunc g args).run Tryz.prog w = .ok (.enter g args) w)
    (hg : ∀ H' w σ', HLe H H' → CPrbR a l 0 → St H' w σ' → Cl Tryz.prog g ([v] ++ cap) w fun u w' => ∃ H'' vk p e, HLe H' H'' ∧ u = .tuple #[vk, I e] ∧ RPick H'' vk p ∧ R p e ∧ St H'' w' σ') :
    Cl Tryz.prog 84 [v, vl, .func (.func g) #[] cap.toArray] w fun u w' => ∃ H1 vk p e, HLe H H1 ∧ u = .tuple #[vk, I e] ∧ RPick H1 vk p ∧ ((CPrbR a l e ∧ e ≠ 0 ∧ p = .none) ∨ (CPrbR a l 0 ∧ R p e)) ∧ St H1 w' σ := by
  obtain ⟨ul, uw, rfl, hl, hw⟩ := hr
  refine Cl.of Tryz.func84 rfl Tryz.ntmps84 (by simp) (args_cons (k := 0) rfl (args_cons (k := 1) rfl (args_cons (k := 2) rfl (args0)))) ?_
  refine .regSeq ?_
  refine .o (.box hs rfl rfl ?_); intro b3 w hs
  refine .o (.alloc hs Tryz.zeroValue66 rfl ?_); intro b6 w hs
  refine .z zg (.nil (.seq (.regSeq (.y hs (zls [_, _, _, _] Tryz.isAgg27 Tryz.sizeOf27) (.z zm ?_)))))
  refine .o (.call Tryz.call141 rfl (probe_CheckProbes_spec (a := a) hs ⟨_, _, rfl, hl, hw⟩ hp) ?_); rintro _ w ⟨H1, e, hle1, rfl, hC, hs⟩
  refine .z zg (.nil (.regSeq (.z zm (.z zneq (.nil ?_)))))
  refine (.condN rfl (fun hc14 => ?_) (fun hc14 => ?_))
  · refine .regSeq ?_
    refine .o (.alloc hs Tryz.zeroValue66 rfl ?_); intro b9 w hs
    refine .nil (.regSeq (.y hs (zls [_, _, _, _, _] Tryz.isAgg66 Tryz.sizeOf66) (.z zm ?_)))
    refine .o (.stores (vs := [_, _, _, _, _]) hs rfl rfl Tryz.sizeOf66 ?_); intro w hs
    refine .z zg (.nil ?_)
    refine .ret (rT (?_))
    exact Fin.retD [] [] hs fun w hs => ⟨_, results2 Tryz.results84 (rcells (vs := [_, _, _, _, _]) hs rfl Tryz.isAgg66 Tryz.sizeOf66) rfl, H1, _, .none, e, hle1, rfl, RPick.nil _, .inl ⟨hC, hc14, rfl⟩, hs.out⟩
  · refine .skip ?_
    refine nT ?_
    refine .regSeq (.z zm (.y hs (zls [_, _, _, _] Tryz.isAgg27 Tryz.sizeOf27) ?_))
    rw [hc14] at hC
    refine .o (.callG (first := []) rfl rfl hc (hg _ _ _ hle1 hC hs) ?_); rintro _ w ⟨H2, vk, p, e2, hle2, rfl, ⟨vp, vu, vf, css, rfl, k1, k2, k3, k4⟩, hR, hs⟩
    obtain ⟨ap, cp, rfl⟩ := RI.shape k1; obtain ⟨au, cu, rfl⟩ := RU.shape k2; obtain ⟨af, cf, rfl⟩ := RS.shape k3
    refine .z zex (.z zex ?_)
    refine .o (.stores (vs := [_, _, _, _, _]) hs rfl rfl Tryz.sizeOf66 ?_); intro w hs
    refine .z zg (.nil ?_)
    refine .ret ?_
    exact Fin.retD [] [] hs fun w hs => ⟨_, results2 Tryz.results84 (rcells (vs := [_, _, _, _, _]) hs rfl Tryz.isAgg66 Tryz.sizeOf66) rfl, H2, _, p, e2, hle1.trans hle2, rfl, ⟨_, _, _, css, rfl, k1, k2, k3, k4⟩, .inr ⟨hC, hR⟩, hs.out⟩
theorem probe_Fewest_spec {H : Heap} {w : World} {σ : List Ent} {v vl : Value} {a : Quest} {l : List Prb} (hs : St H w σ) (hr : RAsk H v a) (hp : RPs H vl l) :
    Cl Tryz.prog 30 [v, vl] w fun u w' => ∃ H1 vk p e, HLe H H1 ∧ u = .tuple #[vk, I e] ∧ RPick H1 vk p ∧ ((CPrbR a l e ∧ e ≠ 0 ∧ p = .none) ∨ (CPrbR a l 0 ∧ FewP a l p e)) ∧ St H1 w' σ := by
  obtain ⟨ul, uw, rfl, hl, hw⟩ := hr
  obtain ⟨al, cpl, rfl⟩ := RPs.shape hp
  refine Cl.of Tryz.func30 rfl Tryz.ntmps30 (by simp) (args_cons (k := 0) rfl (args_cons (k := 1) rfl (args0))) ?_
  refine .regSeq ?_
  refine .o (.box hs rfl rfl ?_); intro b2 w hs
  refine .o (.box hs rfl rfl ?_); intro b3 w hs
  refine .o (.alloc hs Tryz.zeroValue66 rfl ?_); intro b4 w hs
  refine .z zg (.nil (.regSeq (.y hs (zls [_, _, _, _] Tryz.isAgg27 Tryz.sizeOf27) (.y hs (zld Tryz.isAgg28) ?_))))
  refine .q hs (q_makeFunc (f := []) (c := [_]) rfl rfl) ?_
  obtain ⟨H0, hle0, hb3, hs⟩ := hs.publish (b := b3) (by repeat constructor)
  refine .o (.call Tryz.call84 rfl (probe_told_Pick (R := FewP a l) (a := a) (l := l) (cap := [.pointer (some ⟨b3, 0, none⟩)]) hs ⟨_, _, rfl, hl.mono hle0, hw.mono hle0⟩ (hp.mono hle0) Tryz.call85 ?_) ?_)
  · rintro H' w σ' hle hC hs
    obtain ⟨hok, hlen, hin⟩ := hC.zero
    exact probe_Fewest_1 (a := a) (l := l) hs ⟨_, _, rfl, (hl.mono hle0).mono hle, (hw.mono hle0).mono hle⟩ (hb3.mono hle) ((hp.mono hle0).mono hle) hok hlen (fun p h => (hin p h).inn)
  rintro _ w ⟨H1, vk, p, e, hle1, rfl, ⟨vp, vu, vf, css, rfl, k1, k2, k3, k4⟩, hcase, hs⟩
  obtain ⟨ap, cp, rfl⟩ := RI.shape k1; obtain ⟨au, cu, rfl⟩ := RU.shape k2; obtain ⟨af, cf, rfl⟩ := RS.shape k3
  refine .z zex (.z zex ?_)
  refine .o (.stores (vs := [_, _, _, _, _]) hs rfl rfl Tryz.sizeOf66 ?_); intro w hs
  refine .z zg (.nil ?_)
  refine .ret ?_
  exact Fin.retD [] [] hs fun w hs => ⟨_, results2 Tryz.results30 (rcells (vs := [_, _, _, _, _]) hs rfl Tryz.isAgg66 Tryz.sizeOf66) rfl, H1, _, p, e, hle0.trans hle1, rfl, ⟨_, _, _, css, rfl, k1, k2, k3, k4⟩, hcase, hs.out⟩
end Go.Proofs.YtiiokdeehlfeeaaGreat

namespace Go.Proofs.YtiiokdeehlfeeaaGreat
open Go.MW
theorem ref02_Same_spec {H : Heap} {w : World} {σ : List Ent} {va vb : Value} {A B : List Int} (hs : St H w σ) (hA : RI H va A) (hB : RI H vb B) :
    Cl Tryz.prog 20 [va, vb] w fun v w' => v = .bool (decide (A = B)) ∧ St H w' σ := by
  obtain ⟨aA, cA, rfl⟩ := RI.shape hA
  obtain ⟨aB, cB, rfl⟩ := RI.shape hB
  have hlA := (RI.len hA).2.2
  have hlB := (RI.len hB).2.2
  refine Cl.of Tryz.func20 rfl Tryz.ntmps20 (by simp) (args_cons (k := 0) rfl (args_cons (k := 1) rfl (args0))) ?_
  refine .regSeq (.z zg (.nil (.seq (.regSeq (.z zm (.z (zlen Tryz.runUnderlying25) (.z zm (.z (zlen Tryz.runUnderlying25) (.z zneq ?_)))))))))
  refine .nil ?_
  refine (.condN rfl (fun hc10 => ?_) (fun hc10 => ?_))
  · refine .regSeq (.z zg (.nil ?_))
    refine .ret (rT (Fin.ret1 Tryz.results20 rfl ?_))
    exact ⟨by rw [decide_eq_false (by intro h; subst h; exact hc10 rfl)], hs⟩
  · refine .skip ?_
    refine nT ?_
    refine .seq (.regSeq (.z zm (.z (zlen Tryz.runUnderlying25) (.z zm (.nil ?_)))))
    refine .for (N := A.length) (J := fun k fr w => fr = [(0, .slice aA A.length cA), (1, .slice aB B.length cB)] ∧ (∀ j < k, A[j]? = B[j]?) ∧ St H w σ) (by omega) ?_ ?_ ?_
    · exact .mk ⟨rfl, fun j h => by omega, hs⟩
    · rintro k fr w hk ⟨rfl, h0, hs⟩
      obtain ⟨xA, hxA⟩ := nth hk
      obtain ⟨xB, hxB⟩ := nth (l := B) (k := k) (by omega)
      refine .block (.regSeq (.z zm (.z zg (.nil ?_))))
      refine .seq (.draw mix rfl hs ?_); intro w hs
      refine .z 0 rfl zm ?_; refine .z 1 rfl zm ?_
      refine .ixX (enc := fun x => [I x]) (i := 2) hs rfl (by kernel_rfl) .none hA rfl rfl Tryz.runUnderlying25 Tryz.sizeOf3 hxA rfl ?_; intro b18 o18 hc18; replace hc18 := CellsAt.one hc18
      refine .r (i := 3) hs rfl (by kernel_rfl) .none (q_loadR rfl Tryz.isAgg3 hc18) ?_
      refine .z 4 rfl zm ?_; refine .z 5 rfl zm ?_
      refine .ixX (enc := fun x => [I x]) (i := 6) hs rfl (by kernel_rfl) .none hB rfl rfl Tryz.runUnderlying25 Tryz.sizeOf3 hxB rfl ?_; intro b22 o22 hc22; replace hc22 := CellsAt.one hc22
      refine .r (i := 7) hs rfl (by kernel_rfl) .none (q_loadR rfl Tryz.isAgg3 hc22) ?_
      refine .z 8 rfl zneq ?_; refine .done (by kernel_rfl) hs ?_
      refine (.condN rfl (fun hc24 => ?_) (fun hc24 => ?_))
      · refine .regSeq (.z zg (.nil ?_))
        refine .ret (rB (rT (rB (rT (Fin.ret1 Tryz.results20 rfl ?_)))))
        exact ⟨by rw [decide_eq_false (by intro h; subst h; rw [hxA] at hxB; cases hxB; exact hc24 rfl)], hs⟩
      · refine .skip ?_
        refine nB (nT ?_)
        exact .mk ⟨rfl, fun j hj => by
          by_cases e : j = k
          · subst e; rw [hxA, hxB, hc24]
          · exact h0 j (by omega), hs⟩
    · rintro fr w ⟨rfl, h0, hs⟩
      refine nT ?_
      refine .regSeq (.z zg (.nil ?_))
      refine .ret (Fin.ret1 Tryz.results20 rfl ?_)
      exact ⟨by rw [decide_eq_true (List.ext_getElem? fun j => by
        by_cases e : j < A.length
        · exact h0 j e
        · rw [List.getElem?_eq_none (by omega), List.getElem?_eq_none (by omega)])], hs⟩
theorem law09_example_spec {H : Heap} {w : World} {σ : List Ent} (hs : St H w σ) : Cl Tryz.prog 63 [] w fun v w' => ∃ H1, HLe H H1 ∧ RAsk H1 v exQ ∧ St H1 w' σ := by
  refine Cl.of Tryz.func63 rfl Tryz.ntmps63 (by simp) (args0) ?_
  refine .regSeq ?_
  refine .o (.alloc hs Tryz.zeroValue27 rfl ?_); intro b0 w hs
  refine .nil (.regSeq (.z (zbd [_, _, _, _] bld_api_Limit) (.z (zbd [_, _, _, _] bld_api_Limit) (.z (zbd [_, _, _, _] bld_api_Limit) (.z (zbd [_, _, _, _] bld_api_Limit) ?_)))))
  refine .o (.buildSlice (cells := Lims exS.lims) hs bls_sl_api_Limit_4 rfl (by kernel_rfl) ?_); intro b6 w hs
  refine .z (zbd [_, _] bld_api_System) ?_
  refine .o (.alloc hs Tryz.zeroValue24 rfl ?_); intro b1 w hs
  refine .o (.stores (vs := [_, _]) hs rfl rfl Tryz.sizeOf24 ?_); intro w hs
  refine .nil (.regSeq (.y hs (zls [_, _] Tryz.isAgg24 Tryz.sizeOf24) ?_))
  refine .o (.buildSlice (cells := Is [0, 1, 1]) hs bls_sl_int_3 rfl (by kernel_rfl) ?_); intro b9 w hs
  refine .z (zbd [_, _, _, _] bld_api_Ask) ?_
  refine .o (.stores (vs := [_, _, _, _]) hs rfl rfl Tryz.sizeOf27 ?_); intro w hs
  refine .nil ?_
  refine .ret ?_
  obtain ⟨H1, g1, r1, hs⟩ := OwnS.publish (m := 4) (v := .slice (some ⟨b6, 0, none⟩) 4 4) (cs := exS.lims.map Lim.c) (.full rfl) (by decide) (by decide) (by decide) hs (by repeat constructor)
  obtain ⟨H2, g2, r2, hs⟩ := OwnS.publishI (v := .slice (some ⟨b9, 0, none⟩) 3 3) (xs := [0, 1, 1]) (.full rfl) (by decide) hs (by repeat constructor)
  exact Fin.retD [] [] hs fun w hs => ⟨_, results1 Tryz.results63 (rcells (vs := [_, _, _, _]) hs rfl Tryz.isAgg27 Tryz.sizeOf27), H2, g1.trans g2, ⟨_, _, rfl, RS.mono r1 g2, r2⟩, hs.out⟩
theorem law09_three_spec {H : Heap} {w : World} {σ : List Ent} (hs : St H w σ) : Cl Tryz.prog 64 [] w fun v w' => ∃ H1 b, HLe H H1 ∧ v = .slice (some ⟨b, 0, none⟩) 3 3 ∧ RPs H1 v exL ∧ St H1 w' σ := by
  refine Cl.of Tryz.func64 rfl Tryz.ntmps64 (by simp) (args0) ?_
  refine .regSeq (.z zg (.nil (.regSeq (.z (zbd [_, _] bld_api_Probe) (.z (zbd [_, _] bld_api_Probe) (.z (zbd [_, _] bld_api_Probe) ?_))))))
  refine .o (.buildSlice (cells := Prbs exL) hs bls_sl_api_Probe_3 rfl (by kernel_rfl) ?_); intro b4 w hs
  refine .z zg (.nil ?_)
  refine .ret (Fin.ret1 Tryz.results64 rfl ?_)
  obtain ⟨H1, g1, r1, hs⟩ := OwnS.publish (m := 2) (v := .slice (some ⟨b4, 0, none⟩) 3 3) (cs := exL.map Prb.c) (.full rfl) (by decide) (by decide) (by decide) hs (by repeat constructor)
  exact ⟨H1, b4, g1, rfl, r1, hs⟩
theorem ex_few {p : Pck} {e : Int} (h : FewP exQ exL p e) : e = 0 ∧ p.probes = [0] ∧ p.width = 7 := by
  rcases h with ⟨-, -, h⟩ | ⟨rfl, k, h1, h2, h3, h4, h5, h6⟩
  · have := h [0] (by decide) 7 ex_worst1
    exact absurd this (by decide)
  · match k, h1, h6 with
    | 0, h1, h6 =>
      have e1 : p.probes = [] := by have : (choicesL exL.length)[0]? = some [] := by decide
                                    rw [this] at h1; exact (Option.some.inj h1).symm
      rw [e1] at h2
      have h7 := ex_worst0 h2.1
      have h8 : exQ.width = 8 := rfl
      omega
    | 1, h1, _ =>
      have e1 : p.probes = [0] := by have : (choicesL exL.length)[1]? = some [0] := by decide
                                     rw [this] at h1; exact (Option.some.inj h1).symm
      rw [e1] at h2
      exact ⟨rfl, e1, h2.1.uniq ex_worst1⟩
    | k + 2, _, h6 =>
      have := (h6 1 [0] (by omega) (by decide)).1 7 ex_worst1
      exact absurd this (by decide)
theorem ex_shown {l : List Prb} {n e : Int} {us : List Use} (hl : ∀ p ∈ l, p ∈ exL) (hn : l.length ≤ 8) (h : (CPrbR exQ l e ∧ e ≠ 0 ∧ n = 0 ∧ us = []) ∨ (CPrbR exQ l 0 ∧ e = 0 ∧ ShownR exQ l n us)) : e = 0 ∧ PairS exQ l n := by
  rcases h with ⟨h1, h2, _⟩ | ⟨_, h1, h2⟩
  · exact (h2 (h1.uniq (ex_prbs hl hn))).elim
  · exact ⟨h1, h2.1⟩
theorem law09_sane_spec {H : Heap} {w : World} {σ : List Ent} (hs : St H w σ) : Cl Tryz.prog 15 [] w fun v w' => v = .bool true ∧ ∃ H1, HLe H H1 ∧ St H1 w' σ := by
  refine Cl.of Tryz.func15 rfl Tryz.ntmps15 (by simp) (args0) ?_
  refine .regSeq (.z zg (.nil (.regSeq ?_)))
  refine .o (.call Tryz.call63 rfl (law09_example_spec hs) ?_); rintro _ w ⟨H1, hle1, ⟨ul, uw, rfl, hl, hw⟩, hs⟩
  obtain ⟨al, cl, rfl⟩ := RL.shape hl; obtain ⟨aw, cw, rfl⟩ := RI.shape hw
  refine .o (.alloc hs Tryz.zeroValue27 rfl ?_); intro b1 w hs
  refine .o (.stores (vs := [_, _, _, _]) hs rfl rfl Tryz.sizeOf27 ?_); intro w hs
  refine .nil (.regSeq (.y hs (zls [_, _, _, _] Tryz.isAgg27 Tryz.sizeOf27) ?_))
  refine .o (.call Tryz.call40 rfl (probe_Width_spec (a := exQ) hs ⟨_, _, rfl, hl, hw⟩) ?_); rintro _ w ⟨H2, n, e, hle2, rfl, hW, hs⟩
  obtain ⟨rfl, rfl⟩ : n = 23 ∧ e = 0 := by
    rcases hW with ⟨h1, h2, _⟩ | ⟨_, rfl, lo, hi, h3, rfl⟩
    · exact (h2 (h1.uniq (CAskR.zero.2 exQ_ok))).elim
    · obtain ⟨rfl, rfl, _⟩ := h3.uniq ex_range; exact ⟨rfl, rfl⟩
  replace hl := hl.mono hle2; replace hw := hw.mono hle2
  refine .z zm (.z zex (.z zex (.z zg (.z zg (.nil ?_)))))
  refine .cut (fun fs w => ∃ H3, FSub fs ⟨116, [], [(1, .pointer (some ⟨b1, 0, none⟩)), (2, I 23), (3, I 0), (4, I 7), (6, I 0)]⟩ ∧ HLe H2 H3 ∧ St H3 w (.blk b1 [I exQ.sys.many, .slice al exQ.sys.lims.length cl, .slice aw exQ.ws.length cw, I exQ.width] :: σ)) ?_ ?_
  · refine .draw mix rfl hs ?_; intro w hs
    refine .ys 0 rfl hs [_, _, _, _] Tryz.isAgg27 Tryz.sizeOf27 ?_
    refine .e2 (i := 1) (j := 8) (by kernel_rfl) rfl rfl rfl rfl .none .none hs ?_ ?_
    · refine .call Tryz.call64 rfl (law09_three_spec hs) ?_; rintro _ w ⟨H3, bt, hle3, rfl, hR, hs⟩
      refine .go ?_
      refine .p (i := 2) rfl (by kernel_rfl) .none (q_sliceHM (hi := 1) (mx := 1) rfl rfl rfl Tryz.runUnderlying28 Tryz.sizeOf54 (by omega) (by omega)) ?_
      refine .e2 (i := 3) (j := 8) (by kernel_rfl) rfl rfl rfl rfl .none .none hs ?_ ?_
      · refine .call Tryz.call36 rfl (probe_Worst_spec (a := exQ) hs ⟨_, _, rfl, hl.mono hle3, hw.mono hle3⟩ (ex_first hR)) ?_; rintro _ w ⟨H4, _, n, us, e, hle4, rfl, ⟨vu, rfl, hU⟩, hcase, hs⟩
        obtain ⟨rfl, hPS⟩ := ex_shown (by simp [exL]) (by decide) hcase
        obtain rfl := hPS.uniq ex_worst1
        obtain ⟨au, cu, rfl⟩ := RU.shape hU
        refine .go ?_
        refine .z 4 rfl zm ?_; refine .z 5 rfl zex ?_; refine .z 6 rfl zex ?_; refine .z 7 rfl zex ?_
        refine .e1 (i := 8) (by kernel_rfl) rfl rfl .none hs ?_
        refine .alloc hs Tryz.zeroValue63 rfl ?_; intro b5 w hs
        refine .go ?_
        refine .z 9 rfl zg ?_
        refine .e1 (i := 10) (by kernel_rfl) rfl rfl .none hs ?_
        refine .stores (vs := [_, _]) hs rfl rfl Tryz.sizeOf63 ?_; intro w hs
        refine .go ?_
        refine .z 11 rfl zg ?_; refine .done (by kernel_rfl) hs ?_
        exact nT ⟨H4, by repeat (first | exact .nil rfl rfl | refine .cons rfl ?_), hle3.trans hle4, hs.sub (by repeat (first | exact Sub.refl _ | constructor | apply Sub.weaken))⟩
      · refine .alloc hs Tryz.zeroValue63 rfl ?_; intro b5 w hs
        refine .go ?_
        refine .e1 (i := 3) (by kernel_rfl) rfl rfl .none hs ?_
        refine .call Tryz.call36 rfl (probe_Worst_spec (a := exQ) hs ⟨_, _, rfl, hl.mono hle3, hw.mono hle3⟩ (ex_first hR)) ?_; rintro _ w ⟨H4, _, n, us, e, hle4, rfl, ⟨vu, rfl, hU⟩, hcase, hs⟩
        obtain ⟨rfl, hPS⟩ := ex_shown (by simp [exL]) (by decide) hcase
        obtain rfl := hPS.uniq ex_worst1
        obtain ⟨au, cu, rfl⟩ := RU.shape hU
        refine .go ?_
        refine .z 4 rfl zm ?_; refine .z 5 rfl zex ?_; refine .z 6 rfl zex ?_; refine .z 7 rfl zex ?_; refine .z 9 rfl zg ?_
        refine .e1 (i := 10) (by kernel_rfl) rfl rfl .none hs ?_
        refine .stores (vs := [_, _]) hs rfl rfl Tryz.sizeOf63 ?_; intro w hs
        refine .go ?_
        refine .z 11 rfl zg ?_; refine .done (by kernel_rfl) hs ?_
        exact nT ⟨H4, by repeat (first | exact .nil rfl rfl | refine .cons rfl ?_), hle3.trans hle4, hs.sub (by repeat (first | exact Sub.refl _ | constructor | apply Sub.weaken))⟩
    · refine .alloc hs Tryz.zeroValue63 rfl ?_; intro b5 w hs
      refine .go ?_
      refine .e1 (i := 1) (by kernel_rfl) rfl rfl .none hs ?_
      refine .call Tryz.call64 rfl (law09_three_spec hs) ?_; rintro _ w ⟨H3, bt, hle3, rfl, hR, hs⟩
      refine .go ?_
      refine .p (i := 2) rfl (by kernel_rfl) .none (q_sliceHM (hi := 1) (mx := 1) rfl rfl rfl Tryz.runUnderlying28 Tryz.sizeOf54 (by omega) (by omega)) ?_
      refine .e1 (i := 3) (by kernel_rfl) rfl rfl .none hs ?_
      refine .call Tryz.call36 rfl (probe_Worst_spec (a := exQ) hs ⟨_, _, rfl, hl.mono hle3, hw.mono hle3⟩ (ex_first hR)) ?_; rintro _ w ⟨H4, _, n, us, e, hle4, rfl, ⟨vu, rfl, hU⟩, hcase, hs⟩
      obtain ⟨rfl, hPS⟩ := ex_shown (by simp [exL]) (by decide) hcase
      obtain rfl := hPS.uniq ex_worst1
      obtain ⟨au, cu, rfl⟩ := RU.shape hU
      refine .go ?_
      refine .z 4 rfl zm ?_; refine .z 5 rfl zex ?_; refine .z 6 rfl zex ?_; refine .z 7 rfl zex ?_; refine .z 9 rfl zg ?_
      refine .e1 (i := 10) (by kernel_rfl) rfl rfl .none hs ?_
      refine .stores (vs := [_, _]) hs rfl rfl Tryz.sizeOf63 ?_; intro w hs
      refine .go ?_
      refine .z 11 rfl zg ?_; refine .done (by kernel_rfl) hs ?_
      exact nT ⟨H4, by repeat (first | exact .nil rfl rfl | refine .cons rfl ?_), hle3.trans hle4, hs.sub (by repeat (first | exact Sub.refl _ | constructor | apply Sub.weaken))⟩
  · rintro fs w ⟨H3, hfs, hle3, hs⟩
    refine WE.sub ?_ hfs
    replace hl := hl.mono hle3; replace hw := hw.mono hle3
    refine .regSeq (.y hs (zls [_, _, _, _] Tryz.isAgg27 Tryz.sizeOf27) (.z (zbd [_, _] bld_api_Probe) ?_))
    refine .o (.buildSlice (cells := Prbs [⟨2, 0⟩]) hs bls_sl_api_Probe_1 rfl (by kernel_rfl) ?_); intro b34 w hs
    obtain ⟨H4, hle4, r4, hs⟩ := OwnS.publish (m := 2) (v := .slice (some ⟨b34, 0, none⟩) 1 1) (cs := [(⟨2, 0⟩ : Prb)].map Prb.c) (.full rfl) (by decide) (by decide) (by decide) hs (by repeat constructor)
    refine .o (.call Tryz.call36 rfl (probe_Worst_spec (a := exQ) (l := [⟨2, 0⟩]) hs ⟨_, _, rfl, hl.mono hle4, hw.mono hle4⟩ r4) ?_); rintro _ w ⟨H5, _, n, us, e, hle5, rfl, ⟨vu, rfl, hU⟩, hcase, hs⟩
    obtain ⟨rfl, hPS⟩ := ex_shown (by simp [exL]) (by decide) hcase
    obtain rfl := hPS.uniq ex_worst3
    obtain ⟨au, cu, rfl⟩ := RU.shape hU
    replace hl := hl.mono (hle4.trans hle5); replace hw := hw.mono (hle4.trans hle5)
    refine .z zm (.z zex (.z zex (.z zex ?_)))
    refine .o (.alloc hs Tryz.zeroValue63 rfl ?_); intro b8 w hs
    refine .z zg ?_
    refine .o (.stores (vs := [_, _]) hs rfl rfl Tryz.sizeOf63 ?_); intro w hs
    refine .z zg (.nil ?_)
    refine .cut (fun fs w => ∃ H6 b10 ap lp cp, FSub fs ⟨116, [], [(1, .pointer (some ⟨b1, 0, none⟩)), (2, I 23), (3, I 0), (4, I 7), (6, I 0), (7, I 3), (9, I 0), (10, .pointer (some ⟨b10, 0, none⟩)), (11, I 0)]⟩ ∧ HLe H5 H6 ∧ RI H6 (.slice ap lp cp) [0] ∧ ∃ bd vu vf, St H6 w (.blk b10 [.slice ap lp cp, I 7, bd, vu, vf] :: .blk b1 [I exQ.sys.many, .slice al exQ.sys.lims.length cl, .slice aw exQ.ws.length cw, I exQ.width] :: σ)) ?_ ?_
    · refine .draw mix rfl hs ?_; intro w hs
      refine .ys 0 rfl hs [_, _, _, _] Tryz.isAgg27 Tryz.sizeOf27 ?_
      refine .e2 (i := 1) (j := 6) (by kernel_rfl) rfl rfl rfl rfl .none .none hs ?_ ?_
      · refine .call Tryz.call64 rfl (law09_three_spec hs) ?_; rintro _ w ⟨H6, bt, hle6, rfl, hR, hs⟩
        refine .go ?_
        refine .e2 (i := 2) (j := 6) (by kernel_rfl) rfl rfl rfl rfl .none .none hs ?_ ?_
        · refine .call Tryz.call30 rfl (probe_Fewest_spec (a := exQ) hs ⟨_, _, rfl, hl.mono hle6, hw.mono hle6⟩ hR) ?_; rintro _ w ⟨H7, _, p, e, hle7, rfl, ⟨vp, vu, vf, css, rfl, k1, k2, k3, k4⟩, hcase, hs⟩
          obtain ⟨rfl, hp1, hp2⟩ : e = 0 ∧ p.probes = [0] ∧ p.width = 7 := by
            rcases hcase with ⟨h1, h2, _⟩ | ⟨_, h⟩
            · exact (h2 (h1.uniq (ex_prbs (fun _ h => h) (by decide)))).elim
            · exact ex_few h
          rw [hp1] at k1
          rw [hp2] at *
          obtain ⟨ap, cp, rfl⟩ := RI.shape k1; obtain ⟨au, cu, rfl⟩ := RU.shape k2; obtain ⟨af, cf, rfl⟩ := RS.shape k3
          refine .go ?_
          refine .z 3 rfl zm ?_; refine .z 4 rfl zex ?_; refine .z 5 rfl zex ?_
          refine .e1 (i := 6) (by kernel_rfl) rfl rfl .none hs ?_
          refine .alloc hs Tryz.zeroValue66 rfl ?_; intro b10 w hs
          refine .go ?_
          refine .e1 (i := 7) (by kernel_rfl) rfl rfl .none hs ?_
          refine .stores (vs := [_, _, _, _, _]) hs rfl rfl Tryz.sizeOf66 ?_; intro w hs
          refine .go ?_
          refine .z 8 rfl zg ?_; refine .done (by kernel_rfl) hs ?_
          exact nT ⟨H7, _, _, _, _, by repeat (first | exact .nil rfl rfl | refine .cons rfl ?_), hle6.trans hle7, k1, _, _, _, hs.sub (by repeat (first | exact Sub.refl _ | constructor | apply Sub.weaken))⟩
        · refine .alloc hs Tryz.zeroValue66 rfl ?_; intro b10 w hs
          refine .go ?_
          refine .e1 (i := 2) (by kernel_rfl) rfl rfl .none hs ?_
          refine .call Tryz.call30 rfl (probe_Fewest_spec (a := exQ) hs ⟨_, _, rfl, hl.mono hle6, hw.mono hle6⟩ hR) ?_; rintro _ w ⟨H7, _, p, e, hle7, rfl, ⟨vp, vu, vf, css, rfl, k1, k2, k3, k4⟩, hcase, hs⟩
          obtain ⟨rfl, hp1, hp2⟩ : e = 0 ∧ p.probes = [0] ∧ p.width = 7 := by
            rcases hcase with ⟨h1, h2, _⟩ | ⟨_, h⟩
            · exact (h2 (h1.uniq (ex_prbs (fun _ h => h) (by decide)))).elim
            · exact ex_few h
          rw [hp1] at k1
          rw [hp2] at *
          obtain ⟨ap, cp, rfl⟩ := RI.shape k1; obtain ⟨au, cu, rfl⟩ := RU.shape k2; obtain ⟨af, cf, rfl⟩ := RS.shape k3
          refine .go ?_
          refine .z 3 rfl zm ?_; refine .z 4 rfl zex ?_; refine .z 5 rfl zex ?_
          refine .e1 (i := 7) (by kernel_rfl) rfl rfl .none hs ?_
          refine .stores (vs := [_, _, _, _, _]) hs rfl rfl Tryz.sizeOf66 ?_; intro w hs
          refine .go ?_
          refine .z 8 rfl zg ?_; refine .done (by kernel_rfl) hs ?_
          exact nT ⟨H7, _, _, _, _, by repeat (first | exact .nil rfl rfl | refine .cons rfl ?_), hle6.trans hle7, k1, _, _, _, hs.sub (by repeat (first | exact Sub.refl _ | constructor | apply Sub.weaken))⟩
      · refine .alloc hs Tryz.zeroValue66 rfl ?_; intro b10 w hs
        refine .go ?_
        refine .e1 (i := 1) (by kernel_rfl) rfl rfl .none hs ?_
        refine .call Tryz.call64 rfl (law09_three_spec hs) ?_; rintro _ w ⟨H6, bt, hle6, rfl, hR, hs⟩
        refine .go ?_
        refine .e1 (i := 2) (by kernel_rfl) rfl rfl .none hs ?_
        refine .call Tryz.call30 rfl (probe_Fewest_spec (a := exQ) hs ⟨_, _, rfl, hl.mono hle6, hw.mono hle6⟩ hR) ?_; rintro _ w ⟨H7, _, p, e, hle7, rfl, ⟨vp, vu, vf, css, rfl, k1, k2, k3, k4⟩, hcase, hs⟩
        obtain ⟨rfl, hp1, hp2⟩ : e = 0 ∧ p.probes = [0] ∧ p.width = 7 := by
          rcases hcase with ⟨h1, h2, _⟩ | ⟨_, h⟩
          · exact (h2 (h1.uniq (ex_prbs (fun _ h => h) (by decide)))).elim
          · exact ex_few h
        rw [hp1] at k1
        rw [hp2] at *
        obtain ⟨ap, cp, rfl⟩ := RI.shape k1; obtain ⟨au, cu, rfl⟩ := RU.shape k2; obtain ⟨af, cf, rfl⟩ := RS.shape k3
        refine .go ?_
        refine .z 3 rfl zm ?_; refine .z 4 rfl zex ?_; refine .z 5 rfl zex ?_
        refine .e1 (i := 7) (by kernel_rfl) rfl rfl .none hs ?_
        refine .stores (vs := [_, _, _, _, _]) hs rfl rfl Tryz.sizeOf66 ?_; intro w hs
        refine .go ?_
        refine .z 8 rfl zg ?_; refine .done (by kernel_rfl) hs ?_
        exact nT ⟨H7, _, _, _, _, by repeat (first | exact .nil rfl rfl | refine .cons rfl ?_), hle6.trans hle7, k1, _, _, _, hs.sub (by repeat (first | exact Sub.refl _ | constructor | apply Sub.weaken))⟩
    · rintro fs w ⟨H6, b10, ap, lp, cp, hfs, hle6, hk1, bd, vu, vf, hs⟩
      refine WE.sub ?_ hfs
      replace hl := hl.mono hle6; replace hw := hw.mono hle6
      refine .regSeq ?_
      refine .o (.call Tryz.call64 rfl (law09_three_spec hs) ?_); rintro _ w ⟨H7, bt, hle7, rfl, hR, hs⟩
      refine .q hs (q_sliceHM (hi := 1) (mx := 1) rfl rfl rfl Tryz.runUnderlying28 Tryz.sizeOf54 (by omega) (by omega)) ?_
      refine .o (.buildSlice (cells := Is [0, 4, 4]) hs bls_sl_int_3 rfl (by kernel_rfl) ?_); intro b48 w hs
      refine .o (.buildSlice (cells := Is [0, 6, 9]) hs bls_sl_int_3 rfl (by kernel_rfl) ?_); intro b49 w hs
      obtain ⟨H8, hle8, r8, hs⟩ := OwnS.publishI (v := .slice (some ⟨b48, 0, none⟩) 3 3) (xs := [0, 4, 4]) (.full rfl) (by decide) hs (by repeat constructor)
      obtain ⟨H9, hle9, r9, hs⟩ := OwnS.publishI (v := .slice (some ⟨b49, 0, none⟩) 3 3) (xs := [0, 6, 9]) (.full rfl) (by decide) hs (by repeat constructor)
      refine .z (zbd [_, _] bld_api_Twins) ?_
      refine .o (.call Tryz.call18 rfl (probe_Meeting_spec hs ((ex_first hR).mono (hle8.trans hle9)) (r8.mono hle9) r9 (by decide)) ?_); rintro _ w ⟨H10, vo, e, hle10, rfl, rfl, hV, hs⟩
      rw [show meetErr [0, 4, 4] [0, 6, 9] [⟨1, 1⟩] = 0 by decide] at *
      replace hV : RI H10 vo [5] := by simpa [meetVals, gi] using hV
      obtain ⟨ao, co, rfl⟩ := RI.shape hV
      have hle610 := hle7.trans (hle8.trans (hle9.trans hle10))
      replace hl := hl.mono hle610; replace hw := hw.mono hle610
      refine .z zm (.z zex (.z zex ?_))
      refine .o (.alloc hs Tryz.zeroValue42 rfl ?_); intro b12 w hs
      refine .o (.stores (vs := [_]) hs rfl rfl Tryz.sizeOf42 ?_); intro w hs
      refine .z zg (.nil ?_)
      refine .seq (.draw mix rfl hs ?_); intro w hs
      refine .ys 0 rfl hs [_, _, _, _] Tryz.isAgg27 Tryz.sizeOf27 ?_
      refine .e1 (i := 1) (by kernel_rfl) rfl rfl .none hs ?_
      refine .call Tryz.call64 rfl (law09_three_spec hs) ?_; rintro _ w ⟨H11, bt2, hle11, rfl, hR, hs⟩
      refine .go ?_
      refine .e1 (i := 2) (by kernel_rfl) rfl rfl .none hs ?_
      refine .call Tryz.call12 rfl (probe_Best_spec (a := exQ) hs ⟨_, _, rfl, hl.mono hle11, hw.mono hle11⟩ hR) ?_; rintro _ w ⟨H12, x, e, hle12, rfl, hcase, hs⟩
      obtain ⟨rfl, rfl⟩ : x = 2 ∧ e = 0 := by
        rcases hcase with ⟨h1, h2, _⟩ | ⟨_, h⟩
        · exact (h2 (h1.uniq (ex_prbs (fun _ h => h) (by decide)))).elim
        · exact ex_bestP h
      have hle612 := hle610.trans (hle11.trans hle12)
      refine .go ?_
      refine .z 3 rfl zm ?_; refine .z 4 rfl zex ?_; refine .z 5 rfl zex ?_; refine .z 6 rfl zg ?_; refine .z 7 rfl zg ?_; refine .done (by kernel_rfl) hs ?_
      refine .regSeq (.z zm (.z zeql (.z zm ?_)))
      refine .bifD (t' := 62) rfl (fun hb62 => ?_) (fun hb62 => ?_)
      · refine .gT rfl rfl ?_
        refine .z zm ?_
        refine .gT rfl rfl ?_
        refine .z zeql (.z zpT (.z zm ?_))
        refine .bifD (t' := 66) rfl (fun hb66 => ?_) (fun hb66 => ?_)
        · refine .gT rfl rfl ?_
          refine .z zm ?_
          refine .gT rfl rfl ?_
          refine .z zeql (.z zpT (.z zm ?_))
          refine .bifD (t' := 70) rfl (fun hb70 => ?_) (fun hb70 => ?_)
          · refine .gT rfl rfl ?_
            refine .z zm ?_
            refine .gT rfl rfl ?_
            refine .z zeql (.z zpT (.z zm ?_))
            refine .bifD (t' := 74) rfl (fun hb74 => ?_) (fun hb74 => ?_)
            · refine .gT rfl rfl ?_
              refine .z zm ?_
              refine .gT rfl rfl ?_
              refine .z zeql (.z zpT (.z zm ?_))
              refine .bifD (t' := 78) rfl (fun hb78 => ?_) (fun hb78 => ?_)
              · refine .gT rfl rfl ?_
                refine .z zm ?_
                refine .gT rfl rfl ?_
                refine .z zeql (.z zpT (.z zg (.nil (.regSeq (.z zm (.z zm ?_))))))
                refine .bifD (t' := 83) rfl (fun hb83 => ?_) (fun hb83 => ?_)
                · refine .gT rfl rfl ?_
                  refine .z zm ?_
                  refine .gT rfl rfl ?_
                  refine .z zeql (.z zpT (.z zm ?_))
                  refine .bifD (t' := 87) rfl (fun hb87 => ?_) (fun hb87 => ?_)
                  · refine .gT rfl rfl ?_
                    refine .z zm ?_
                    refine .gT rfl rfl ?_
                    refine .z zeql (.z zpT (.z zm ?_))
                    refine .bifD (t' := 91) rfl (fun hb91 => ?_) (fun hb91 => ?_)
                    · refine .gT rfl rfl ?_
                      refine .z zm ?_
                      refine .gT rfl rfl ?_
                      refine .z zeql (.z zpT (.z zm ?_))
                      refine .bifD (t' := 95) rfl (fun hb95 => ?_) (fun hb95 => ?_)
                      · refine .gT rfl rfl ?_
                        refine .z (zfa fa_api_Pick_1) ?_
                        refine .gT rfl rfl ?_
                        refine .y hs (zld Tryz.isAgg3) ?_
                        refine .gT rfl rfl ?_
                        refine .z zeql (.z zpT (.z zm ?_))
                        refine .bifD (t' := 100) rfl (fun hb100 => ?_) (fun hb100 => ?_)
                        · refine .gT rfl rfl ?_
                          refine .z (zfa fa_api_Pick_0) ?_
                          refine .gT rfl rfl ?_
                          refine .y hs (zld Tryz.isAgg25) ?_
                          refine .gT rfl rfl ?_
                          refine .o (.buildSlice (cells := [_]) hs bls_sl_int_1 rfl rfl ?_); intro b103 w hs
                          refine .gT rfl rfl ?_
                          obtain ⟨H13, hle13, r13, hs⟩ := OwnS.publishI (v := .slice (some ⟨b103, 0, none⟩) 1 1) (xs := [0]) (.full rfl) (by decide) hs (by repeat constructor)
                          refine .o (.call Tryz.call20 rfl (ref02_Same_spec hs (hk1.mono (hle612.trans hle13)) r13) ?_); rintro _ w ⟨rfl, hs⟩
                          refine .z zpT (.z zm ?_)
                          refine .bif (t' := 106) rfl (fun hb106 => ?_) (fun hb106 => ?_)
                          · refine .gT rfl rfl ?_
                            refine .z (zfa fa_api_Outcome_0) ?_
                            refine .gT rfl rfl ?_
                            refine .y hs (zld Tryz.isAgg25) ?_
                            refine .gT rfl rfl ?_
                            refine .o (.buildSlice (cells := [_]) hs bls_sl_int_1 rfl rfl ?_); intro b109 w hs
                            refine .gT rfl rfl ?_
                            obtain ⟨H14, hle14, r14, hs⟩ := OwnS.publishI (v := .slice (some ⟨b109, 0, none⟩) 1 1) (xs := [5]) (.full rfl) (by decide) hs (by repeat constructor)
                            refine .o (.call Tryz.call20 rfl (ref02_Same_spec hs (hV.mono ((hle11.trans hle12).trans (hle13.trans hle14))) r14) ?_); rintro _ w ⟨rfl, hs⟩
                            refine .z zpT (.z zm ?_)
                            refine .bif (t' := 112) rfl (fun hb112 => ?_) (fun hb112 => ?_)
                            · refine .gT rfl rfl ?_
                              refine .z zm ?_
                              refine .gT rfl rfl ?_
                              refine .z zeql (.z zpT (.z zg (.nil ?_)))
                              refine .ret (Fin.ret1 Tryz.results15 rfl ?_)
                              first | (exfalso; first | omega | simp_all; done) | exact ⟨rfl, H14, ((hle1.trans hle2).trans (hle3.trans (hle4.trans hle5))).trans (hle6.trans (hle612.trans (hle13.trans hle14))), hs.out⟩
                            · refine .gFs 2 30 true rfl rfl rfl ?_
                              refine .z zpF (.z zg (.nil ?_))
                              refine .ret (Fin.ret1 Tryz.results15 rfl ?_)
                              first | (exfalso; first | omega | simp_all; done) | exact ⟨rfl, H14, ((hle1.trans hle2).trans (hle3.trans (hle4.trans hle5))).trans (hle6.trans (hle612.trans (hle13.trans hle14))), hs.out⟩
                          · refine .gFs 4 24 true rfl rfl rfl ?_
                            refine .z zpF (.z zm ?_)
                            refine .gFs 2 30 true rfl rfl rfl ?_
                            refine .z zpF (.z zg (.nil ?_))
                            refine .ret (Fin.ret1 Tryz.results15 rfl ?_)
                            first | (exfalso; first | omega | simp_all; done) | exact ⟨rfl, H14, ((hle1.trans hle2).trans (hle3.trans (hle4.trans hle5))).trans (hle6.trans (hle612.trans (hle13.trans hle14))), hs.out⟩
                        · refine .gFs 4 18 true rfl rfl rfl ?_
                          refine .z zpF (.z zm ?_)
                          refine .gFs 4 24 true rfl rfl rfl ?_
                          refine .z zpF (.z zm ?_)
                          refine .gFs 2 30 true rfl rfl rfl ?_
                          refine .z zpF (.z zg (.nil ?_))
                          refine .ret (Fin.ret1 Tryz.results15 rfl ?_)
                          first | (exfalso; first | omega | simp_all; done) | exact ⟨rfl, H14, ((hle1.trans hle2).trans (hle3.trans (hle4.trans hle5))).trans (hle6.trans (hle612.trans (hle13.trans hle14))), hs.out⟩
                      · refine .gFs 3 13 true rfl rfl rfl ?_
                        refine .z zpF (.z zm ?_)
                        refine .gFs 4 18 true rfl rfl rfl ?_
                        refine .z zpF (.z zm ?_)
                        refine .gFs 4 24 true rfl rfl rfl ?_
                        refine .z zpF (.z zm ?_)
                        refine .gFs 2 30 true rfl rfl rfl ?_
                        refine .z zpF (.z zg (.nil ?_))
                        refine .ret (Fin.ret1 Tryz.results15 rfl ?_)
                        first | (exfalso; first | omega | simp_all; done) | exact ⟨rfl, H14, ((hle1.trans hle2).trans (hle3.trans (hle4.trans hle5))).trans (hle6.trans (hle612.trans (hle13.trans hle14))), hs.out⟩
                    · refine .gFs 2 9 true rfl rfl rfl ?_
                      refine .z zpF (.z zm ?_)
                      refine .gFs 3 13 true rfl rfl rfl ?_
                      refine .z zpF (.z zm ?_)
                      refine .gFs 4 18 true rfl rfl rfl ?_
                      refine .z zpF (.z zm ?_)
                      refine .gFs 4 24 true rfl rfl rfl ?_
                      refine .z zpF (.z zm ?_)
                      refine .gFs 2 30 true rfl rfl rfl ?_
                      refine .z zpF (.z zg (.nil ?_))
                      refine .ret (Fin.ret1 Tryz.results15 rfl ?_)
                      first | (exfalso; first | omega | simp_all; done) | exact ⟨rfl, H14, ((hle1.trans hle2).trans (hle3.trans (hle4.trans hle5))).trans (hle6.trans (hle612.trans (hle13.trans hle14))), hs.out⟩
                  · refine .gFs 2 5 true rfl rfl rfl ?_
                    refine .z zpF (.z zm ?_)
                    refine .gFs 2 9 true rfl rfl rfl ?_
                    refine .z zpF (.z zm ?_)
                    refine .gFs 3 13 true rfl rfl rfl ?_
                    refine .z zpF (.z zm ?_)
                    refine .gFs 4 18 true rfl rfl rfl ?_
                    refine .z zpF (.z zm ?_)
                    refine .gFs 4 24 true rfl rfl rfl ?_
                    refine .z zpF (.z zm ?_)
                    refine .gFs 2 30 true rfl rfl rfl ?_
                    refine .z zpF (.z zg (.nil ?_))
                    refine .ret (Fin.ret1 Tryz.results15 rfl ?_)
                    first | (exfalso; first | omega | simp_all; done) | exact ⟨rfl, H14, ((hle1.trans hle2).trans (hle3.trans (hle4.trans hle5))).trans (hle6.trans (hle612.trans (hle13.trans hle14))), hs.out⟩
                · refine .gFs 2 1 true rfl rfl rfl ?_
                  refine .z zpF (.z zm ?_)
                  refine .gFs 2 5 true rfl rfl rfl ?_
                  refine .z zpF (.z zm ?_)
                  refine .gFs 2 9 true rfl rfl rfl ?_
                  refine .z zpF (.z zm ?_)
                  refine .gFs 3 13 true rfl rfl rfl ?_
                  refine .z zpF (.z zm ?_)
                  refine .gFs 4 18 true rfl rfl rfl ?_
                  refine .z zpF (.z zm ?_)
                  refine .gFs 4 24 true rfl rfl rfl ?_
                  refine .z zpF (.z zm ?_)
                  refine .gFs 2 30 true rfl rfl rfl ?_
                  refine .z zpF (.z zg (.nil ?_))
                  refine .ret (Fin.ret1 Tryz.results15 rfl ?_)
                  first | (exfalso; first | omega | simp_all; done) | exact ⟨rfl, H14, ((hle1.trans hle2).trans (hle3.trans (hle4.trans hle5))).trans (hle6.trans (hle612.trans (hle13.trans hle14))), hs.out⟩
              · refine .gFs 2 18 true rfl rfl rfl ?_
                refine .z zpF (.z zg (.nil (.regSeq (.z zm (.z zm ?_)))))
                refine .gFs 2 1 true rfl rfl rfl ?_
                refine .z zpF (.z zm ?_)
                refine .gFs 2 5 true rfl rfl rfl ?_
                refine .z zpF (.z zm ?_)
                refine .gFs 2 9 true rfl rfl rfl ?_
                refine .z zpF (.z zm ?_)
                refine .gFs 3 13 true rfl rfl rfl ?_
                refine .z zpF (.z zm ?_)
                refine .gFs 4 18 true rfl rfl rfl ?_
                refine .z zpF (.z zm ?_)
                refine .gFs 4 24 true rfl rfl rfl ?_
                refine .z zpF (.z zm ?_)
                refine .gFs 2 30 true rfl rfl rfl ?_
                refine .z zpF (.z zg (.nil ?_))
                refine .ret (Fin.ret1 Tryz.results15 rfl ?_)
                first | (exfalso; first | omega | simp_all; done) | exact ⟨rfl, H14, ((hle1.trans hle2).trans (hle3.trans (hle4.trans hle5))).trans (hle6.trans (hle612.trans (hle13.trans hle14))), hs.out⟩
            · refine .gFs 2 14 true rfl rfl rfl ?_
              refine .z zpF (.z zm ?_)
              refine .gFs 2 18 true rfl rfl rfl ?_
              refine .z zpF (.z zg (.nil (.regSeq (.z zm (.z zm ?_)))))
              refine .gFs 2 1 true rfl rfl rfl ?_
              refine .z zpF (.z zm ?_)
              refine .gFs 2 5 true rfl rfl rfl ?_
              refine .z zpF (.z zm ?_)
              refine .gFs 2 9 true rfl rfl rfl ?_
              refine .z zpF (.z zm ?_)
              refine .gFs 3 13 true rfl rfl rfl ?_
              refine .z zpF (.z zm ?_)
              refine .gFs 4 18 true rfl rfl rfl ?_
              refine .z zpF (.z zm ?_)
              refine .gFs 4 24 true rfl rfl rfl ?_
              refine .z zpF (.z zm ?_)
              refine .gFs 2 30 true rfl rfl rfl ?_
              refine .z zpF (.z zg (.nil ?_))
              refine .ret (Fin.ret1 Tryz.results15 rfl ?_)
              first | (exfalso; first | omega | simp_all; done) | exact ⟨rfl, H14, ((hle1.trans hle2).trans (hle3.trans (hle4.trans hle5))).trans (hle6.trans (hle612.trans (hle13.trans hle14))), hs.out⟩
          · refine .gFs 2 10 true rfl rfl rfl ?_
            refine .z zpF (.z zm ?_)
            refine .gFs 2 14 true rfl rfl rfl ?_
            refine .z zpF (.z zm ?_)
            refine .gFs 2 18 true rfl rfl rfl ?_
            refine .z zpF (.z zg (.nil (.regSeq (.z zm (.z zm ?_)))))
            refine .gFs 2 1 true rfl rfl rfl ?_
            refine .z zpF (.z zm ?_)
            refine .gFs 2 5 true rfl rfl rfl ?_
            refine .z zpF (.z zm ?_)
            refine .gFs 2 9 true rfl rfl rfl ?_
            refine .z zpF (.z zm ?_)
            refine .gFs 3 13 true rfl rfl rfl ?_
            refine .z zpF (.z zm ?_)
            refine .gFs 4 18 true rfl rfl rfl ?_
            refine .z zpF (.z zm ?_)
            refine .gFs 4 24 true rfl rfl rfl ?_
            refine .z zpF (.z zm ?_)
            refine .gFs 2 30 true rfl rfl rfl ?_
            refine .z zpF (.z zg (.nil ?_))
            refine .ret (Fin.ret1 Tryz.results15 rfl ?_)
            first | (exfalso; first | omega | simp_all; done) | exact ⟨rfl, H14, ((hle1.trans hle2).trans (hle3.trans (hle4.trans hle5))).trans (hle6.trans (hle612.trans (hle13.trans hle14))), hs.out⟩
        · refine .gFs 2 6 true rfl rfl rfl ?_
          refine .z zpF (.z zm ?_)
          refine .gFs 2 10 true rfl rfl rfl ?_
          refine .z zpF (.z zm ?_)
          refine .gFs 2 14 true rfl rfl rfl ?_
          refine .z zpF (.z zm ?_)
          refine .gFs 2 18 true rfl rfl rfl ?_
          refine .z zpF (.z zg (.nil (.regSeq (.z zm (.z zm ?_)))))
          refine .gFs 2 1 true rfl rfl rfl ?_
          refine .z zpF (.z zm ?_)
          refine .gFs 2 5 true rfl rfl rfl ?_
          refine .z zpF (.z zm ?_)
          refine .gFs 2 9 true rfl rfl rfl ?_
          refine .z zpF (.z zm ?_)
          refine .gFs 3 13 true rfl rfl rfl ?_
          refine .z zpF (.z zm ?_)
          refine .gFs 4 18 true rfl rfl rfl ?_
          refine .z zpF (.z zm ?_)
          refine .gFs 4 24 true rfl rfl rfl ?_
          refine .z zpF (.z zm ?_)
          refine .gFs 2 30 true rfl rfl rfl ?_
          refine .z zpF (.z zg (.nil ?_))
          refine .ret (Fin.ret1 Tryz.results15 rfl ?_)
          first | (exfalso; first | omega | simp_all; done) | exact ⟨rfl, H14, ((hle1.trans hle2).trans (hle3.trans (hle4.trans hle5))).trans (hle6.trans (hle612.trans (hle13.trans hle14))), hs.out⟩
      · refine .gFs 2 2 true rfl rfl rfl ?_
        refine .z zpF (.z zm ?_)
        refine .gFs 2 6 true rfl rfl rfl ?_
        refine .z zpF (.z zm ?_)
        refine .gFs 2 10 true rfl rfl rfl ?_
        refine .z zpF (.z zm ?_)
        refine .gFs 2 14 true rfl rfl rfl ?_
        refine .z zpF (.z zm ?_)
        refine .gFs 2 18 true rfl rfl rfl ?_
        refine .z zpF (.z zg (.nil (.regSeq (.z zm (.z zm ?_)))))
        refine .gFs 2 1 true rfl rfl rfl ?_
        refine .z zpF (.z zm ?_)
        refine .gFs 2 5 true rfl rfl rfl ?_
        refine .z zpF (.z zm ?_)
        refine .gFs 2 9 true rfl rfl rfl ?_
        refine .z zpF (.z zm ?_)
        refine .gFs 3 13 true rfl rfl rfl ?_
        refine .z zpF (.z zm ?_)
        refine .gFs 4 18 true rfl rfl rfl ?_
        refine .z zpF (.z zm ?_)
        refine .gFs 4 24 true rfl rfl rfl ?_
        refine .z zpF (.z zm ?_)
        refine .gFs 2 30 true rfl rfl rfl ?_
        refine .z zpF (.z zg (.nil ?_))
        refine .ret (Fin.ret1 Tryz.results15 rfl ?_)
        first | (exfalso; first | omega | simp_all; done) | exact ⟨rfl, H14, ((hle1.trans hle2).trans (hle3.trans (hle4.trans hle5))).trans (hle6.trans (hle612.trans (hle13.trans hle14))), hs.out⟩
end Go.Proofs.YtiiokdeehlfeeaaGreat

namespace Go.Proofs.YtiiokdeehlfeeaaGreat
open Go.MW
theorem rem_emod {n m : Int} (hm : 0 < m) : (n.tmod m + m).tmod m = n % m := by
  have h2 := Int.lt_tmod_of_pos n hm
  rw [Int.tmod_eq_emod_of_nonneg (by omega), Int.tmod_def, show n - m * n.tdiv m + m = n + m * (1 - n.tdiv m) by rw [Int.mul_sub]; omega, Int.add_mul_emod_self_left]
theorem ref09_mod_spec {H : Heap} {w : World} {σ : List Ent} {n m : Int} (hs : St H w σ) (hm : 0 < m ∧ m ≤ 4611686018427387904) : Cl Tryz.prog 99 [I n, I m] w fun v w' => v = I (n % m) ∧ St H w' σ := by
  have h1 := Int.tmod_lt_of_pos n hm.1
  have h2 := Int.lt_tmod_of_pos n hm.1
  have e : (n.tmod m + m).tmod m = n % m := by
    rw [Int.tmod_eq_emod_of_nonneg (by omega), Int.tmod_def, show n - m * n.tdiv m + m = n + m * (1 - n.tdiv m) by rw [Int.mul_sub]; omega, Int.add_mul_emod_self_left]
  refine Cl.of Tryz.func99 rfl Tryz.ntmps99 (by simp) (args_cons (k := 0) rfl (args_cons (k := 1) rfl (args0))) ?_
  refine .regSeq (.z zg (.nil (.regSeq (.z zm (.z zm (.z zrem (.z zm (.z zadd (.z zm ?_)))))))))
  refine .z zrem (.z zg (.nil ?_))
  refine .ret (Fin.ret1 Tryz.results99 rfl ?_)
  exact ⟨congrArg I e, hs⟩
theorem ref09_at_spec {H : Heap} {w : World} {σ : List Ent} {v : Value} {l : List Int} {i : Int} (hs : St H w σ) (hr : RI H v l) (hl : l.length ≤ 4611686018427387904) : Cl Tryz.prog 100 [v, I i] w fun v w' => v = I (atI l i) ∧ St H w' σ := by
  obtain ⟨a, c, rfl⟩ := RI.shape hr
  refine Cl.of Tryz.func100 rfl Tryz.ntmps100 (by simp) (args_cons (k := 0) rfl (args_cons (k := 1) rfl (args0))) ?_
  refine .regSeq (.z zg (.nil (.seq (.regSeq (.z zm (.z (zlen Tryz.runUnderlying25) (.z zeql (.nil ?_))))))))
  refine (.condD rfl (fun hc7 => ?_) (fun hc7 => ?_))
  · refine .regSeq (.z zg (.nil ?_))
    refine .ret (rT (Fin.ret1 Tryz.results100 rfl ?_))
    exact ⟨by rw [show atI l i = 0 by unfold atI; rw [if_pos (List.length_eq_zero_iff.1 (by omega))]], hs⟩
  · refine .skip ?_
    refine nT ?_
    refine .regSeq (.z zm (.z zm (.z zm (.z (zlen Tryz.runUnderlying25) ?_))))
    refine .o (.call Tryz.call99 rfl (ref09_mod_spec hs (by omega)) ?_); rintro _ w ⟨rfl, hs⟩
    have h1 := Int.emod_nonneg i (b := (l.length : Int)) (by omega)
    have h2 := Int.emod_lt_of_pos i (b := (l.length : Int)) (by omega)
    have hx := gi_get (l := l) (i := (i % (l.length : Int)).toNat) (by omega)
    refine .ixY hs hr rfl rfl Tryz.runUnderlying25 Tryz.sizeOf3 hx (by omega) ?_; intro b13 o13 hc13
    refine .q hs (q_loadR rfl Tryz.isAgg3 hc13) ?_
    refine .z zg (.nil ?_)
    refine .ret (Fin.ret1 Tryz.results100 rfl ?_)
    exact ⟨by unfold atI; rw [if_neg (fun h => by rw [h] at hc7; exact hc7 rfl)], hs⟩
theorem ref02_Pick_spec {H : Heap} {w : World} {σ : List Ent} {v : Value} {l : List Int} {i n : Int} (hs : St H w σ) (hr : RI H v l) (hi : 0 ≤ i) (hn : n ≤ 4611686018427387904) : Cl Tryz.prog 160 [v, I i, I n] w fun v w' => v = I (pickI l i n) ∧ St H w' σ := by
  obtain ⟨a, c, rfl⟩ := RI.shape hr
  have hlen := (RI.len hr).2.2
  refine Cl.of Tryz.func160 rfl Tryz.ntmps160 (by simp) (args_cons (k := 0) rfl (args_cons (k := 1) rfl (args_cons (k := 2) rfl (args0)))) ?_
  refine .regSeq (.z zg (.nil (.seq (.regSeq (.z zm (.z (zlen Tryz.runUnderlying25) (.z zeql (.z zm ?_))))))))
  refine .bifD (t' := 10) rfl (fun hb10 => ?_) (fun hb10 => ?_)
  · refine .gFs 2 3 false rfl rfl rfl ?_
    refine .z zpT (.nil ?_)
    refine (.condT rfl rfl ?_)
    refine .regSeq (.z zg (.nil ?_))
    refine .ret (rT (Fin.ret1 Tryz.results160 rfl ?_))
    exact ⟨by rw [show pickI l i n = 0 by unfold pickI; rw [if_pos (.inl (List.length_eq_zero_iff.1 (by omega)))]], hs⟩
  · refine .gT rfl rfl ?_
    refine .z zm ?_
    refine .gT rfl rfl ?_
    refine .z zlss (.z zpF (.nil ?_))
    refine (.condD rfl (fun hc13 => ?_) (fun hc13 => ?_))
    · refine .regSeq (.z zg (.nil ?_))
      refine .ret (rT (Fin.ret1 Tryz.results160 rfl ?_))
      exact ⟨by rw [show pickI l i n = 0 by unfold pickI; rw [if_pos (.inr (by omega))]], hs⟩
    · refine .skip ?_
      refine nT ?_
      refine .regSeq (.z zm (.z zm (.z zm (.z (zlen Tryz.runUnderlying25) ?_))))
      have hl0 : 0 < l.length := by omega
      have h1 := Int.tmod_nonneg (a := i) (l.length : Int) hi
      have h2 := Int.tmod_lt_of_pos i (b := (l.length : Int)) (by omega)
      have hx := gi_get (l := l) (i := (i.tmod (l.length : Int)).toNat) (by omega)
      have h3 := Int.tmod_lt_of_pos (gi l (i.tmod (l.length : Int)).toNat) (b := n) (by omega)
      have h4 := Int.lt_tmod_of_pos (gi l (i.tmod (l.length : Int)).toNat) (b := n) (by omega)
      have e := rem_emod (n := gi l (i.tmod (l.length : Int)).toNat) (m := n) (by omega)
      refine .z zrem ?_
      refine .ixY hs hr rfl rfl Tryz.runUnderlying25 Tryz.sizeOf3 hx (by omega) ?_; intro b19 o19 hc19
      refine .q hs (q_loadR rfl Tryz.isAgg3 hc19) ?_
      refine .z zm (.z zrem (.z zm (.z zadd (.z zm (.z zrem (.z zg (.nil ?_)))))))
      refine .ret (Fin.ret1 Tryz.results160 rfl ?_)
      exact ⟨by unfold pickI; rw [if_neg (fun h => h.elim (fun h => by rw [h] at hl0; exact Nat.lt_irrefl _ hl0) (fun h => by omega)), ← e], hs⟩
end Go.Proofs.YtiiokdeehlfeeaaGreat

namespace Go.Proofs.YtiiokdeehlfeeaaGreat
open Go.MW
def ways0 (i j : Nat) : Int := if i = j then 0 else free
theorem ways0_B {n : Nat} (es : List Arc) {T : Nat → Nat → Int} (h : ∀ i j, i < n → j < n → T i j = ways0 i j) : WayB n es 0 T :=
  ⟨fun i hi => by rw [h i i hi hi]; simp [ways0], fun _ _ h => by omega, fun i j hi hj hij => .inl (by rw [h i j hi hj]; simp [ways0, hij])⟩
set_option maxHeartbeats 4000000 in
theorem ref02_Ways_spec {H : Heap} {w : World} {σ : List Ent} {v : Value} {s : Syst} (hs : St H w σ) (hr : RSy H v s) (hok : s.Ok) :
    Cl Tryz.prog 126 [v] w fun u w' => ∃ H1 rs, HLe H H1 ∧ RT H1 u rs ∧ Sq s.n rs ∧ WaysT s.n s.arcs (gt rs) ∧ St H1 w' σ := by
  obtain ⟨ul, rfl, hl⟩ := hr
  obtain ⟨al, cl, rfl⟩ := RL.shape hl
  have hm0 := hok.m0
  have hm1 := hok.m1
  have hlen := hok.len
  have hnp := s.n_pos
  have hn65 := hok.n65
  have hinn := hok.inn
  have hmn : s.many + 1 = (s.n : Int) := by simp only [Syst.n]; omega
  generalize hn : s.n = n at hnp hn65 hinn hmn ⊢
  refine Cl.of Tryz.func126 rfl Tryz.ntmps126 (by simp) (args_cons (k := 0) rfl (args0)) ?_
  refine .regSeq ?_
  refine .o (.box hs rfl rfl ?_); intro b1 w hs
  refine .z zg (.nil (.regSeq (.z (zfa fa_api_System_0) ?_)))
  first | refine .q hs (q_load rfl Tryz.isAgg3 (hm := by repeat (first | exact .here | assumption | exact Mem.row (by omega) (by omega) | refine .there ?_ | refine Mem.app2 ?_)) (hv := by first | rfl | exact ptr_get (by omega) | exact Is_gt (by assumption) (by omega) (by omega) | exact Is_gi (by first | assumption | omega))) ?_ | refine .q hs (q_loadR rfl Tryz.isAgg3 (by assumption)) ?_
  refine .z zadd ?_
  rw [hmn]
  refine .z zg (.nil (.regSeq (.z zm ?_)))
  refine .o (.makeP n hs rfl rfl Tryz.runUnderlying29 Tryz.typeInfo25 rfl Tryz.sizeOf25 Tryz.zeroValue25 (by omega) ?_); intro b16 w hs
  refine .z zg (.nil (.seq (.regSeq (.z zm (.z (zlen Tryz.runUnderlying29) (.z zm (.nil ?_)))))))
  refine .for (N := n) (J := fun k fr w => fr = [(3, I (n : Int)), (4, .slice (some ⟨b16, 0, none⟩) n n), (1, .pointer (some ⟨b1, 0, none⟩))] ∧ ∃ bs : List Nat, bs.length = k ∧ St H w (.blk b16 (bs.map (ptr n) ++ List.replicate (n - k) (.slice none 0 0)) :: (rowsE bs (tabR ways0 n k) ++ (.blk b1 [I s.many, .slice al s.lims.length cl] :: σ)))) (by omega) ?_ ?_ ?_
  · exact .mk ⟨rfl, [], rfl, hs⟩
  · rintro k fr w hk ⟨rfl, bs, hbl, hs⟩
    refine .block (.regSeq (.z zm (.z zg (.nil (.regSeq (.z zm (.z zm (.z zm ?_))))))))
    refine .o (.makeI n hs rfl rfl Tryz.runUnderlying25 Tryz.typeInfo3 rfl Tryz.sizeOf3 Tryz.zeroValue3 (by omega) ?_); intro b25 w hs
    first | (refine .ixw hs Tryz.runUnderlying29 Tryz.sizeOf25 ?_; intro b26 o26 hc26) | refine .z (zix Tryz.runUnderlying29 Tryz.sizeOf25) ?_
    refine .o (.store hs rfl rfl Tryz.sizeOf25 ?_ (by repeat constructor) (by simp [hbl]; omega) (ptr_set hbl hk)); intro w hs
    refine .nil (.regSeq (.z zm (.z zm ?_)))
    first | (refine .ixw hs Tryz.runUnderlying29 Tryz.sizeOf25 ?_; intro b29 o29 hc29) | refine .z (zix Tryz.runUnderlying29 Tryz.sizeOf25) ?_
    refine .q hs (q_load rfl Tryz.isAgg25 (hv := ptr_last hbl)) ?_
    refine .z (zlen Tryz.runUnderlying25) (.z zm (.nil ?_))
    refine .for (N := n) (J := fun j fr w => fr = [(5, I (k : Int)), (19, I (k : Int)), (18, I (n : Int)), (3, I (n : Int)), (4, .slice (some ⟨b16, 0, none⟩) n n), (1, .pointer (some ⟨b1, 0, none⟩))] ∧ St H w (.blk b25 (Is ((List.range n).map fun c => if c < j ∧ k ≠ c then free else 0)) :: .blk b16 ((bs ++ [b25]).map (ptr n) ++ List.replicate (n - (k + 1)) (.slice none 0 0)) :: (rowsE bs (tabR ways0 n k) ++ (.blk b1 [I s.many, .slice al s.lims.length cl] :: σ)))) (by omega) ?_ ?_ ?_
    · rw [range_const (fun c => if c < 0 ∧ k ≠ c then free else 0) n 0 (fun j _ => by simp)] at hs
      exact .mk ⟨rfl, hs⟩
    · rintro j fr w hj ⟨rfl, hs⟩
      refine .block (.regSeq (.z zm (.z zg (.nil (.regSeq (.z zm (.z zm (.z zneq (.nil ?_)))))))))
      refine (.condN rfl (fun hc37 => ?_) (fun hc37 => ?_))
      · refine .region (.z zm (.z zm ?_))
        first | (refine .ixw hs Tryz.runUnderlying29 Tryz.sizeOf25 ?_; intro b40 o40 hc40) | refine .z (zix Tryz.runUnderlying29 Tryz.sizeOf25) ?_
        refine .q hs (q_load rfl Tryz.isAgg25 (hv := ptr_last hbl)) ?_
        refine .z zm ?_
        first | (refine .ixv hs Tryz.runUnderlying25 Tryz.sizeOf3 ?_; intro b43 o43 hc43) | refine .z (zix Tryz.runUnderlying25 Tryz.sizeOf3) ?_
        refine .o (.store hs rfl rfl Tryz.sizeOf3 ?_ (by repeat constructor) (blt_Is (by simp; omega)) (Is_set _ _ _)); intro w hs
        refine .nil ?_
        refine nB (nT ?_)
        rw [range_set _ (fun c => if c < j + 1 ∧ k ≠ c then free else 0) hj 1000000000 (fun c _ => by
          by_cases e : c = j
          · subst e; rw [if_pos rfl, if_pos ⟨by omega, by omega⟩]
          · rw [if_neg e]; congr 1; apply propext; omega)] at hs
        exact .mk ⟨rfl, hs⟩
      · refine .skip ?_
        refine nB (nT ?_)
        rw [range_congr (g := fun c => if c < j + 1 ∧ k ≠ c then free else 0) (fun c _ => by
          by_cases e : c = j
          · subst e; rw [if_neg (by omega), if_neg (by omega)]
          · congr 1; apply propext; omega)] at hs
        exact .mk ⟨rfl, hs⟩
    · rintro fr w ⟨rfl, hs⟩
      rw [range_congr (g := ways0 k) (fun c hc => by
        unfold ways0
        by_cases e : k = c
        · rw [if_neg (by omega), if_pos e]
        · rw [if_pos ⟨hc, e⟩, if_neg e])] at hs
      replace hs := hs.rowIn (by rw [hbl, tabR_length])
      rw [← tabR_succ] at hs
      refine nB (nT ?_)
      exact .mk ⟨rfl, bs ++ [b25], by simp [hbl], hs⟩
  · rintro fr w ⟨rfl, bs, hbl, hs⟩
    rw [Nat.sub_self, List.replicate_zero, List.append_nil] at hs
    refine nT ?_
    refine .seq (.regSeq (.z (zfa fa_api_System_1) ?_))
    first | refine .q hs (q_load rfl Tryz.isAgg22 (hm := by repeat (first | exact .here | assumption | exact Mem.row (by omega) (by omega) | refine .there ?_ | refine Mem.app2 ?_)) (hv := by first | rfl | exact ptr_get (by omega) | exact Is_gt (by assumption) (by omega) (by omega) | exact Is_gi (by first | assumption | omega))) ?_ | refine .q hs (q_loadR rfl Tryz.isAgg22 (by assumption)) ?_
    refine .z (zlen Tryz.runUnderlying22) (.z zm (.nil ?_))
    refine .for (N := s.lims.length) (J := fun k fr w => fr = [(47, .slice al s.lims.length cl), (4, .slice (some ⟨b16, 0, none⟩) n n)] ∧ ∃ rs, Sq n rs ∧ WayB n s.arcs k (gt rs) ∧ St H w (.blk b16 (bs.map (ptr n)) :: (rowsE bs rs ++ (.blk b1 [I s.many, .slice al s.lims.length cl] :: σ)))) (by omega) ?_ ?_ ?_
    · exact .mk ⟨rfl, _, tabR_sq ways0 n, ways0_B s.arcs (fun i j hi hj => tabR_gt ways0 hi hj), hs⟩
    · rintro k fr w hk ⟨rfl, rs, hq, hB, hs⟩
      obtain ⟨x, hx⟩ := nth (l := s.lims) hk
      have hrl := hq.1
      obtain ⟨⟨xa0, xa1⟩, ⟨xb0, xb1⟩, xne, xM, -⟩ := hok.lim x (List.mem_of_getElem? hx)
      have ha : x.A.toNat < n := by omega
      have hb : x.B.toNat < n := by omega
      have hga := arcsOf_get hx
      refine .block (.regSeq ?_)
      refine .ixX (enc := Lim.c) hs hl rfl rfl Tryz.runUnderlying22 Tryz.sizeOf157 hx rfl ?_; intro b51 o51 hc51
      refine .q hs (q_loadsR (vs := x.c) rfl Tryz.isAgg157 Tryz.sizeOf157 hc51) ?_
      refine .o (.alloc hs Tryz.zeroValue157 rfl ?_); intro b8 w hs
      refine .o (.stores (vs := x.c) hs rfl rfl Tryz.sizeOf157 ?_); intro w hs
      refine .nil ?_
      refine .draw mix rfl hs ?_; intro w hs
      refine .z 0 rfl zm ?_; refine .z 1 rfl (zfa fa_api_Limit_0) ?_
      first | refine .load (i := 2) hs rfl (by kernel_rfl) .none rfl Tryz.isAgg3 ?_ (by repeat (first | exact .here | assumption | exact Mem.row (by omega) (by omega) | refine .there ?_ | refine Mem.app2 ?_)) (by first | rfl | exact ptr_get (by omega) | exact Is_gt (by assumption) (by omega) (by omega) | exact Is_gi (by first | assumption | omega)) | refine .r (i := 2) hs rfl (by kernel_rfl) .none (q_loadR rfl Tryz.isAgg3 (by assumption)) ?_
      refine .p (i := 3) rfl (by kernel_rfl) .none (q_ixO (k := x.A.toNat) rfl rfl Tryz.runUnderlying29 Tryz.sizeOf25 (by omega) ha) ?_
      first | refine .load (i := 4) hs rfl (by kernel_rfl) .none rfl Tryz.isAgg25 ?_ (by repeat (first | exact .here | assumption | exact Mem.row (by omega) (by omega) | refine .there ?_ | refine Mem.app2 ?_)) (by first | rfl | exact ptr_get (by omega) | exact Is_gt (by assumption) (by omega) (by omega) | exact Is_gi (by first | assumption | omega)) | refine .r (i := 4) hs rfl (by kernel_rfl) .none (q_loadR rfl Tryz.isAgg25 (by assumption)) ?_
      refine .z 5 rfl (zfa fa_api_Limit_1) ?_
      first | refine .load (i := 6) hs rfl (by kernel_rfl) .none rfl Tryz.isAgg3 ?_ (by repeat (first | exact .here | assumption | exact Mem.row (by omega) (by omega) | refine .there ?_ | refine Mem.app2 ?_)) (by first | rfl | exact ptr_get (by omega) | exact Is_gt (by assumption) (by omega) (by omega) | exact Is_gi (by first | assumption | omega)) | refine .r (i := 6) hs rfl (by kernel_rfl) .none (q_loadR rfl Tryz.isAgg3 (by assumption)) ?_
      refine .z 7 rfl zm ?_; refine .z 8 rfl (zfa fa_api_Limit_0) ?_
      first | refine .load (i := 9) hs rfl (by kernel_rfl) .none rfl Tryz.isAgg3 ?_ (by repeat (first | exact .here | assumption | exact Mem.row (by omega) (by omega) | refine .there ?_ | refine Mem.app2 ?_)) (by first | rfl | exact ptr_get (by omega) | exact Is_gt (by assumption) (by omega) (by omega) | exact Is_gi (by first | assumption | omega)) | refine .r (i := 9) hs rfl (by kernel_rfl) .none (q_loadR rfl Tryz.isAgg3 (by assumption)) ?_
      refine .p (i := 10) rfl (by kernel_rfl) .none (q_ixO (k := x.A.toNat) rfl rfl Tryz.runUnderlying29 Tryz.sizeOf25 (by omega) ha) ?_
      first | refine .load (i := 11) hs rfl (by kernel_rfl) .none rfl Tryz.isAgg25 ?_ (by repeat (first | exact .here | assumption | exact Mem.row (by omega) (by omega) | refine .there ?_ | refine Mem.app2 ?_)) (by first | rfl | exact ptr_get (by omega) | exact Is_gt (by assumption) (by omega) (by omega) | exact Is_gi (by first | assumption | omega)) | refine .r (i := 11) hs rfl (by kernel_rfl) .none (q_loadR rfl Tryz.isAgg25 (by assumption)) ?_
      refine .z 12 rfl (zfa fa_api_Limit_1) ?_
      first | refine .load (i := 13) hs rfl (by kernel_rfl) .none rfl Tryz.isAgg3 ?_ (by repeat (first | exact .here | assumption | exact Mem.row (by omega) (by omega) | refine .there ?_ | refine Mem.app2 ?_)) (by first | rfl | exact ptr_get (by omega) | exact Is_gt (by assumption) (by omega) (by omega) | exact Is_gi (by first | assumption | omega)) | refine .r (i := 13) hs rfl (by kernel_rfl) .none (q_loadR rfl Tryz.isAgg3 (by assumption)) ?_
      refine .p (i := 14) rfl (by kernel_rfl) .none (q_ixO (k := x.B.toNat) rfl rfl Tryz.runUnderlying25 Tryz.sizeOf3 (by omega) hb) ?_
      first | refine .load (i := 15) hs rfl (by kernel_rfl) .none rfl Tryz.isAgg3 ?_ (by repeat (first | exact .here | assumption | exact Mem.row (by omega) (by omega) | refine .there ?_ | refine Mem.app2 ?_)) (by first | rfl | exact ptr_get (by omega) | exact Is_gt (by assumption) (by omega) (by omega) | exact Is_gi (by first | assumption | omega)) | refine .r (i := 15) hs rfl (by kernel_rfl) .none (q_loadR rfl Tryz.isAgg3 (by assumption)) ?_
      refine .z 16 rfl (zfa fa_api_Limit_2) ?_
      first | refine .load (i := 17) hs rfl (by kernel_rfl) .none rfl Tryz.isAgg3 ?_ (by repeat (first | exact .here | assumption | exact Mem.row (by omega) (by omega) | refine .there ?_ | refine Mem.app2 ?_)) (by first | rfl | exact ptr_get (by omega) | exact Is_gt (by assumption) (by omega) (by omega) | exact Is_gi (by first | assumption | omega)) | refine .r (i := 17) hs rfl (by kernel_rfl) .none (q_loadR rfl Tryz.isAgg3 (by assumption)) ?_
      refine .z 18 rfl zmin ?_
      refine .p (i := 19) rfl (by kernel_rfl) .none (q_ixO (k := x.B.toNat) rfl rfl Tryz.runUnderlying25 Tryz.sizeOf3 (by omega) hb) ?_
      refine .e1 (i := 20) (by kernel_rfl) rfl rfl .none hs ?_ (hp := by repeat (first | exact .nil | refine .cons (by first | exact HLe.bot _ | exact HLe.refl _ | assumption) (by first | exact .nil | (refine Sub.one ?_; repeat (first | exact .here | assumption | exact Mem.row (by omega) (by omega) | refine .there ?_ | refine Mem.app2 ?_))) ?_))
      refine .store hs rfl rfl Tryz.sizeOf3 ?_ (.there (.there (Upd.row _ (by omega) (by omega)))) (blt_Is (by rw [hq.2 _ ha]; exact hb)) (Is_set _ _ _); intro w hs
      refine .go ?_
      refine .done (by kernel_rfl) hs ?_ (hp := by repeat (first | exact .nil | refine .cons (by first | exact HLe.bot _ | exact HLe.refl _ | assumption) (by first | exact .nil | (refine Sub.one ?_; repeat (first | exact .here | assumption | exact Mem.row (by omega) (by omega) | refine .there ?_ | refine Mem.app2 ?_))) ?_))
      refine nB (nT ?_)
      exact .mk ⟨rfl, _, hq.set ha _, by rw [gt_set hq ha hb]; exact hB.step hinn hga, hs.tail⟩
    · rintro fr w ⟨rfl, rs, hq, hB, hs⟩
      rw [← arcsOf_length] at hB
      have hI := hB.go hinn hnp
      have hcb : ∀ x ∈ s.arcs, -20000 ≤ x.c ∧ x.c ≤ 20000 := fun x hx => by have := hinn x hx; omega
      refine nT ?_
      refine .seq (.regSeq (.z zm (.z (zlen Tryz.runUnderlying29) (.z zm (.nil ?_)))))
      refine .for (N := n) (J := fun m fr w => fr = [(4, .slice (some ⟨b16, 0, none⟩) n n)] ∧ ∃ rs, Sq n rs ∧ (m < n → WayI n s.arcs m (fun _ _ => False) (gt rs)) ∧ (m = n → WaysT n s.arcs (gt rs)) ∧ St H w (.blk b16 (bs.map (ptr n)) :: (rowsE bs rs ++ (.blk b1 [I s.many, .slice al s.lims.length cl] :: σ)))) (by omega) ?_ ?_ ?_
      · exact .mk ⟨rfl, rs, hq, fun _ => hI, fun e => by omega, hs⟩
      · clear hI hB hq
        rintro m fr w hm ⟨rfl, rs, hq, hI, -, hs⟩
        replace hI := hI hm
        refine .block (.regSeq (.z zm (.z zg (.nil (.regSeq (.z zm (.z (zlen Tryz.runUnderlying29) (.z zm (.nil ?_)))))))))
        refine .for (N := n) (J := fun i fr w => fr = [(9, I (m : Int)), (76, I (m : Int)), (75, I (n : Int)), (4, .slice (some ⟨b16, 0, none⟩) n n)] ∧ ∃ rs, Sq n rs ∧ WayI n s.arcs m (fun a _ => a < i) (gt rs) ∧ St H w (.blk b16 (bs.map (ptr n)) :: (rowsE bs rs ++ (.blk b1 [I s.many, .slice al s.lims.length cl] :: σ)))) (by omega) ?_ ?_ ?_
        · exact .mk ⟨rfl, rs, hq, hI.skip hcb hm (P := fun _ _ => False) (fun i j h => by omega) (fun _ _ _ _ h => h.elim), hs⟩
        · clear hI hq
          rintro i fr w hi ⟨rfl, rs, hq, hI, hs⟩
          refine .block (.regSeq (.z zm (.z zg (.nil (.regSeq (.z zm (.z (zlen Tryz.runUnderlying29) (.z zm (.nil ?_)))))))))
          refine .for (N := n) (J := fun k fr w => fr = [(10, I (i : Int)), (81, I (i : Int)), (80, I (n : Int)), (9, I (m : Int)), (76, I (m : Int)), (75, I (n : Int)), (4, .slice (some ⟨b16, 0, none⟩) n n)] ∧ ∃ rs, Sq n rs ∧ WayI n s.arcs m (fun a b => a < i ∨ (a = i ∧ b < k)) (gt rs) ∧ St H w (.blk b16 (bs.map (ptr n)) :: (rowsE bs rs ++ (.blk b1 [I s.many, .slice al s.lims.length cl] :: σ)))) (by omega) ?_ ?_ ?_
          · exact .mk ⟨rfl, rs, hq, hI.skip hcb hm (P := fun _ _ => False) (fun a b h => by omega) (fun _ _ _ _ h => h.elim), hs⟩
          · clear hI hq
            rintro k fr w hk ⟨rfl, rs, hq, hI, hs⟩
            have hrl := hq.1
            have c1 := hI.cl i m hi hm; have c2 := hI.cl m k hm hk
            have u1 := hI.up i m hi hm; have u2 := hI.up m k hm hk
            refine .block (.regSeq (.z zm (.z zg (.nil (.regSeq (.z zm (.z zm ?_)))))))
            first | (refine .ixw hs Tryz.runUnderlying29 Tryz.sizeOf25 ?_; intro b91 o91 hc91) | refine .z (zix Tryz.runUnderlying29 Tryz.sizeOf25) ?_
            first | refine .q hs (q_load rfl Tryz.isAgg25 (hm := by repeat (first | exact .here | assumption | exact Mem.row (by omega) (by omega) | refine .there ?_ | refine Mem.app2 ?_)) (hv := by first | rfl | exact ptr_get (by omega) | exact Is_gt (by assumption) (by omega) (by omega) | exact Is_gi (by first | assumption | omega))) ?_ | refine .q hs (q_loadR rfl Tryz.isAgg25 (by assumption)) ?_
            refine .z zm ?_
            first | (refine .ixv hs Tryz.runUnderlying25 Tryz.sizeOf3 ?_; intro b94 o94 hc94) | refine .z (zix Tryz.runUnderlying25 Tryz.sizeOf3) ?_
            first | refine .q hs (q_load rfl Tryz.isAgg3 (hm := by repeat (first | exact .here | assumption | exact Mem.row (by omega) (by omega) | refine .there ?_ | refine Mem.app2 ?_)) (hv := by first | rfl | exact ptr_get (by omega) | exact Is_gt (by assumption) (by omega) (by omega) | exact Is_gi (by first | assumption | omega))) ?_ | refine .q hs (q_loadR rfl Tryz.isAgg3 (by assumption)) ?_
            refine .z zneq (.z zm ?_)
            refine .bifN (t' := 97) rfl (fun hb97 => ?_) (fun hb97 => ?_)
            · refine .gT rfl rfl ?_
              refine .z zm ?_
              refine .gT rfl rfl ?_
              refine .z zm ?_
              refine .gT rfl rfl ?_
              first | (refine .ixw hs Tryz.runUnderlying29 Tryz.sizeOf25 ?_; intro b100 o100 hc100) | refine .z (zix Tryz.runUnderlying29 Tryz.sizeOf25) ?_
              refine .gT rfl rfl ?_
              first | refine .q hs (q_load rfl Tryz.isAgg25 (hm := by repeat (first | exact .here | assumption | exact Mem.row (by omega) (by omega) | refine .there ?_ | refine Mem.app2 ?_)) (hv := by first | rfl | exact ptr_get (by omega) | exact Is_gt (by assumption) (by omega) (by omega) | exact Is_gi (by first | assumption | omega))) ?_ | refine .q hs (q_loadR rfl Tryz.isAgg25 (by assumption)) ?_
              refine .gT rfl rfl ?_
              refine .z zm ?_
              refine .gT rfl rfl ?_
              first | (refine .ixv hs Tryz.runUnderlying25 Tryz.sizeOf3 ?_; intro b103 o103 hc103) | refine .z (zix Tryz.runUnderlying25 Tryz.sizeOf3) ?_
              refine .gT rfl rfl ?_
              first | refine .q hs (q_load rfl Tryz.isAgg3 (hm := by repeat (first | exact .here | assumption | exact Mem.row (by omega) (by omega) | refine .there ?_ | refine Mem.app2 ?_)) (hv := by first | rfl | exact ptr_get (by omega) | exact Is_gt (by assumption) (by omega) (by omega) | exact Is_gi (by first | assumption | omega))) ?_ | refine .q hs (q_loadR rfl Tryz.isAgg3 (by assumption)) ?_
              refine .gT rfl rfl ?_
              refine .z zneq (.z zpT (.nil ?_))
              refine (.condN rfl (fun hc106 => ?_) (fun hc106 => ?_))
              · refine .draw mix rfl hs ?_; intro w hs
                replace u1 := u1 hb97; replace u2 := u2 hc106
                refine .z 0 rfl zm ?_; refine .z 1 rfl zm ?_
                first | (refine .ixw 2 rfl hs Tryz.runUnderlying29 Tryz.sizeOf25 ?_; intro b109 o109 hc109) | refine .z 2 rfl (zix Tryz.runUnderlying29 Tryz.sizeOf25) ?_
                first | refine .load (i := 3) hs rfl (by kernel_rfl) .none rfl Tryz.isAgg25 ?_ (by repeat (first | exact .here | assumption | exact Mem.row (by omega) (by omega) | refine .there ?_ | refine Mem.app2 ?_)) (by first | rfl | exact ptr_get (by omega) | exact Is_gt (by assumption) (by omega) (by omega) | exact Is_gi (by first | assumption | omega)) | refine .r (i := 3) hs rfl (by kernel_rfl) .none (q_loadR rfl Tryz.isAgg25 (by assumption)) ?_
                refine .z 4 rfl zm ?_; refine .z 5 rfl zm ?_; refine .z 6 rfl zm ?_
                first | (refine .ixw 7 rfl hs Tryz.runUnderlying29 Tryz.sizeOf25 ?_; intro b114 o114 hc114) | refine .z 7 rfl (zix Tryz.runUnderlying29 Tryz.sizeOf25) ?_
                first | refine .load (i := 8) hs rfl (by kernel_rfl) .none rfl Tryz.isAgg25 ?_ (by repeat (first | exact .here | assumption | exact Mem.row (by omega) (by omega) | refine .there ?_ | refine Mem.app2 ?_)) (by first | rfl | exact ptr_get (by omega) | exact Is_gt (by assumption) (by omega) (by omega) | exact Is_gi (by first | assumption | omega)) | refine .r (i := 8) hs rfl (by kernel_rfl) .none (q_loadR rfl Tryz.isAgg25 (by assumption)) ?_
                refine .z 9 rfl zm ?_
                first | (refine .ixv 10 rfl hs Tryz.runUnderlying25 Tryz.sizeOf3 ?_; intro b117 o117 hc117) | refine .z 10 rfl (zix Tryz.runUnderlying25 Tryz.sizeOf3) ?_
                first | refine .load (i := 11) hs rfl (by kernel_rfl) .none rfl Tryz.isAgg3 ?_ (by repeat (first | exact .here | assumption | exact Mem.row (by omega) (by omega) | refine .there ?_ | refine Mem.app2 ?_)) (by first | rfl | exact ptr_get (by omega) | exact Is_gt (by assumption) (by omega) (by omega) | exact Is_gi (by first | assumption | omega)) | refine .r (i := 11) hs rfl (by kernel_rfl) .none (q_loadR rfl Tryz.isAgg3 (by assumption)) ?_
                refine .z 12 rfl zm ?_; refine .z 13 rfl zm ?_
                first | (refine .ixw 14 rfl hs Tryz.runUnderlying29 Tryz.sizeOf25 ?_; intro b121 o121 hc121) | refine .z 14 rfl (zix Tryz.runUnderlying29 Tryz.sizeOf25) ?_
                first | refine .load (i := 15) hs rfl (by kernel_rfl) .none rfl Tryz.isAgg25 ?_ (by repeat (first | exact .here | assumption | exact Mem.row (by omega) (by omega) | refine .there ?_ | refine Mem.app2 ?_)) (by first | rfl | exact ptr_get (by omega) | exact Is_gt (by assumption) (by omega) (by omega) | exact Is_gi (by first | assumption | omega)) | refine .r (i := 15) hs rfl (by kernel_rfl) .none (q_loadR rfl Tryz.isAgg25 (by assumption)) ?_
                refine .z 16 rfl zm ?_
                first | (refine .ixv 17 rfl hs Tryz.runUnderlying25 Tryz.sizeOf3 ?_; intro b124 o124 hc124) | refine .z 17 rfl (zix Tryz.runUnderlying25 Tryz.sizeOf3) ?_
                first | refine .load (i := 18) hs rfl (by kernel_rfl) .none rfl Tryz.isAgg3 ?_ (by repeat (first | exact .here | assumption | exact Mem.row (by omega) (by omega) | refine .there ?_ | refine Mem.app2 ?_)) (by first | rfl | exact ptr_get (by omega) | exact Is_gt (by assumption) (by omega) (by omega) | exact Is_gi (by first | assumption | omega)) | refine .r (i := 18) hs rfl (by kernel_rfl) .none (q_loadR rfl Tryz.isAgg3 (by assumption)) ?_
                refine .z 19 rfl zm ?_; refine .z 20 rfl zm ?_
                first | (refine .ixw 21 rfl hs Tryz.runUnderlying29 Tryz.sizeOf25 ?_; intro b128 o128 hc128) | refine .z 21 rfl (zix Tryz.runUnderlying29 Tryz.sizeOf25) ?_
                first | refine .load (i := 22) hs rfl (by kernel_rfl) .none rfl Tryz.isAgg25 ?_ (by repeat (first | exact .here | assumption | exact Mem.row (by omega) (by omega) | refine .there ?_ | refine Mem.app2 ?_)) (by first | rfl | exact ptr_get (by omega) | exact Is_gt (by assumption) (by omega) (by omega) | exact Is_gi (by first | assumption | omega)) | refine .r (i := 22) hs rfl (by kernel_rfl) .none (q_loadR rfl Tryz.isAgg25 (by assumption)) ?_
                refine .z 23 rfl zm ?_
                first | (refine .ixv 24 rfl hs Tryz.runUnderlying25 Tryz.sizeOf3 ?_; intro b131 o131 hc131) | refine .z 24 rfl (zix Tryz.runUnderlying25 Tryz.sizeOf3) ?_
                first | refine .load (i := 25) hs rfl (by kernel_rfl) .none rfl Tryz.isAgg3 ?_ (by repeat (first | exact .here | assumption | exact Mem.row (by omega) (by omega) | refine .there ?_ | refine Mem.app2 ?_)) (by first | rfl | exact ptr_get (by omega) | exact Is_gt (by assumption) (by omega) (by omega) | exact Is_gi (by first | assumption | omega)) | refine .r (i := 25) hs rfl (by kernel_rfl) .none (q_loadR rfl Tryz.isAgg3 (by assumption)) ?_
                refine .z 26 rfl zadd ?_; refine .z 27 rfl zmin ?_; refine .z 28 rfl zmax ?_
                first | (refine .ixv 29 rfl hs Tryz.runUnderlying25 Tryz.sizeOf3 ?_; intro b136 o136 hc136) | refine .z 29 rfl (zix Tryz.runUnderlying25 Tryz.sizeOf3) ?_
                refine .e1 (i := 30) (by kernel_rfl) rfl rfl .none hs ?_ (hp := by repeat (first | exact .nil | refine .cons (by first | exact HLe.bot _ | exact HLe.refl _ | assumption) (by first | exact .nil | (refine Sub.one ?_; repeat (first | exact .here | assumption | exact Mem.row (by omega) (by omega) | refine .there ?_ | refine Mem.app2 ?_))) ?_))
                refine .store hs rfl rfl Tryz.sizeOf3 ?_ (.there (Upd.row _ (by omega) (by omega))) (blt_Is (by rw [hq.2 _ hi]; exact hk)) (Is_set _ _ _); intro w hs
                refine .go ?_
                refine .done (by kernel_rfl) hs ?_ (hp := by repeat (first | exact .nil | refine .cons (by first | exact HLe.bot _ | exact HLe.refl _ | assumption) (by first | exact .nil | (refine Sub.one ?_; repeat (first | exact .here | assumption | exact Mem.row (by omega) (by omega) | refine .there ?_ | refine Mem.app2 ?_))) ?_))
                refine nB (nT ?_)
                exact .mk ⟨rfl, _, hq.set hi _, by rw [gt_set hq hi hk]; exact hI.step hcb hm hi hk (fun a b h => by omega) hb97 hc106, hs⟩
              · refine .skip ?_
                refine nB (nT ?_)
                exact .mk ⟨rfl, rs, hq, hI.skip hcb hm (P := fun a b => a = i ∧ b = k) (fun a b h => by omega) (fun a b _ _ h => by obtain ⟨rfl, rfl⟩ := h; exact .inr hc106), hs⟩
            · refine .gFs 8 8 true rfl rfl rfl ?_
              refine .z zpF (.nil ?_)
              refine (.condF rfl rfl ?_)
              refine .skip ?_
              refine nB (nT ?_)
              exact .mk ⟨rfl, rs, hq, hI.skip hcb hm (P := fun a b => a = i ∧ b = k) (fun a b h => by omega) (fun a b _ _ h => by obtain ⟨rfl, rfl⟩ := h; exact .inl hb97), hs⟩
          · rintro fr w ⟨rfl, rs, hq, hI, hs⟩
            refine nB (nT ?_)
            exact .mk ⟨rfl, rs, hq, hI.skip hcb hm (P := fun a b => a = i ∧ n ≤ b) (fun a b h => by omega) (fun a b _ hb h => by omega), hs⟩
        · rintro fr w ⟨rfl, rs, hq, hI, hs⟩
          replace hI : WayI n s.arcs m (fun _ _ => True) (gt rs) := hI.skip hcb hm (P := fun a _ => n ≤ a) (fun a b h => by omega) (fun a b ha _ h => by omega)
          refine nB (nT ?_)
          exact .mk ⟨rfl, rs, hq, fun h => hI.next hcb h hn65, fun h => hI.done hcb h.symm hn65, hs⟩
      · rintro fr w ⟨rfl, rs, hq, -, hT, hs⟩
        replace hT := hT rfl
        refine nT ?_
        refine .regSeq (.z zm (.z zg (.nil ?_)))
        refine .ret (Fin.ret1 Tryz.results126 rfl ?_)
        obtain ⟨H1, g1, g2, hs⟩ := table_publish hq hbl (by omega) hs
        exact ⟨H1, rs, g1, g2, hq, hT, hs.tail⟩
end Go.Proofs.YtiiokdeehlfeeaaGreat

namespace Go.Proofs.YtiiokdeehlfeeaaGreat
open Go.MW
theorem ref02_Sound_spec {H : Heap} {w : World} {σ : List Ent} {vm : Value} {rs : List (List Int)} {n : Nat} (hs : St H w σ) (hM : RT H vm rs) (hq : Sq n rs) (hn : n ≤ 1000) :
    Cl Tryz.prog 154 [vm] w fun v w' => ∃ b, v = .bool b ∧ (b = true ↔ ∀ i, i < n → ¬ gt rs i i < 0) ∧ St H w' σ := by
  obtain ⟨a, c, rfl⟩ := hM.shape
  have hrl := hq.1
  refine Cl.of Tryz.func154 rfl Tryz.ntmps154 (by simp) (args_cons (k := 0) rfl (args0)) ?_
  refine .regSeq (.z zg (.nil (.seq (.regSeq (.z zm (.z (zlen Tryz.runUnderlying29) (.z zm (.nil ?_))))))))
  refine .for (N := rs.length) (J := fun k fr w => fr = [(0, .slice a rs.length c)] ∧ (∀ i, i < k → ¬ gt rs i i < 0) ∧ St H w σ) (by omega) ?_ ?_ ?_
  · exact .mk ⟨rfl, fun i h => by omega, hs⟩
  · rintro k fr w hk ⟨rfl, h0, hs⟩
    refine .block (.regSeq (.z zm (.z zg (.nil (.regSeq (.z zm (.z zm ?_)))))))
    refine .ixT hs hM rfl rfl Tryz.runUnderlying29 Tryz.sizeOf25 hk rfl ?_; intro b11 o11 a11 c11 hc11 hR11
    refine .q hs (q_loadR rfl Tryz.isAgg25 hc11) ?_
    refine .z zm ?_
    refine .ixY hs hR11 rfl rfl Tryz.runUnderlying25 Tryz.sizeOf3 (gi_get (l := gr rs k) (i := k) (by rw [hq.2 k (by omega)]; omega)) rfl ?_; intro b14 o14 hc14
    refine .q hs (q_loadR rfl Tryz.isAgg3 hc14) ?_
    refine .z zlss (.nil ?_)
    refine (.condD rfl (fun hc16 => ?_) (fun hc16 => ?_))
    · refine .regSeq (.z zg (.nil ?_))
      refine .ret (rB (rT (rB (rT (Fin.ret1 Tryz.results154 rfl ?_)))))
      exact ⟨false, rfl, ⟨fun h => (by cases h), fun h => (h k (by omega) hc16).elim⟩, hs⟩
    · refine .skip ?_
      refine nB (nT ?_)
      exact .mk ⟨rfl, fun i hi => by
        by_cases e : i = k
        · subst e; exact hc16
        · exact h0 i (by omega), hs⟩
  · rintro fr w ⟨rfl, h0, hs⟩
    refine nT ?_
    refine .regSeq (.z zg (.nil ?_))
    refine .ret (Fin.ret1 Tryz.results154 rfl ?_)
    exact ⟨true, rfl, ⟨fun _ i hi => h0 i (by omega), fun _ => rfl⟩, hs⟩
end Go.Proofs.YtiiokdeehlfeeaaGreat

namespace Go.Proofs.YtiiokdeehlfeeaaGreat
open Go.MW
theorem notdec_true {p : Prop} [Decidable p] : (!decide p) = true ↔ ¬ p := by simp
theorem notdec_false {p : Prop} [Decidable p] : (!decide p) = false ↔ p := by simp
theorem ref02_within_spec {H : Heap} {w : World} {σ : List Ent} {a0 a1 a2 : Int} (hs : St H w σ) : Cl Tryz.prog 174 [I a0, I a1, I a2] w fun v w' => v = .bool (decide (a1 ≤ a0 ∧ a0 ≤ a2)) ∧ St H w' σ := by
  refine Cl.of Tryz.func174 rfl Tryz.ntmps174 (by simp) (args_cons (k := 0) rfl (args_cons (k := 1) rfl (args_cons (k := 2) rfl (args0)))) ?_
  refine .regSeq (.z zg (.nil (.regSeq (.z zm (.z zm (.z zleq (.z zm ?_)))))))
  refine .bifD (t' := 10) rfl (fun hb10 => ?_) (fun hb10 => ?_)
  · refine .gT rfl rfl ?_
    refine .z zm ?_
    refine .gT rfl rfl ?_
    refine .z zm ?_
    refine .gT rfl rfl ?_
    refine .z zleq (.z zpT (.z zg (.nil ?_)))
    refine .ret (Fin.ret1 Tryz.results174 rfl ?_)
    exact ⟨by simp [*], hs.out⟩
  · refine .gFs 3 3 true rfl rfl rfl ?_
    refine .z zpF (.z zg (.nil ?_))
    refine .ret (Fin.ret1 Tryz.results174 rfl ?_)
    exact ⟨by simp [*], hs.out⟩
theorem ref02_CheckLimit_spec {H : Heap} {w : World} {σ : List Ent} {many : Int} {l : Lim} (hs : St H w σ) : Cl Tryz.prog 175 [I many, .agg l.c.toArray] w fun v w' => v = I (if decide (0 ≤ many ∧ many ≤ 64) && l.ok many then 0 else 20) ∧ St H w' σ := by
  refine Cl.of Tryz.func175 rfl Tryz.ntmps175 (by simp) (args_cons (k := 0) rfl (args_cons (k := 1) rfl (args0))) ?_
  refine .regSeq ?_
  refine .o (.box hs rfl rfl ?_); intro b3 w hs
  refine .z zg (.nil (.seq (.regSeq (.z zm ?_))))
  refine .o (.call Tryz.call174 rfl (ref02_within_spec hs) ?_); rintro _ w ⟨rfl, hs⟩
  refine .z znot (.z zm ?_)
  refine .bif (t' := 8) rfl (fun hb8 => ?_) (fun hb8 => ?_)
  · refine .gFs 5 3 false rfl rfl rfl ?_
    refine .z zpT (.z zm ?_)
    refine .gFs 5 10 false rfl rfl rfl ?_
    refine .z zpT (.z zm ?_)
    refine .gFs 5 17 false rfl rfl rfl ?_
    refine .z zpT (.z zm ?_)
    refine .gFs 4 24 false rfl rfl rfl ?_
    refine .z zpT (.z zm ?_)
    refine .gFs 4 30 false rfl rfl rfl ?_
    refine .z zpT (.nil ?_)
    refine (.condT rfl rfl ?_)
    refine .regSeq (.z zg (.nil ?_))
    refine .ret (rT (Fin.ret1 Tryz.results175 rfl ?_))
    (try simp only [notdec_true] at *)
    (try simp only [notdec_false] at *)
    refine ⟨congrArg I ?_, hs.out⟩
    unfold Lim.ok
    first
      | (rw [if_pos (by simp only [Bool.and_eq_true, decide_eq_true_eq]; omega)]; done)
      | (rw [if_neg (by simp only [Bool.and_eq_true, decide_eq_true_eq]; omega)]; done)
  · refine .gT rfl rfl ?_
    refine .z (zfa fa_api_Limit_0) ?_
    refine .gT rfl rfl ?_
    refine .y hs (zld Tryz.isAgg3) ?_
    refine .gT rfl rfl ?_
    refine .z zm ?_
    refine .gT rfl rfl ?_
    refine .o (.call Tryz.call174 rfl (ref02_within_spec hs) ?_); rintro _ w ⟨rfl, hs⟩
    refine .gT rfl rfl ?_
    refine .z znot (.z zpF (.z zm ?_))
    refine .bif (t' := 15) rfl (fun hb15 => ?_) (fun hb15 => ?_)
    · refine .gFs 5 10 false rfl rfl rfl ?_
      refine .z zpT (.z zm ?_)
      refine .gFs 5 17 false rfl rfl rfl ?_
      refine .z zpT (.z zm ?_)
      refine .gFs 4 24 false rfl rfl rfl ?_
      refine .z zpT (.z zm ?_)
      refine .gFs 4 30 false rfl rfl rfl ?_
      refine .z zpT (.nil ?_)
      refine (.condT rfl rfl ?_)
      refine .regSeq (.z zg (.nil ?_))
      refine .ret (rT (Fin.ret1 Tryz.results175 rfl ?_))
      (try simp only [notdec_true] at *)
      (try simp only [notdec_false] at *)
      refine ⟨congrArg I ?_, hs.out⟩
      unfold Lim.ok
      first
        | (rw [if_pos (by simp only [Bool.and_eq_true, decide_eq_true_eq]; omega)]; done)
        | (rw [if_neg (by simp only [Bool.and_eq_true, decide_eq_true_eq]; omega)]; done)
    · refine .gT rfl rfl ?_
      refine .z (zfa fa_api_Limit_1) ?_
      refine .gT rfl rfl ?_
      refine .y hs (zld Tryz.isAgg3) ?_
      refine .gT rfl rfl ?_
      refine .z zm ?_
      refine .gT rfl rfl ?_
      refine .o (.call Tryz.call174 rfl (ref02_within_spec hs) ?_); rintro _ w ⟨rfl, hs⟩
      refine .gT rfl rfl ?_
      refine .z znot (.z zpF (.z zm ?_))
      refine .bif (t' := 22) rfl (fun hb22 => ?_) (fun hb22 => ?_)
      · refine .gFs 5 17 false rfl rfl rfl ?_
        refine .z zpT (.z zm ?_)
        refine .gFs 4 24 false rfl rfl rfl ?_
        refine .z zpT (.z zm ?_)
        refine .gFs 4 30 false rfl rfl rfl ?_
        refine .z zpT (.nil ?_)
        refine (.condT rfl rfl ?_)
        refine .regSeq (.z zg (.nil ?_))
        refine .ret (rT (Fin.ret1 Tryz.results175 rfl ?_))
        (try simp only [notdec_true] at *)
        (try simp only [notdec_false] at *)
        refine ⟨congrArg I ?_, hs.out⟩
        unfold Lim.ok
        first
          | (rw [if_pos (by simp only [Bool.and_eq_true, decide_eq_true_eq]; omega)]; done)
          | (rw [if_neg (by simp only [Bool.and_eq_true, decide_eq_true_eq]; omega)]; done)
      · refine .gT rfl rfl ?_
        refine .z (zfa fa_api_Limit_0) ?_
        refine .gT rfl rfl ?_
        refine .y hs (zld Tryz.isAgg3) ?_
        refine .gT rfl rfl ?_
        refine .z (zfa fa_api_Limit_1) ?_
        refine .gT rfl rfl ?_
        refine .y hs (zld Tryz.isAgg3) ?_
        refine .gT rfl rfl ?_
        refine .z zeql (.z zpF (.z zm ?_))
        refine .bifD (t' := 29) rfl (fun hb29 => ?_) (fun hb29 => ?_)
        · refine .gFs 4 24 false rfl rfl rfl ?_
          refine .z zpT (.z zm ?_)
          refine .gFs 4 30 false rfl rfl rfl ?_
          refine .z zpT (.nil ?_)
          refine (.condT rfl rfl ?_)
          refine .regSeq (.z zg (.nil ?_))
          refine .ret (rT (Fin.ret1 Tryz.results175 rfl ?_))
          (try simp only [notdec_true] at *)
          (try simp only [notdec_false] at *)
          refine ⟨congrArg I ?_, hs.out⟩
          unfold Lim.ok
          first
            | (rw [if_pos (by simp only [Bool.and_eq_true, decide_eq_true_eq]; omega)]; done)
            | (rw [if_neg (by simp only [Bool.and_eq_true, decide_eq_true_eq]; omega)]; done)
        · refine .gT rfl rfl ?_
          refine .z (zfa fa_api_Limit_2) ?_
          refine .gT rfl rfl ?_
          refine .y hs (zld Tryz.isAgg3) ?_
          refine .gT rfl rfl ?_
          refine .o (.call Tryz.call174 rfl (ref02_within_spec hs) ?_); rintro _ w ⟨rfl, hs⟩
          refine .gT rfl rfl ?_
          refine .z znot (.z zpF (.z zm ?_))
          refine .bif (t' := 35) rfl (fun hb35 => ?_) (fun hb35 => ?_)
          · refine .gFs 4 30 false rfl rfl rfl ?_
            refine .z zpT (.nil ?_)
            refine (.condT rfl rfl ?_)
            refine .regSeq (.z zg (.nil ?_))
            refine .ret (rT (Fin.ret1 Tryz.results175 rfl ?_))
            (try simp only [notdec_true] at *)
            (try simp only [notdec_false] at *)
            refine ⟨congrArg I ?_, hs.out⟩
            unfold Lim.ok
            first
              | (rw [if_pos (by simp only [Bool.and_eq_true, decide_eq_true_eq]; omega)]; done)
              | (rw [if_neg (by simp only [Bool.and_eq_true, decide_eq_true_eq]; omega)]; done)
          · refine .gT rfl rfl ?_
            refine .z (zfa fa_api_Limit_3) ?_
            refine .gT rfl rfl ?_
            refine .y hs (zld Tryz.isAgg3) ?_
            refine .gT rfl rfl ?_
            refine .o (.call Tryz.call174 rfl (ref02_within_spec hs) ?_); rintro _ w ⟨rfl, hs⟩
            refine .gT rfl rfl ?_
            refine .z znot (.z zpF (.nil ?_))
            refine (.cond rfl (fun hc40 => ?_) (fun hc40 => ?_))
            · refine .regSeq (.z zg (.nil ?_))
              refine .ret (rT (Fin.ret1 Tryz.results175 rfl ?_))
              (try simp only [notdec_true] at *)
              (try simp only [notdec_false] at *)
              refine ⟨congrArg I ?_, hs.out⟩
              unfold Lim.ok
              first
                | (rw [if_pos (by simp only [Bool.and_eq_true, decide_eq_true_eq]; omega)]; done)
                | (rw [if_neg (by simp only [Bool.and_eq_true, decide_eq_true_eq]; omega)]; done)
            · refine .skip ?_
              refine nT ?_
              refine .regSeq (.z zg (.nil ?_))
              refine .ret (Fin.ret1 Tryz.results175 rfl ?_)
              (try simp only [notdec_true] at *)
              (try simp only [notdec_false] at *)
              refine ⟨congrArg I ?_, hs.out⟩
              unfold Lim.ok
              first
                | (rw [if_pos (by simp only [Bool.and_eq_true, decide_eq_true_eq]; omega)]; done)
                | (rw [if_neg (by simp only [Bool.and_eq_true, decide_eq_true_eq]; omega)]; done)
theorem ref02_Check_spec {H : Heap} {w : World} {σ : List Ent} {v : Value} {s : Syst} (hs : St H w σ) (hr : RSy H v s) : Cl Tryz.prog 117 [v] w fun v w' => v = I s.check ∧ St H w' σ := by
  obtain ⟨u, rfl, hr⟩ := hr
  obtain ⟨a, c, rfl⟩ := RL.shape hr
  have hlen := (RS.len (RS.recap hr (Nat.le_refl _) (cap' := s.lims.length))).2.2
  refine Cl.of Tryz.func117 rfl Tryz.ntmps117 (by simp) (args_cons (k := 0) rfl (args0)) ?_
  refine .regSeq ?_
  refine .o (.box hs rfl rfl ?_); intro b1 w hs
  refine .z zg (.nil (.seq (.regSeq (.z (zfa fa_api_System_0) (.y hs (zld Tryz.isAgg3) ?_)))))
  refine .o (.call Tryz.call174 rfl (ref02_within_spec hs) ?_); rintro _ w ⟨rfl, hs⟩
  refine .z znot (.nil ?_)
  refine (.cond rfl (fun hc8 => ?_) (fun hc8 => ?_))
  · refine .regSeq (.z zg (.nil ?_))
    refine .ret (rT (Fin.ret1 Tryz.results117 rfl ?_))
    exact ⟨congrArg I (by unfold Syst.check; rw [if_pos (by simp at hc8; omega)]), hs.out⟩
  · refine .skip ?_
    refine nT ?_
    refine .seq (.regSeq (.z (zfa fa_api_System_1) (.y hs (zld Tryz.isAgg22) (.z (zlen Tryz.runUnderlying22) (.z zgtr (.nil ?_))))))
    refine (.condD rfl (fun hc12 => ?_) (fun hc12 => ?_))
    · refine .regSeq (.z zg (.nil ?_))
      refine .ret (rT (Fin.ret1 Tryz.results117 rfl ?_))
      exact ⟨congrArg I (by unfold Syst.check; rw [if_neg (by simpa using hc8), if_pos (by omega)]), hs.out⟩
    · refine .skip ?_
      refine nT ?_
      refine .seq (.regSeq (.z (zfa fa_api_System_1) (.y hs (zld Tryz.isAgg22) (.z (zlen Tryz.runUnderlying22) (.z zm (.nil ?_))))))
      refine .for (N := s.lims.length) (J := fun k fr w => fr = [(14, .slice a s.lims.length c), (1, .pointer (some ⟨b1, 0, none⟩))] ∧ (∀ j < k, ∀ l, s.lims[j]? = some l → l.ok s.many = true) ∧ St H w (.blk b1 [I s.many, .slice a s.lims.length c] :: σ)) (by omega) ?_ ?_ ?_
      · exact .mk ⟨rfl, fun j hj => by omega, hs⟩
      · rintro k fr w hk ⟨rfl, hno, hs⟩
        obtain ⟨x, hx⟩ := nth (l := s.lims) hk
        refine .block (.regSeq ?_)
        refine .ixX (enc := Lim.c) hs hr rfl rfl Tryz.runUnderlying22 Tryz.sizeOf157 hx rfl ?_; intro b18 o18 hc18
        refine .q hs (q_loadsR (vs := x.c) rfl Tryz.isAgg157 Tryz.sizeOf157 hc18) ?_
        refine .o (.alloc hs Tryz.zeroValue157 rfl ?_); intro b4 w hs
        refine .o (.stores (vs := x.c) hs rfl rfl Tryz.sizeOf157 ?_); intro w hs
        refine .nil (.regSeq (.z (zfa fa_api_System_0) (.y hs (zld Tryz.isAgg3) ?_)))
        refine .q hs (q_loads (vs := x.c) rfl Tryz.isAgg157 Tryz.sizeOf157) ?_
        refine .o (.call Tryz.call175 rfl (ref02_CheckLimit_spec hs) ?_); rintro _ w ⟨rfl, hs⟩
        have hmm : 0 ≤ s.many ∧ s.many ≤ 64 := by simpa using hc8
        rw [show (decide (0 ≤ s.many ∧ s.many ≤ 64) && x.ok s.many) = x.ok s.many by rw [decide_eq_true hmm]; rfl]
        refine .z zneq (.nil ?_)
        refine (.condN rfl (fun hc24 => ?_) (fun hc24 => ?_))
        · refine .regSeq (.z zg (.nil ?_))
          refine .ret (rB (rT (rB (rT (Fin.ret1 Tryz.results117 rfl ?_)))))
          exact ⟨congrArg I (by
            have hx0 : x.ok s.many = false := by cases e : x.ok s.many with | false => rfl | true => rw [e] at hc24; simp at hc24
            unfold Syst.check; rw [if_neg (by simpa using hc8), if_neg (by omega), if_pos (List.any_eq_true.2 ⟨x, List.mem_of_getElem? hx, by rw [hx0]; rfl⟩)]), hs.out⟩
        · refine .skip ?_
          refine nB (nT ?_)
          exact .mk ⟨rfl, upto_succ hno hx (by cases e : x.ok s.many with | true => rfl | false => rw [e] at hc24; simp at hc24), hs.tail⟩
      · rintro fr w ⟨rfl, hno, hs⟩
        refine nT ?_
        refine .regSeq (.z zg (.nil ?_))
        refine .ret (Fin.ret1 Tryz.results117 rfl ?_)
        exact ⟨congrArg I (by
          have hall : (s.lims.any fun l => !l.ok s.many) = false := by
            simp only [List.any_eq_false, Bool.not_eq_true', Bool.not_eq_false]
            intro l hl
            obtain ⟨j, hj⟩ := List.getElem?_of_mem hl
            exact hno j (List.getElem?_eq_some_iff.1 hj).1 l hj
          unfold Syst.check; rw [if_neg (by simpa using hc8), if_neg (by omega), hall]; rfl), hs.out⟩
end Go.Proofs.YtiiokdeehlfeeaaGreat

namespace Go.Proofs.YtiiokdeehlfeeaaGreat
open Go.MW
def SettledR (a : Quest) (b : Bool) (e : Int) : Prop := (CAskR a e ∧ e ≠ 0 ∧ b = false) ∨ (AskOk a ∧ e = 0 ∧ ∃ lo hi, RangeR a.sys a.ws lo hi 0 ∧ b = decide (hi - lo ≤ a.width))
def SideR (a : Quest) (z x e : Int) : Prop := (CAskR a e ∧ e ≠ 0 ∧ x = 0) ∨ (AskOk a ∧ e = 0 ∧ ∃ lo hi, RangeR a.sys a.ws lo hi 0 ∧ x = if z ≤ lo then 1 else if hi < z then 0 else 2)
theorem WidthR.uniq {a : Quest} {n m e f : Int} (h : WidthR a n e) (g : WidthR a m f) : n = m ∧ e = f := by
  rcases h with ⟨h1, h2, h3⟩ | ⟨h1, h2, lo, hi, h3, h4⟩ <;> rcases g with ⟨g1, g2, g3⟩ | ⟨g1, g2, lo', hi', g3, g4⟩
  · exact ⟨by rw [h3, g3], h1.uniq g1⟩
  · exact (h2 (h1.uniq (CAskR.zero.2 g1))).elim
  · exact (g2 (g1.uniq (CAskR.zero.2 h1))).elim
  · obtain ⟨rfl, rfl, -⟩ := h3.uniq g3; exact ⟨by rw [h4, g4], by rw [h2, g2]⟩
theorem SettledR.uniq {a : Quest} {n m : Bool} {e f : Int} (h : SettledR a n e) (g : SettledR a m f) : n = m ∧ e = f := by
  rcases h with ⟨h1, h2, h3⟩ | ⟨h1, h2, lo, hi, h3, h4⟩ <;> rcases g with ⟨g1, g2, g3⟩ | ⟨g1, g2, lo', hi', g3, g4⟩
  · exact ⟨by rw [h3, g3], h1.uniq g1⟩
  · exact (h2 (h1.uniq (CAskR.zero.2 g1))).elim
  · exact (g2 (g1.uniq (CAskR.zero.2 h1))).elim
  · obtain ⟨rfl, rfl, -⟩ := h3.uniq g3; exact ⟨by rw [h4, g4], by rw [h2, g2]⟩
theorem SideR.uniq {a : Quest} {z n m e f : Int} (h : SideR a z n e) (g : SideR a z m f) : n = m ∧ e = f := by
  rcases h with ⟨h1, h2, h3⟩ | ⟨h1, h2, lo, hi, h3, h4⟩ <;> rcases g with ⟨g1, g2, g3⟩ | ⟨g1, g2, lo', hi', g3, g4⟩
  · exact ⟨by rw [h3, g3], h1.uniq g1⟩
  · exact (h2 (h1.uniq (CAskR.zero.2 g1))).elim
  · exact (g2 (g1.uniq (CAskR.zero.2 h1))).elim
  · obtain ⟨rfl, rfl, -⟩ := h3.uniq g3; exact ⟨by rw [h4, g4], by rw [h2, g2]⟩
theorem ask_range {a : Quest} {lo hi e : Int} (hok : AskOk a) (h : RangeR a.sys a.ws lo hi e) : e = 0 ∧ RangeR a.sys a.ws lo hi 0 := by
  obtain ⟨lo', hi', h4⟩ := hok.range
  obtain ⟨rfl, rfl, rfl⟩ := h.uniq h4
  exact ⟨rfl, h4⟩
theorem probe_told_bool {R : Bool → Int → Prop} {H : Heap} {w : World} {σ : List Ent} {v vl : Value} {a : Quest} {l : List Prb} {g : Nat} {cap : List Value} (hs : St H w σ) (hr : RAsk H v a) (hp : RPs H vl l) (hc : ∀ args w, (callFunc g args).run Tryz.prog w = .ok (.enter g args) w)
    (hg : ∀ H' w σ', HLe H H' → CPrbR a l 0 → St H' w σ' → Cl Tryz.prog g ([v] ++ cap) w fun u w' => ∃ H'' x e, HLe H' H'' ∧ u = .tuple #[.bool x, I e] ∧ R x e ∧ St H'' w' σ') :
    Cl Tryz.prog 103 [v, vl, .func (.func g) #[] cap.toArray] w fun u w' => ∃ H1 x e, HLe H H1 ∧ u = .tuple #[.bool x, I e] ∧ ((CPrbR a l e ∧ e ≠ 0 ∧ x = false) ∨ (CPrbR a l 0 ∧ R x e)) ∧ St H1 w' σ := by
  obtain ⟨ul, uw, rfl, hl, hw⟩ := hr
  refine Cl.of Tryz.func103 rfl Tryz.ntmps103 (by simp) (args_cons (k := 0) rfl (args_cons (k := 1) rfl (args_cons (k := 2) rfl (args0)))) ?_
  refine .regSeq ?_
  refine .o (.box hs rfl rfl ?_); intro b3 w hs
  refine .z zg (.z zg (.nil (.seq (.regSeq (.y hs (zls [_, _, _, _] Tryz.isAgg27 Tryz.sizeOf27) (.z zm ?_))))))
  refine .o (.call Tryz.call141 rfl (probe_CheckProbes_spec (a := a) hs ⟨_, _, rfl, hl, hw⟩ hp) ?_); rintro _ w ⟨H1, e, hle1, rfl, hC, hs⟩
  refine .z zg (.nil (.regSeq (.z zm (.z zneq (.nil ?_)))))
  refine (.condN rfl (fun hc14 => ?_) (fun hc14 => ?_))
  · refine .regSeq (.z zg (.nil (.regSeq (.z zm (.z zm (.z zg (.z zg (.nil ?_))))))))
    refine .ret (rT (Fin.ret2 Tryz.results103 rfl rfl ?_))
    exact ⟨H1, false, e, hle1, rfl, .inl ⟨hC, hc14, rfl⟩, hs.tail⟩
  · refine .skip ?_
    refine nT ?_
    refine .regSeq (.z zm (.y hs (zls [_, _, _, _] Tryz.isAgg27 Tryz.sizeOf27) ?_))
    rw [hc14] at hC
    refine .o (.callG (first := []) rfl rfl hc (hg _ _ _ hle1 hC hs) ?_); rintro _ w ⟨H2, x, e2, hle2, rfl, hR, hs⟩
    refine .z zex (.z zex (.z zg (.z zg (.nil ?_))))
    refine .ret (Fin.ret2 Tryz.results103 rfl rfl ?_)
    exact ⟨H2, x, e2, hle1.trans hle2, rfl, .inr ⟨hC, hR⟩, hs.tail⟩
theorem probe_Settled_1 {H : Heap} {w : World} {σ : List Ent} {v : Value} {a : Quest} (hs : St H w σ) (hr : RAsk H v a) : Cl Tryz.prog 104 [v] w fun u w' => ∃ H'' x e, HLe H H'' ∧ u = .tuple #[.bool x, I e] ∧ (∃ lo hi, RangeR a.sys a.ws lo hi e ∧ x = decide (hi - lo ≤ a.width)) ∧ St H'' w' σ := by
  obtain ⟨ul, uw, rfl, hl, hw⟩ := hr
  refine Cl.of Tryz.func104 rfl Tryz.ntmps104 (by simp) (args_cons (k := 0) rfl (args0)) ?_
  refine .regSeq ?_
  refine .o (.box hs rfl rfl ?_); intro b1 w hs
  refine .z zg (.z zg (.nil (.regSeq (.y hs (zls [_, _, _, _] Tryz.isAgg27 Tryz.sizeOf27) ?_))))
  refine .o (.call Tryz.call102 rfl (probe_width_spec (a := a) hs ⟨_, _, rfl, hl, hw⟩) ?_); rintro _ w ⟨H1, n, e, hle1, rfl, ⟨lo, hi, hR, rfl⟩, hs⟩
  refine .z zm (.z zex (.z zex (.z zg (.z zg (.nil (.regSeq (.z zm (.z (zfa fa_api_Ask_2) (.y hs (zld Tryz.isAgg3) ?_)))))))))
  refine .z zleq (.z zm (.z zg (.z zg (.nil ?_))))
  refine .ret (Fin.ret2 Tryz.results104 rfl rfl ?_)
  exact ⟨H1, _, e, hle1, rfl, ⟨lo, hi, hR, rfl⟩, hs.tail⟩
theorem probe_Settled_spec {H : Heap} {w : World} {σ : List Ent} {v : Value} {a : Quest} (hs : St H w σ) (hr : RAsk H v a) : Cl Tryz.prog 42 [v] w fun u w' => ∃ H1 b e, HLe H H1 ∧ u = .tuple #[.bool b, I e] ∧ SettledR a b e ∧ St H1 w' σ := by
  obtain ⟨ul, uw, rfl, hl, hw⟩ := hr
  refine Cl.of Tryz.func42 rfl Tryz.ntmps42 (by simp) (args_cons (k := 0) rfl (args0)) ?_
  refine .regSeq ?_
  refine .o (.box hs rfl rfl ?_); intro b1 w hs
  refine .z zg (.z zg (.nil (.regSeq (.y hs (zls [_, _, _, _] Tryz.isAgg27 Tryz.sizeOf27) ?_))))
  refine .o (.call Tryz.call103 rfl (probe_told_bool (a := a) (l := []) (cap := []) hs ⟨_, _, rfl, hl, hw⟩ (RS.nil _ 2 none 0) Tryz.call104 (fun H' w σ' hle _ hs => probe_Settled_1 (a := a) hs ⟨_, _, rfl, hl.mono hle, hw.mono hle⟩)) ?_); rintro _ w ⟨H1, x, e, hle1, rfl, hcase, hs⟩
  refine .z zex (.z zex (.z zg (.z zg (.nil ?_))))
  refine .ret (Fin.ret2 Tryz.results42 rfl rfl ?_)
  refine ⟨H1, x, e, hle1, rfl, ?_, hs.tail⟩
  rcases hcase with ⟨h1, h2, h3⟩ | ⟨h1, lo, hi, h2, h3⟩
  · exact .inl ⟨h1.nil, h2, h3⟩
  · have hok := CAskR.zero.1 h1.nil
    obtain ⟨rfl, h4⟩ := ask_range hok h2
    exact .inr ⟨hok, rfl, lo, hi, h4, h3⟩
end Go.Proofs.YtiiokdeehlfeeaaGreat

namespace Go.Proofs.YtiiokdeehlfeeaaGreat
open Go.MW
def PairsR (a : Quest) (l : List Prb) (S : Syst) (W : List Int) (e : Int) : Prop := (CPrbR a l e ∧ e ≠ 0 ∧ S = ⟨0, []⟩ ∧ W = []) ∨ (CPrbR a l 0 ∧ e = 0 ∧ S = dblS a l ∧ W = dblW a.ws)
theorem PairsR.uniq {a : Quest} {l : List Prb} {S T : Syst} {W V : List Int} {e f : Int} (h : PairsR a l S W e) (g : PairsR a l T V f) : S = T ∧ W = V ∧ e = f := by
  rcases h with ⟨h1, h2, h3, h4⟩ | ⟨h1, h2, h3, h4⟩ <;> rcases g with ⟨g1, g2, g3, g4⟩ | ⟨g1, g2, g3, g4⟩
  · exact ⟨by rw [h3, g3], by rw [h4, g4], h1.uniq g1⟩
  · exact (h2 (h1.uniq g1)).elim
  · exact (g2 (g1.uniq h1)).elim
  · exact ⟨by rw [h3, g3], by rw [h4, g4], by rw [h2, g2]⟩
def WorstR (a : Quest) (l : List Prb) (n e : Int) : Prop := (CPrbR a l e ∧ e ≠ 0 ∧ n = 0) ∨ (CPrbR a l 0 ∧ e = 0 ∧ PairS a l n)
theorem WorstR.uniq {a : Quest} {l : List Prb} {n m e f : Int} (h : WorstR a l n e) (g : WorstR a l m f) : n = m ∧ e = f := by
  rcases h with ⟨h1, h2, h3⟩ | ⟨h1, h2, h3⟩ <;> rcases g with ⟨g1, g2, g3⟩ | ⟨g1, g2, g3⟩
  · exact ⟨by rw [h3, g3], h1.uniq g1⟩
  · exact (h2 (h1.uniq g1)).elim
  · exact (g2 (g1.uniq h1)).elim
  · exact ⟨h3.uniq g3, by rw [h2, g2]⟩
end Go.Proofs.YtiiokdeehlfeeaaGreat

namespace Go.Proofs.YtiiokdeehlfeeaaGreat
open Go.MW
theorem slices_Equal_int {H : Heap} {w : World} {σ : List Ent} {va vb : Value} {A B : List Int} (hs : St H w σ) (hA : RI H va A) (hB : RI H vb B) :
    Cl Tryz.prog 91 [va, vb] w fun v w' => v = .bool (decide (A = B)) ∧ St H w' σ := by
  obtain ⟨aA, cA, rfl⟩ := RI.shape hA
  obtain ⟨aB, cB, rfl⟩ := RI.shape hB
  have hlA := (RI.len hA).2.2
  have hlB := (RI.len hB).2.2
  refine Cl.of Tryz.func91 rfl Tryz.ntmps91 (by simp) (args_cons (k := 0) rfl (args_cons (k := 1) rfl (args0))) ?_
  refine .regSeq (.z zg (.nil (.seq (.regSeq (.z zm (.z (zlen Tryz.runUnderlying25) (.z zm (.z (zlen Tryz.runUnderlying25) (.z zneq ?_)))))))))
  refine .nil ?_
  refine (.condN rfl (fun hc10 => ?_) (fun hc10 => ?_))
  · refine .regSeq (.z zg (.nil ?_))
    refine .ret (rT (Fin.ret1 Tryz.results91 rfl ?_))
    exact ⟨by rw [decide_eq_false (by intro h; subst h; exact hc10 rfl)], hs⟩
  · refine .skip ?_
    refine nT ?_
    refine .seq (.regSeq (.z zm (.z (zlen Tryz.runUnderlying25) (.z zm (.nil ?_)))))
    refine .for (N := A.length) (J := fun k fr w => fr = [(0, .slice aA A.length cA), (1, .slice aB B.length cB)] ∧ (∀ j < k, A[j]? = B[j]?) ∧ St H w σ) (by omega) ?_ ?_ ?_
    · exact .mk ⟨rfl, fun j h => by omega, hs⟩
    · rintro k fr w hk ⟨rfl, h0, hs⟩
      obtain ⟨xA, hxA⟩ := nth hk
      obtain ⟨xB, hxB⟩ := nth (l := B) (k := k) (by omega)
      refine .block (.regSeq (.z zm (.z zg (.nil ?_))))
      refine .seq (.draw mix rfl hs ?_); intro w hs
      refine .z 0 rfl zm ?_; refine .z 1 rfl zm ?_
      refine .ixX (enc := fun x => [I x]) (i := 2) hs rfl (by kernel_rfl) .none hA rfl rfl Tryz.runUnderlying25 Tryz.sizeOf3 hxA rfl ?_; intro b18 o18 hc18; replace hc18 := CellsAt.one hc18
      refine .r (i := 3) hs rfl (by kernel_rfl) .none (q_loadR rfl Tryz.isAgg3 hc18) ?_
      refine .z 4 rfl zm ?_; refine .z 5 rfl zm ?_
      refine .ixX (enc := fun x => [I x]) (i := 6) hs rfl (by kernel_rfl) .none hB rfl rfl Tryz.runUnderlying25 Tryz.sizeOf3 hxB rfl ?_; intro b22 o22 hc22; replace hc22 := CellsAt.one hc22
      refine .r (i := 7) hs rfl (by kernel_rfl) .none (q_loadR rfl Tryz.isAgg3 hc22) ?_
      refine .z 8 rfl zneq ?_; refine .done (by kernel_rfl) hs ?_
      refine (.condN rfl (fun hc24 => ?_) (fun hc24 => ?_))
      · refine .regSeq (.z zg (.nil ?_))
        refine .ret (rB (rT (rB (rT (Fin.ret1 Tryz.results91 rfl ?_)))))
        exact ⟨by rw [decide_eq_false (by intro h; subst h; rw [hxA] at hxB; cases hxB; exact hc24 rfl)], hs⟩
      · refine .skip ?_
        refine nB (nT ?_)
        exact .mk ⟨rfl, fun j hj => by
          by_cases e : j = k
          · subst e; rw [hxA, hxB, hc24]
          · exact h0 j (by omega), hs⟩
    · rintro fr w ⟨rfl, h0, hs⟩
      refine nT ?_
      refine .regSeq (.z zg (.nil ?_))
      refine .ret (Fin.ret1 Tryz.results91 rfl ?_)
      exact ⟨by rw [decide_eq_true (List.ext_getElem? fun j => by
        by_cases e : j < A.length
        · exact h0 j e
        · rw [List.getElem?_eq_none (by omega), List.getElem?_eq_none (by omega)])], hs⟩
set_option maxHeartbeats 8000000 in
theorem bound_isProof_spec {H : Heap} {w : World} {σ : List Ent} {v vw vp : Value} {s : Syst} {ws : List Int} {n : Int} {us : List Use} (hs : St H w σ) (hr : RSy H v s) (hrw : RI H vw ws) (hp : RPf H vp n us) (hA : askErr s ws = 0) :
    Cl Tryz.prog 159 [v, vw, vp] w fun v w' => ∃ H1 b, HLe H H1 ∧ v = .bool b ∧ (b = true ↔ ProofOk s ws n us) ∧ St H1 w' σ := by
  obtain ⟨u, rfl, hr⟩ := hr
  obtain ⟨al, cl, rfl⟩ := RL.shape hr
  obtain ⟨aw, cw, rfl⟩ := RI.shape hrw
  obtain ⟨uu, rfl, hU⟩ := hp
  obtain ⟨au, cu, rfl⟩ := RU.shape hU
  obtain ⟨hok, hwl, hz⟩ := askErr_ok hA
  have hm0 := hok.m0
  have hn65 := hok.n65
  have hll := hok.len
  have hmn : s.many + 1 = (s.n : Int) := by simp only [Syst.n]; omega
  refine Cl.of Tryz.func159 rfl Tryz.ntmps159 (by simp) (args_cons (k := 0) rfl (args_cons (k := 1) rfl (args_cons (k := 2) rfl (args0)))) ?_
  refine .regSeq ?_
  refine .o (.box hs rfl rfl ?_); intro b3 w hs
  refine .o (.box hs rfl rfl ?_); intro b5 w hs
  refine .z zg (.nil (.seq (.regSeq (.z (zfa fa_api_Proof_1) (.y hs (zld Tryz.isAgg61) (.z (zlen Tryz.runUnderlying61) (.z zgtr (.nil ?_))))))))
  refine (.condD rfl (fun hc16 => ?_) (fun hc16 => ?_))
  · refine .regSeq (.z zg (.nil ?_))
    refine .ret (rT (Fin.ret1 Tryz.results159 rfl ?_))
    exact ⟨H, false, HLe.refl H, rfl, ⟨fun h => (by cases h), fun h => by have := h.len; omega⟩, hs.out⟩
  · refine .skip ?_
    refine nT ?_
    refine .regSeq (.z (zfa fa_api_System_0) (.y hs (zld Tryz.isAgg3) (.z zadd ?_)))
    rw [hmn]
    refine .o (.makeI s.n hs rfl rfl Tryz.runUnderlying25 Tryz.typeInfo3 rfl Tryz.sizeOf3 Tryz.zeroValue3 (by omega) ?_); intro b20 w hs
    refine .z zg (.nil (.regSeq (.z zg (.z zg (.nil (.seq (.regSeq (.z (zfa fa_api_Proof_1) (.y hs (zld Tryz.isAgg61) ?_)))))))))
    refine .z (zlen Tryz.runUnderlying61) (.z zm (.nil ?_))
    refine .for (N := us.length) (J := fun k fr w => fr = [(22, .slice au us.length cu), (7, .slice (some ⟨b20, 0, none⟩) s.n s.n), (8, I (timesTo us k)), (9, I (IntKind.i64.wrap (boundTo s us k))), (3, .pointer (some ⟨b3, 0, none⟩)), (5, .pointer (some ⟨b5, 0, none⟩)), (1, .slice aw ws.length cw)] ∧ ∃ C, (C.length = s.n ∧ ∀ v < s.n, gi C v = intoTo s us k v) ∧ (∀ i < k, UseOk s us i) ∧ timesTo us k ≤ 3600000000000 * k ∧ St H w (.blk b20 (Is C) :: .blk b5 [I n, .slice au us.length cu] :: .blk b3 [I s.many, .slice al s.lims.length cl] :: σ)) (by omega) ?_ ?_ ?_
    · exact .mk ⟨rfl, _, ⟨by simp, fun v hv => by rw [gi_replicate _ _ hv]; rfl⟩, fun i hi => by omega, by simp [timesTo, sumTo], hs⟩ (hs := .cons rfl (.cons rfl (.cons rfl (.cons rfl (.cons rfl (.consI rfl (by simp [boundTo, sumTo, i64wrap_eq]) (by repeat (first | exact .nil rfl rfl | refine .cons rfl ?_))))))))
    · rintro k fr w hk ⟨rfl, C, ⟨hC1, hC2⟩, hUs, hTm, hs⟩
      have hx := gu_get hk
      have hu400 : us.length ≤ 400 := by omega
      refine .block (.regSeq (.z zm ?_))
      refine .ixX (enc := Use.c) hs hU rfl rfl Tryz.runUnderlying61 Tryz.sizeOf208 hx rfl ?_; intro b27 o27 hc27
      refine .q hs (q_loadsR (vs := (gu us k).c) rfl Tryz.isAgg208 Tryz.sizeOf208 hc27) ?_
      refine .o (.alloc hs Tryz.zeroValue208 rfl ?_); intro b11 w hs
      refine .z zg ?_
      refine .o (.stores (vs := (gu us k).c) hs rfl rfl Tryz.sizeOf208 ?_); intro w hs
      refine .nil (.seq ?_)
      refine .cut (fun fs w => ∃ p, FSub fs ⟨110, [], [(58, .bool p), (11, .pointer (some ⟨b11, 0, none⟩)), (24, I (k : Int)), (23, I (us.length : Int)), (22, .slice au us.length cu), (7, .slice (some ⟨b20, 0, none⟩) s.n s.n), (8, I (timesTo us k)), (9, I (IntKind.i64.wrap (boundTo s us k))), (3, .pointer (some ⟨b3, 0, none⟩)), (5, .pointer (some ⟨b5, 0, none⟩)), (1, .slice aw ws.length cw)]⟩ ∧ (p = true → ¬ UseOk s us k) ∧ (p = false → UseOk s us k) ∧ St H w (.blk b11 (gu us k).c :: .blk b20 (Is C) :: .blk b5 [I n, .slice au us.length cu] :: .blk b3 [I s.many, .slice al s.lims.length cl] :: σ)) ?_ ?_
      · refine .draw mix rfl hs ?_; intro w hs
        refine .z 0 rfl (zfa fa_api_Use_0) ?_; refine .y 1 rfl hs Tryz.isAgg3 ?_; refine .z 2 rfl (zfa fa_api_System_1) ?_; refine .y 3 rfl hs Tryz.isAgg22 ?_; refine .z 4 rfl (zlen Tryz.runUnderlying22) ?_; refine .z 5 rfl zsub ?_
        refine .e1 (i := 6) (by kernel_rfl) rfl rfl .none hs ?_
        refine .call Tryz.call167 rfl (bound_within_spec hs) ?_; rintro _ w ⟨rfl, hs⟩
        refine .go ?_
        refine .z 7 rfl znot ?_; refine .z 8 rfl zm ?_
        refine .bif (t' := 37) rfl (fun hb37 => ?_) (fun hb37 => ?_)
        · refine .qF (i := 9) rfl (by kernel_rfl) rfl rfl ?_
          refine .qF (i := 10) rfl (by kernel_rfl) rfl rfl ?_
          refine .qF (i := 11) rfl (by kernel_rfl) rfl rfl ?_
          refine .qF (i := 12) rfl (by kernel_rfl) rfl rfl ?_
          refine .z 13 rfl zpT ?_; refine .z 14 rfl zm ?_
          refine .qF (i := 15) rfl (by kernel_rfl) rfl rfl ?_
          refine .qF (i := 16) rfl (by kernel_rfl) rfl rfl ?_
          refine .qF (i := 17) rfl (by kernel_rfl) rfl rfl ?_
          refine .qF (i := 18) rfl (by kernel_rfl) rfl rfl ?_
          refine .qF (i := 19) rfl (by kernel_rfl) rfl rfl ?_
          refine .qF (i := 20) rfl (by kernel_rfl) rfl rfl ?_
          refine .qF (i := 21) rfl (by kernel_rfl) rfl rfl ?_
          refine .qF (i := 22) rfl (by kernel_rfl) rfl rfl ?_
          refine .qF (i := 23) rfl (by kernel_rfl) rfl rfl ?_
          refine .qF (i := 24) rfl (by kernel_rfl) rfl rfl ?_
          refine .qF (i := 25) rfl (by kernel_rfl) rfl rfl ?_
          refine .qF (i := 26) rfl (by kernel_rfl) rfl rfl ?_
          refine .qF (i := 27) rfl (by kernel_rfl) rfl rfl ?_
          refine .qF (i := 28) rfl (by kernel_rfl) rfl rfl ?_
          refine .z 29 rfl zpT ?_; refine .done (by kernel_rfl) hs ?_
          exact nT ⟨_, by repeat (first | exact .nil rfl rfl | refine .cons rfl ?_), by
            intro hp hU
            have h1 := hU.l0; have h2 := hU.l1; have h3 := hU.t0; have h4 := hU.t1; have h5 := hU.ord
            first
              | (cases hp; done)
              | (have := notdec_true.1 hb37; omega)
              | (have := notdec_true.1 hb43; omega)
              | (have := of_decide_eq_true hp; have := h5 (by omega); omega), by
            intro hp
            first
              | (cases hp; done)
              | exact ⟨by have := notdec_false.1 hb37; omega, by have := notdec_false.1 hb37; omega, by have := notdec_false.1 hb43; omega, by have := notdec_false.1 hb43; omega, fun h => by first | omega | (have := of_decide_eq_false hp; omega)⟩, hs⟩
        · refine .z 9 rfl (zfa fa_api_Use_1) ?_; refine .y 10 rfl hs Tryz.isAgg3 ?_
          refine .e1 (i := 11) (by kernel_rfl) rfl rfl (.some rfl rfl) hs ?_
          refine .call Tryz.call167 rfl (bound_within_spec hs) ?_; rintro _ w ⟨rfl, hs⟩
          refine .go ?_
          refine .z 12 rfl znot ?_; refine .z 13 rfl zpF ?_; refine .z 14 rfl zm ?_
          refine .bif (t' := 43) rfl (fun hb43 => ?_) (fun hb43 => ?_)
          · refine .qF (i := 15) rfl (by kernel_rfl) rfl rfl ?_
            refine .qF (i := 16) rfl (by kernel_rfl) rfl rfl ?_
            refine .qF (i := 17) rfl (by kernel_rfl) rfl rfl ?_
            refine .qF (i := 18) rfl (by kernel_rfl) rfl rfl ?_
            refine .qF (i := 19) rfl (by kernel_rfl) rfl rfl ?_
            refine .qF (i := 20) rfl (by kernel_rfl) rfl rfl ?_
            refine .qF (i := 21) rfl (by kernel_rfl) rfl rfl ?_
            refine .qF (i := 22) rfl (by kernel_rfl) rfl rfl ?_
            refine .qF (i := 23) rfl (by kernel_rfl) rfl rfl ?_
            refine .qF (i := 24) rfl (by kernel_rfl) rfl rfl ?_
            refine .qF (i := 25) rfl (by kernel_rfl) rfl rfl ?_
            refine .qF (i := 26) rfl (by kernel_rfl) rfl rfl ?_
            refine .qF (i := 27) rfl (by kernel_rfl) rfl rfl ?_
            refine .qF (i := 28) rfl (by kernel_rfl) rfl rfl ?_
            refine .z 29 rfl zpT ?_; refine .done (by kernel_rfl) hs ?_
            exact nT ⟨_, by repeat (first | exact .nil rfl rfl | refine .cons rfl ?_), by
              intro hp hU
              have h1 := hU.l0; have h2 := hU.l1; have h3 := hU.t0; have h4 := hU.t1; have h5 := hU.ord
              first
                | (cases hp; done)
                | (have := notdec_true.1 hb37; omega)
                | (have := notdec_true.1 hb43; omega)
                | (have := of_decide_eq_true hp; have := h5 (by omega); omega), by
              intro hp
              first
                | (cases hp; done)
                | exact ⟨by have := notdec_false.1 hb37; omega, by have := notdec_false.1 hb37; omega, by have := notdec_false.1 hb43; omega, by have := notdec_false.1 hb43; omega, fun h => by first | omega | (have := of_decide_eq_false hp; omega)⟩, hs⟩
          · refine .z 15 rfl zm ?_; refine .z 16 rfl zgtr ?_; refine .z 17 rfl zm ?_
            refine .bifD (t' := 46) rfl (fun hb46 => ?_) (fun hb46 => ?_)
            · refine .z 18 rfl (zfa fa_api_Proof_1) ?_; refine .y 19 rfl hs Tryz.isAgg61 ?_; refine .z 20 rfl zm ?_; refine .z 21 rfl zsub ?_
              refine .ixX (enc := Use.c) (i := 22) hs rfl (by kernel_rfl) (.some rfl rfl) hU rfl rfl Tryz.runUnderlying61 Tryz.sizeOf208 (gu_get (i := k - 1) (by omega)) (by omega) ?_; intro b51 o51 hc51
              refine .z 23 rfl (zfa fa_api_Use_0) ?_
              refine .r (i := 24) hs rfl (by kernel_rfl) (.some rfl rfl) (q_loadR rfl Tryz.isAgg3 (hc51.get 0 rfl)) ?_
              refine .z 25 rfl (zfa fa_api_Use_0) ?_; refine .y 26 rfl hs Tryz.isAgg3 ?_; refine .z 27 rfl zgeq ?_; refine .z 28 rfl zpT ?_; refine .z 29 rfl zpF ?_; refine .done (by kernel_rfl) hs ?_
              exact nT ⟨_, by repeat (first | exact .nil rfl rfl | refine .cons rfl ?_), by
                intro hp hU
                have h1 := hU.l0; have h2 := hU.l1; have h3 := hU.t0; have h4 := hU.t1; have h5 := hU.ord
                first
                  | (cases hp; done)
                  | (have := notdec_true.1 hb37; omega)
                  | (have := notdec_true.1 hb43; omega)
                  | (have := of_decide_eq_true hp; have := h5 (by omega); omega), by
                intro hp
                first
                  | (cases hp; done)
                  | exact ⟨by have := notdec_false.1 hb37; omega, by have := notdec_false.1 hb37; omega, by have := notdec_false.1 hb43; omega, by have := notdec_false.1 hb43; omega, fun h => by first | omega | (have := of_decide_eq_false hp; omega)⟩, hs⟩
            · refine .qF (i := 18) rfl (by kernel_rfl) rfl rfl ?_
              refine .qF (i := 19) rfl (by kernel_rfl) rfl rfl ?_
              refine .qF (i := 20) rfl (by kernel_rfl) rfl rfl ?_
              refine .qF (i := 21) rfl (by kernel_rfl) rfl rfl ?_
              refine .qF (i := 22) rfl (by kernel_rfl) rfl rfl ?_
              refine .qF (i := 23) rfl (by kernel_rfl) rfl rfl ?_
              refine .qF (i := 24) rfl (by kernel_rfl) rfl rfl ?_
              refine .qF (i := 25) rfl (by kernel_rfl) rfl rfl ?_
              refine .qF (i := 26) rfl (by kernel_rfl) rfl rfl ?_
              refine .qF (i := 27) rfl (by kernel_rfl) rfl rfl ?_
              refine .z 28 rfl zpF ?_; refine .z 29 rfl zpF ?_; refine .done (by kernel_rfl) hs ?_
              exact nT ⟨_, by repeat (first | exact .nil rfl rfl | refine .cons rfl ?_), by
                intro hp hU
                have h1 := hU.l0; have h2 := hU.l1; have h3 := hU.t0; have h4 := hU.t1; have h5 := hU.ord
                first
                  | (cases hp; done)
                  | (have := notdec_true.1 hb37; omega)
                  | (have := notdec_true.1 hb43; omega)
                  | (have := of_decide_eq_true hp; have := h5 (by omega); omega), by
                intro hp
                first
                  | (cases hp; done)
                  | exact ⟨by have := notdec_false.1 hb37; omega, by have := notdec_false.1 hb37; omega, by have := notdec_false.1 hb43; omega, by have := notdec_false.1 hb43; omega, fun h => by first | omega | (have := of_decide_eq_false hp; omega)⟩, hs⟩
      · rintro fs w ⟨p, hfs, hp1, hp2, hs⟩
        refine WE.sub ?_ hfs
        refine (.cond rfl (fun hc58 => ?_) (fun hc58 => ?_))
        · refine .regSeq (.z zg (.nil ?_))
          refine .ret (rT (rB (rT (rB (rT (Fin.ret1 Tryz.results159 rfl ?_))))))
          exact ⟨H, false, HLe.refl H, rfl, ⟨fun h => (by cases h), fun h => (hp1 hc58 (h.use k hk)).elim⟩, hs.out⟩
        · refine .skip ?_
          refine nT ?_
          refine .regSeq ?_
          have hUk := hp2 (by simpa using hc58)
          have hUs' : ∀ i < k + 1, UseOk s us i := fun i hi => by
            by_cases e : i = k
            · subst e; exact hUk
            · exact hUs i (by omega)
          have hTp := times_pos hUs
          have ht0 := hUk.t0; have ht1 := hUk.t1; have hl0 := hUk.l0; have hl1 := hUk.l1
          have hgl := gl_get (ls := s.lims) (i := (gu us k).l.toNat) (by omega)
          obtain ⟨⟨xa0, xa1⟩, ⟨xb0, xb1⟩, xne, xM, -⟩ := hok.lim _ (List.mem_of_getElem? hgl)
          have hbs : boundTo s us (k + 1) = boundTo s us k + (gu us k).t * (ul s us k).M := rfl
          have hts : timesTo us (k + 1) = timesTo us k + (gu us k).t := rfl
          change 0 ≤ (ul s us k).A at xa0; change (ul s us k).A ≤ s.many at xa1
          change 0 ≤ (ul s us k).B at xb0; change (ul s us k).B ≤ s.many at xb1
          change (ul s us k).A ≠ (ul s us k).B at xne
          change -20000 ≤ (ul s us k).M ∧ (ul s us k).M ≤ 20000 at xM
          have hm1 : (gu us k).t * -20000 ≤ (gu us k).t * (ul s us k).M := Int.mul_le_mul_of_nonneg_left xM.1 (by omega)
          have hm2 : (gu us k).t * (ul s us k).M ≤ (gu us k).t * 20000 := Int.mul_le_mul_of_nonneg_left xM.2 (by omega)
          have hib := into_bd hUs (ul s us k).B.toNat
          have hia := into_bd hUs (ul s us k).A.toNat
          have hAn : (ul s us k).A.toNat < s.n := by omega
          have hBn : (ul s us k).B.toNat < s.n := by omega
          have hgA := hC2 _ hAn
          have hgB := hC2 _ hBn
          refine .z (zfa fa_api_System_1) (.y hs (zld Tryz.isAgg22) (.z (zfa fa_api_Use_0) (.y hs (zld Tryz.isAgg3) ?_)))
          refine .ixX (enc := Lim.c) hs hr rfl rfl Tryz.runUnderlying22 Tryz.sizeOf157 hgl (by omega) ?_; intro b63 o63 hc63
          refine .q hs (q_loadsR (vs := (ul s us k).c) rfl Tryz.isAgg157 Tryz.sizeOf157 hc63) ?_
          refine .o (.alloc hs Tryz.zeroValue157 rfl ?_); intro b12 w hs
          refine .o (.stores (vs := (ul s us k).c) hs rfl rfl Tryz.sizeOf157 ?_); intro w hs
          refine .nil ?_
          refine .seq (.draw mix rfl hs ?_); intro w hs
          refine .z 0 rfl zm ?_; refine .z 1 rfl (zfa fa_api_Limit_1) ?_; refine .y 2 rfl hs Tryz.isAgg3 ?_
          refine .p (i := 3) rfl (by kernel_rfl) .none (q_ixO (k := (ul s us k).B.toNat) rfl rfl Tryz.runUnderlying25 Tryz.sizeOf3 (by omega) hBn) ?_
          refine .y 4 rfl hs Tryz.isAgg3 ?_; refine .z 5 rfl (zfa fa_api_Use_1) ?_; refine .y 6 rfl hs Tryz.isAgg3 ?_; refine .z 7 rfl zadd ?_
          refine .p (i := 8) rfl (by kernel_rfl) .none (q_ixO (k := (ul s us k).B.toNat) rfl rfl Tryz.runUnderlying25 Tryz.sizeOf3 (by omega) hBn) ?_
          refine .e1 (i := 9) (by kernel_rfl) rfl rfl .none hs ?_
          refine .store hs rfl rfl Tryz.sizeOf3 ?_; intro w hs
          refine .go ?_
          refine .done (by kernel_rfl) hs ?_
          have hD1 : (C.set (ul s us k).B.toNat (gi C (ul s us k).B.toNat + (gu us k).t)).length = s.n := by rw [List.length_set]; exact hC1
          have hD2 : ∀ v, gi (C.set (ul s us k).B.toNat (gi C (ul s us k).B.toNat + (gu us k).t)) v = if v = (ul s us k).B.toNat then gi C (ul s us k).B.toNat + (gu us k).t else gi C v := fun v => gi_set (by omega) _ v
          generalize C.set (ul s us k).B.toNat (gi C (ul s us k).B.toNat + (gu us k).t) = D at hs hD1 hD2
          have hgD : gi D (ul s us k).A.toNat = gi C (ul s us k).A.toNat := by rw [hD2, if_neg (by omega)]
          refine .seq (.draw mix rfl hs ?_); intro w hs
          refine .z 0 rfl zm ?_; refine .z 1 rfl (zfa fa_api_Limit_0) ?_; refine .y 2 rfl hs Tryz.isAgg3 ?_
          refine .p (i := 3) rfl (by kernel_rfl) .none (q_ixO (k := (ul s us k).A.toNat) rfl rfl Tryz.runUnderlying25 Tryz.sizeOf3 (by omega) hAn) ?_
          refine .y 4 rfl hs Tryz.isAgg3 ?_; refine .z 5 rfl (zfa fa_api_Use_1) ?_; refine .y 6 rfl hs Tryz.isAgg3 ?_; refine .z 7 rfl zsub ?_
          refine .p (i := 8) rfl (by kernel_rfl) .none (q_ixO (k := (ul s us k).A.toNat) rfl rfl Tryz.runUnderlying25 Tryz.sizeOf3 (by omega) hAn) ?_
          refine .e1 (i := 9) (by kernel_rfl) rfl rfl .none hs ?_
          refine .store hs rfl rfl Tryz.sizeOf3 ?_; intro w hs
          refine .go ?_
          refine .done (by kernel_rfl) hs ?_
          refine .regSeq (.z zm (.z (zfa fa_api_Use_1) (.y hs (zld Tryz.isAgg3) (.z zadd (.z zg (.nil (.region (.z zm (.z (zfa fa_api_Use_1) ?_)))))))))
          refine .y hs (zld Tryz.isAgg3) (.z (zfa fa_api_Limit_2) (.y hs (zld Tryz.isAgg3) (.z zmul ?_)))
          refine .q hs (q_add rfl rfl) ?_
          rw [i64wrap_add]
          refine .z zg (.nil ?_)
          refine nB (nT ?_)
          exact .mk ⟨rfl, D.set (ul s us k).A.toNat (gi D (ul s us k).A.toNat - (gu us k).t), ⟨by rw [List.length_set]; exact hD1, fun v hv => by
            have hst : intoTo s us (k + 1) v = intoTo s us k v + (gu us k).t * (ind (ul s us k).B.toNat v - ind (ul s us k).A.toNat v) := rfl
            rw [gi_set (by omega), hst, ← hC2 v hv]
            by_cases e1 : v = (ul s us k).A.toNat
            · have i1 : ind (ul s us k).A.toNat v = 1 := by unfold ind; rw [if_pos e1.symm]
              have i2 : ind (ul s us k).B.toNat v = 0 := by unfold ind; rw [if_neg (by omega)]
              rw [if_pos e1, hgD, i1, i2, e1]; omega
            · have i1 : ind (ul s us k).A.toNat v = 0 := by unfold ind; rw [if_neg (by omega)]
              rw [if_neg e1, hD2, i1]
              by_cases e2 : v = (ul s us k).B.toNat
              · have i2 : ind (ul s us k).B.toNat v = 1 := by unfold ind; rw [if_pos e2.symm]
                rw [if_pos e2, i2, e2]; omega
              · have i2 : ind (ul s us k).B.toNat v = 0 := by unfold ind; rw [if_neg (by omega)]
                rw [if_neg e2, i2]; omega⟩, hUs', by omega, hs.sub (by repeat (first | exact Sub.refl _ | constructor | apply Sub.weaken))⟩ (hs := .cons rfl (.cons rfl (.cons rfl (.cons rfl (.consI rfl hts.symm (.consI rfl (by rw [hbs]) (by repeat (first | exact .nil rfl rfl | refine .cons rfl ?_))))))))
    · rintro fr w ⟨rfl, C, ⟨hC1, hC2⟩, hUs, hTm, hs⟩
      have hlen : us.length ≤ 400 := by omega
      obtain ⟨H1, hle1, hRow, hs⟩ := hs.publish (b := b20) (c := Is C) .here
      have hRC : RI H1 (.slice (some ⟨b20, 0, none⟩) s.n s.n) C := by
        have := Row.RI (xs := C) (spare := []) (by simpa using hRow) s.n (by omega) (by omega)
        rwa [hC1] at this
      have hRT := RI.tail hRC (k := 1) (by have := s.n_pos; omega)
      have hWT := RI.tail (hrw.mono hle1) (k := 1) (by have := s.n_pos; omega)
      have hbd := bound_bd hok hUs
      have heq : C.drop 1 = ws.drop 1 ↔ ∀ v, 1 ≤ v → v < s.n → intoTo s us us.length v = gi ws v := by
        constructor
        · intro h v h1 h2
          rw [← hC2 v h2]
          have := congrArg (fun l => gi l (v - 1)) h
          simpa [gi, List.getD, show 1 + (v - 1) = v by omega, show v - 1 + 1 = v by omega] using this
        · intro h
          refine ext_gi' (by simp [hC1, hwl]) fun k hk => ?_
          have hk' : k + 1 < s.n := by simp at hk; omega
          have := h (k + 1) (by omega) hk'
          rw [← hC2 _ hk'] at this
          simpa [gi, List.getD, Nat.add_comm] using this
      refine nT ?_
      refine .seq (.draw mix rfl hs ?_); intro w hs
      refine .z 0 rfl zm ?_; refine .z 1 rfl zleq ?_; refine .z 2 rfl zm ?_
      refine .bifD (t' := 97) rfl (fun hb97 => ?_) (fun hb97 => ?_)
      · refine .z 3 rfl zm ?_
        refine .p (i := 4) rfl (by kernel_rfl) (.some rfl rfl) (q_sliceLX (k := 1) rfl rfl Tryz.runUnderlying25 Tryz.sizeOf3 rfl (by have := s.n_pos; omega)) ?_
        refine .z 5 rfl zm ?_
        refine .p (i := 6) rfl (by kernel_rfl) (.some rfl rfl) (q_sliceLX (k := 1) rfl rfl Tryz.runUnderlying25 Tryz.sizeOf3 rfl (by have := s.n_pos; omega)) ?_
        refine .e1 (i := 7) (by kernel_rfl) rfl rfl (.some rfl rfl) hs ?_
        refine .call Tryz.call91 rfl (slices_Equal_int hs hRT hWT) ?_; rintro _ w ⟨rfl, hs⟩
        refine .go ?_
        refine .z 8 rfl zpT ?_; refine .z 9 rfl zm ?_
        refine .bif (t' := 104) rfl (fun hb104 => ?_) (fun hb104 => ?_)
        · refine .z 10 rfl zm ?_; refine .z 11 rfl (zfa fa_api_Proof_0) ?_; refine .y 12 rfl hs Tryz.isAgg3 ?_; refine .z 13 rfl zeql ?_; refine .z 14 rfl zpT ?_; refine .z 15 rfl zg ?_; refine .done (by kernel_rfl) hs ?_
          refine .ret (Fin.ret1 Tryz.results159 rfl ?_)
          exact ⟨H1, _, hle1, rfl, by
            first
              | exact ⟨fun h => (by cases h), fun h => (hb97 h.tot).elim⟩
              | exact ⟨fun h => (by cases h), fun h => by have := heq.2 h.into; simp_all⟩
              | (rw [i64wrap (by omega)]
                 have he : C.drop 1 = ws.drop 1 := by simpa using hb104
                 exact ⟨fun h => ⟨hlen, hUs, hb97, heq.1 he, of_decide_eq_true h⟩, fun h => decide_eq_true h.bound⟩), hs.out⟩
        · refine .qF (i := 10) rfl (by kernel_rfl) rfl rfl ?_
          refine .qF (i := 11) rfl (by kernel_rfl) rfl rfl ?_
          refine .qF (i := 12) rfl (by kernel_rfl) rfl rfl ?_
          refine .qF (i := 13) rfl (by kernel_rfl) rfl rfl ?_
          refine .z 14 rfl zpF ?_; refine .z 15 rfl zg ?_; refine .done (by kernel_rfl) hs ?_
          refine .ret (Fin.ret1 Tryz.results159 rfl ?_)
          exact ⟨H1, _, hle1, rfl, by
            first
              | exact ⟨fun h => (by cases h), fun h => (hb97 h.tot).elim⟩
              | exact ⟨fun h => (by cases h), fun h => by have := heq.2 h.into; simp_all⟩
              | (rw [i64wrap (by omega)]
                 have he : C.drop 1 = ws.drop 1 := by simpa using hb104
                 exact ⟨fun h => ⟨hlen, hUs, hb97, heq.1 he, of_decide_eq_true h⟩, fun h => decide_eq_true h.bound⟩), hs.out⟩
      · refine .qF (i := 3) rfl (by kernel_rfl) rfl rfl ?_
        refine .qF (i := 4) rfl (by kernel_rfl) rfl rfl ?_
        refine .qF (i := 5) rfl (by kernel_rfl) rfl rfl ?_
        refine .qF (i := 6) rfl (by kernel_rfl) rfl rfl ?_
        refine .qF (i := 7) rfl (by kernel_rfl) rfl rfl ?_
        refine .z 8 rfl zpF ?_; refine .z 9 rfl zm ?_
        refine .qF (i := 10) rfl (by kernel_rfl) rfl rfl ?_
        refine .qF (i := 11) rfl (by kernel_rfl) rfl rfl ?_
        refine .qF (i := 12) rfl (by kernel_rfl) rfl rfl ?_
        refine .qF (i := 13) rfl (by kernel_rfl) rfl rfl ?_
        refine .z 14 rfl zpF ?_; refine .z 15 rfl zg ?_; refine .done (by kernel_rfl) hs ?_
        refine .ret (Fin.ret1 Tryz.results159 rfl ?_)
        exact ⟨H1, _, hle1, rfl, by
          first
            | exact ⟨fun h => (by cases h), fun h => (hb97 h.tot).elim⟩
            | exact ⟨fun h => (by cases h), fun h => by have := heq.2 h.into; simp_all⟩
            | (rw [i64wrap (by omega)]
               have he : C.drop 1 = ws.drop 1 := by simpa using hb104
               exact ⟨fun h => ⟨hlen, hUs, hb97, heq.1 he, of_decide_eq_true h⟩, fun h => decide_eq_true h.bound⟩), hs.out⟩
theorem bound_CheckProof_spec {H : Heap} {w : World} {σ : List Ent} {v vw vp : Value} {s : Syst} {ws : List Int} {n : Int} {us : List Use} (hs : St H w σ) (hr : RSy H v s) (hrw : RI H vw ws) (hp : RPf H vp n us) :
    Cl Tryz.prog 98 [v, vw, vp] w fun v w' => ∃ H1 e, HLe H H1 ∧ v = I e ∧ ProofR s ws n us e ∧ St H1 w' σ := by
  obtain ⟨u, rfl, hr⟩ := hr
  obtain ⟨al, cl, rfl⟩ := RL.shape hr
  obtain ⟨aw, cw, rfl⟩ := RI.shape hrw
  obtain ⟨uu, rfl, hU⟩ := hp
  obtain ⟨au, cu, rfl⟩ := RU.shape hU
  refine Cl.of Tryz.func98 rfl Tryz.ntmps98 (by simp) (args_cons (k := 0) rfl (args_cons (k := 1) rfl (args_cons (k := 2) rfl (args0)))) ?_
  refine .regSeq ?_
  refine .o (.box hs rfl rfl ?_); intro b3 w hs
  refine .o (.box hs rfl rfl ?_); intro b5 w hs
  refine .z zg (.nil (.seq (.regSeq (.y hs (zls [_, _] Tryz.isAgg24 Tryz.sizeOf24) (.z zm ?_)))))
  refine .o (.call Tryz.call158 rfl (bound_checkWeights_spec (s := s) hs ⟨_, rfl, hr⟩ hrw) ?_); rintro _ w ⟨rfl, hs⟩
  refine .z zg (.nil (.regSeq (.z zm (.z zneq (.nil ?_)))))
  refine (.condN rfl (fun hc12 => ?_) (fun hc12 => ?_))
  · refine .regSeq (.z zm (.z zg (.nil ?_)))
    refine .ret (rT (Fin.ret1 Tryz.results98 rfl ?_))
    exact ⟨H, _, HLe.refl H, rfl, .ask hc12, hs.out⟩
  · refine .skip ?_
    refine nT ?_
    refine .seq (.regSeq (.y hs (zls [_, _] Tryz.isAgg24 Tryz.sizeOf24) (.z zm (.y hs (zls [_, _] Tryz.isAgg63 Tryz.sizeOf63) ?_))))
    have hA : askErr s ws = 0 := by simpa using hc12
    refine .o (.call Tryz.call159 rfl (bound_isProof_spec (s := s) (n := n) (us := us) hs ⟨_, rfl, hr⟩ hrw ⟨_, rfl, hU⟩ hA) ?_); rintro _ w ⟨H1, b, hle1, rfl, hb, hs⟩
    refine .z znot (.nil ?_)
    refine (.cond rfl (fun hc18 => ?_) (fun hc18 => ?_))
    · refine .regSeq (.z zg (.nil ?_))
      refine .ret (rT (Fin.ret1 Tryz.results98 rfl ?_))
      exact ⟨H1, _, hle1, rfl, .bad hA (fun h => by rw [hb.2 h] at hc18; cases hc18), hs.out⟩
    · refine .skip ?_
      refine nT ?_
      refine .regSeq (.z zg (.nil ?_))
      refine .ret (Fin.ret1 Tryz.results98 rfl ?_)
      exact ⟨H1, _, hle1, rfl, .ok hA (hb.1 (by simpa using hc18)), hs.out⟩
end Go.Proofs.YtiiokdeehlfeeaaGreat

namespace Go.Proofs.YtiiokdeehlfeeaaGreat
open Go.MW
inductive CWR (a : Quest) (l : List Prb) (n m : Int) (us : List Use) : Int → Prop
  | ask {e : Int} (h : CPrbR a l e) (he : e ≠ 0) : CWR a l n m us e
  | bad {e : Int} (h : CPrbR a l 0) (h1 : ProofR (dblS a l) (dblW a.ws) m us e) (he : e ≠ 0) : CWR a l n m us 24
  | more (h : CPrbR a l 0) (h1 : ProofR (dblS a l) (dblW a.ws) m us 0) (he : n < m) : CWR a l n m us 94
  | ok (h : CPrbR a l 0) (h1 : ProofR (dblS a l) (dblW a.ws) m us 0) (he : ¬ n < m) : CWR a l n m us 0
theorem CWR.uniq {a : Quest} {l : List Prb} {n m : Int} {us : List Use} {e f : Int} (h : CWR a l n m us e) (g : CWR a l n m us f) : e = f := by
  cases h with
  | ask h he =>
    cases g with
    | ask g _ => exact h.uniq g
    | bad g _ _ => exact (he (h.uniq g)).elim
    | more g _ _ => exact (he (h.uniq g)).elim
    | ok g _ _ => exact (he (h.uniq g)).elim
  | bad h h1 he =>
    cases g with
    | ask g ge => exact (ge (g.uniq h)).elim
    | bad g _ _ => rfl
    | more g g1 _ => exact (he (h1.uniq g1)).elim
    | ok g g1 _ => exact (he (h1.uniq g1)).elim
  | more h h1 he =>
    cases g with
    | ask g ge => exact (ge (g.uniq h)).elim
    | bad g g1 ge => exact (ge (g1.uniq h1)).elim
    | more g _ _ => rfl
    | ok g _ ge => exact (ge he).elim
  | ok h h1 he =>
    cases g with
    | ask g ge => exact (ge (g.uniq h)).elim
    | bad g g1 ge => exact (ge (g1.uniq h1)).elim
    | more g _ ge => exact (he ge).elim
    | ok g _ _ => rfl
theorem probe_told_none {H : Heap} {w : World} {σ : List Ent} {v vl : Value} {a : Quest} {l : List Prb} {R : Int → Prop} {g : Nat} {cap : List Value} (hs : St H w σ) (hr : RAsk H v a) (hp : RPs H vl l) (hc : ∀ args w, (callFunc g args).run Tryz.prog w = .ok (.enter g args) w)
    (hg : ∀ H' w σ', HLe H H' → CPrbR a l 0 → St H' w σ' → Cl Tryz.prog g ([v] ++ cap) w fun u w' => ∃ H'' e, HLe H' H'' ∧ u = .tuple #[.agg #[], I e] ∧ R e ∧ St H'' w' σ') :
    Cl Tryz.prog 89 [v, vl, .func (.func g) #[] cap.toArray] w fun u w' => ∃ H1 e, HLe H H1 ∧ u = .tuple #[.agg #[], I e] ∧ ((CPrbR a l e ∧ e ≠ 0) ∨ (CPrbR a l 0 ∧ R e)) ∧ St H1 w' σ := by
  obtain ⟨ul, uw, rfl, hl, hw⟩ := hr
  refine Cl.of Tryz.func89 rfl Tryz.ntmps89 (by simp) (args_cons (k := 0) rfl (args_cons (k := 1) rfl (args_cons (k := 2) rfl (args0)))) ?_
  refine .regSeq ?_
  refine .o (.box hs rfl rfl ?_); intro b3 w hs
  refine .o (.alloc hs Tryz.zeroValue130 rfl ?_); intro b6 w hs
  refine .z zg (.nil (.seq (.regSeq (.y hs (zls [_, _, _, _] Tryz.isAgg27 Tryz.sizeOf27) (.z zm ?_)))))
  refine .o (.call Tryz.call141 rfl (probe_CheckProbes_spec (a := a) hs ⟨_, _, rfl, hl, hw⟩ hp) ?_); rintro _ w ⟨H1, e, hle1, rfl, hC, hs⟩
  refine .z zg (.nil (.regSeq (.z zm (.z zneq (.nil ?_)))))
  refine (.condN rfl (fun hc14 => ?_) (fun hc14 => ?_))
  · refine .regSeq ?_
    refine .o (.alloc hs Tryz.zeroValue130 rfl ?_); intro b9 w hs
    refine .nil (.regSeq (.y hs (zls [] Tryz.isAgg130 Tryz.sizeOf130) (.z zm ?_)))
    refine .o (.stores (vs := []) hs rfl rfl Tryz.sizeOf130 ?_); intro w hs
    refine .z zg (.nil ?_)
    refine .ret (rT (?_))
    exact Fin.retD [] [] hs fun w hs => ⟨_, results2 Tryz.results89 (rcells (vs := []) hs rfl Tryz.isAgg130 Tryz.sizeOf130) rfl, H1, e, hle1, rfl, .inl ⟨hC, hc14⟩, hs.out⟩
  · refine .skip ?_
    refine nT ?_
    refine .regSeq (.z zm (.y hs (zls [_, _, _, _] Tryz.isAgg27 Tryz.sizeOf27) ?_))
    rw [hc14] at hC
    refine .o (.callG (first := []) rfl rfl hc (hg _ _ _ hle1 hC hs) ?_); rintro _ w ⟨H2, e2, hle2, rfl, hR, hs⟩
    refine .z zex (.z zex ?_)
    refine .o (.stores (vs := []) hs rfl rfl Tryz.sizeOf130 ?_); intro w hs
    refine .z zg (.nil ?_)
    refine .ret ?_
    exact Fin.retD [] [] hs fun w hs => ⟨_, results2 Tryz.results89 (rcells (vs := []) hs rfl Tryz.isAgg130 Tryz.sizeOf130) rfl, H2, e2, hle1.trans hle2, rfl, .inr ⟨hC, hR⟩, hs.out⟩
theorem probe_CheckWorst_1 {H : Heap} {w : World} {σ : List Ent} {v vl vp : Value} {a : Quest} {l : List Prb} {n m : Int} {us : List Use} {bl bp bn : Nat} (hs : St H w σ) (hr : RAsk H v a) (hbl : Row H bl [vl]) (hp : RPs H vl l) (hbp : Row H bp [I m, vp]) (hU : RU H vp us) (hbn : Row H bn [I n]) (hC : CPrbR a l 0) :
    Cl Tryz.prog 97 [v, .pointer (some ⟨bl, 0, none⟩), .pointer (some ⟨bp, 0, none⟩), .pointer (some ⟨bn, 0, none⟩)] w fun u w' => ∃ H'' e, HLe H H'' ∧ u = .tuple #[.agg #[], I e] ∧ CWR a l n m us e ∧ St H'' w' σ := by
  obtain ⟨ul, uw, rfl, hl, hw⟩ := hr
  obtain ⟨al, cpl, rfl⟩ := RPs.shape hp
  obtain ⟨au, cu, rfl⟩ := RU.shape hU
  obtain ⟨hok, hlen, hin⟩ := hC.zero
  have hb0 := hbl.at 0
  refine Cl.of Tryz.func97 rfl Tryz.ntmps97 (by simp) (args_cons (k := 0) rfl (args_cons (k := 1) rfl (args_cons (k := 2) rfl (args_cons (k := 3) rfl (args0))))) ?_
  refine .regSeq ?_
  refine .o (.box hs rfl rfl ?_); intro b4 w hs
  refine .o (.alloc hs Tryz.zeroValue130 rfl ?_); intro b5 w hs
  refine .z zg (.nil (.regSeq (.y hs (zls [_, _, _, _] Tryz.isAgg27 Tryz.sizeOf27) ?_)))
  refine .q hs (q_loadR rfl Tryz.isAgg28 hb0) ?_
  refine .o (.call Tryz.call87 rfl (probe_double_spec (a := a) hs ⟨_, _, rfl, hl, hw⟩ hp hok hlen (fun p h => (hin p h).inn)) ?_); rintro _ w ⟨H1, ul1, uw1, vp, vw, hle1, rfl, hl1, hw1, hvp, hvw, hs⟩
  obtain ⟨al1, cl1, rfl⟩ := RL.shape hl1; obtain ⟨aw1, cw1, rfl⟩ := RI.shape hw1; obtain ⟨ap1, cp1, rfl⟩ := RL.shape hvp; obtain ⟨av1, cv1, rfl⟩ := RI.shape hvw
  have hp0 := (hbp.mono hle1).cells 0 [I m, .slice au us.length cu]
  refine .o (.alloc hs Tryz.zeroValue125 rfl ?_); intro b7 w hs
  refine .o (.stores (vs := [_, _, _, _, _, _, _]) hs rfl rfl Tryz.sizeOf125 ?_); intro w hs
  refine .nil (.seq (.regSeq (.z (zfa fa_probe_doubled_1) (.y hs (zls [_, _] Tryz.isAgg24 Tryz.sizeOf24) (.z (zfa fa_probe_doubled_2) (.y hs (zld Tryz.isAgg25) ?_))))))
  refine .q hs (q_loadsR (vs := [I m, .slice au us.length cu]) rfl Tryz.isAgg63 Tryz.sizeOf63 hp0) ?_
  refine .o (.call Tryz.call98 rfl (bound_CheckProof_spec (s := dblS a l) (n := m) (us := us) hs ⟨_, rfl, hvp⟩ hvw ⟨_, rfl, hU.mono hle1⟩) ?_); rintro _ w ⟨H2, e5, hle2, rfl, hPf, hs⟩
  have hp1 := ((hbp.mono hle1).mono hle2).cells 0 [I m, .slice au us.length cu]
  have hn1 := ((hbn.mono hle1).mono hle2).at 0
  have hle12 := hle1.trans hle2
  refine .z zneq (.nil ?_)
  refine (.condN rfl (fun hc17 => ?_) (fun hc17 => ?_))
  · refine .regSeq (.z (zbd [] bld_struct) ?_)
    refine .o (.stores (vs := []) hs rfl rfl Tryz.sizeOf130 ?_); intro w hs
    refine .z zg (.nil ?_)
    refine .ret (rT (?_))
    exact Fin.retD [] [] hs fun w hs => ⟨_, results2 Tryz.results97 (rcells (vs := []) hs rfl Tryz.isAgg130 Tryz.sizeOf130) rfl, H2, _, hle12, rfl, .bad hC hPf hc17, hs.out⟩
  · refine .skip ?_
    refine nT ?_
    refine .seq (.regSeq (.z (zfa fa_api_Proof_0) ?_))
    refine .q hs (q_loadR rfl Tryz.isAgg3 (hp1.get 0 rfl)) ?_
    refine .q hs (q_loadR rfl Tryz.isAgg3 hn1) ?_
    refine .z zgtr (.nil ?_)
    refine (.condD rfl (fun hc22 => ?_) (fun hc22 => ?_))
    · refine .regSeq (.z (zbd [] bld_struct) ?_)
      refine .o (.stores (vs := []) hs rfl rfl Tryz.sizeOf130 ?_); intro w hs
      refine .z zg (.nil ?_)
      refine .ret (rT (?_))
      exact Fin.retD [] [] hs fun w hs => ⟨_, results2 Tryz.results97 (rcells (vs := []) hs rfl Tryz.isAgg130 Tryz.sizeOf130) rfl, H2, _, hle12, rfl, .more hC (by rw [hc17] at hPf; exact hPf) (by simpa using hc22), hs.out⟩
    · refine .skip ?_
      refine nT ?_
      refine .regSeq (.z (zbd [] bld_struct) ?_)
      refine .o (.stores (vs := []) hs rfl rfl Tryz.sizeOf130 ?_); intro w hs
      refine .z zg (.nil ?_)
      refine .ret ?_
      exact Fin.retD [] [] hs fun w hs => ⟨_, results2 Tryz.results97 (rcells (vs := []) hs rfl Tryz.isAgg130 Tryz.sizeOf130) rfl, H2, _, hle12, rfl, .ok hC (by rw [hc17] at hPf; exact hPf) (by simpa using hc22), hs.out⟩
theorem probe_CheckWorst_spec {H : Heap} {w : World} {σ : List Ent} {v vl vp : Value} {a : Quest} {l : List Prb} {n m : Int} {us : List Use} (hs : St H w σ) (hr : RAsk H v a) (hp : RPs H vl l) (hq : RPf H vp m us) :
    Cl Tryz.prog 37 [v, vl, I n, vp] w fun u w' => ∃ H1 e, HLe H H1 ∧ u = I e ∧ CWR a l n m us e ∧ St H1 w' σ := by
  obtain ⟨ul, uw, rfl, hl, hw⟩ := hr
  obtain ⟨al, cpl, rfl⟩ := RPs.shape hp
  obtain ⟨uu, rfl, hU⟩ := hq
  obtain ⟨au, cu, rfl⟩ := RU.shape hU
  refine Cl.of Tryz.func37 rfl Tryz.ntmps37 (by simp) (args_cons (k := 0) rfl (args_cons (k := 1) rfl (args_cons (k := 2) rfl (args_cons (k := 3) rfl (args0))))) ?_
  refine .regSeq ?_
  refine .o (.box hs rfl rfl ?_); intro b4 w hs
  refine .o (.box hs rfl rfl ?_); intro b5 w hs
  refine .o (.box hs rfl rfl ?_); intro b6 w hs
  refine .o (.box hs rfl rfl ?_); intro b7 w hs
  refine .z zg (.nil (.regSeq (.y hs (zls [_, _, _, _] Tryz.isAgg27 Tryz.sizeOf27) (.y hs (zld Tryz.isAgg28) ?_))))
  refine .q hs (q_makeFunc (f := []) (c := [_, _, _]) rfl rfl) ?_
  obtain ⟨H0, hle0, hb5, hs⟩ := hs.publish (b := b5) (by repeat constructor)
  obtain ⟨H1, hle1, hb6, hs⟩ := hs.publish (b := b6) (by repeat constructor)
  obtain ⟨H2, hle2, hb7, hs⟩ := hs.publish (b := b7) (by repeat constructor)
  have hle02 := hle0.trans (hle1.trans hle2)
  refine .o (.call Tryz.call89 rfl (probe_told_none (R := CWR a l n m us) (a := a) (l := l) (cap := [.pointer (some ⟨b5, 0, none⟩), .pointer (some ⟨b7, 0, none⟩), .pointer (some ⟨b6, 0, none⟩)]) hs ⟨_, _, rfl, hl.mono hle02, hw.mono hle02⟩ (hp.mono hle02) Tryz.call97 ?_) ?_)
  · rintro H' w σ' hle hC hs
    exact probe_CheckWorst_1 (a := a) (l := l) hs ⟨_, _, rfl, (hl.mono hle02).mono hle, (hw.mono hle02).mono hle⟩ ((hb5.mono (hle1.trans hle2)).mono hle) ((hp.mono hle02).mono hle) (hb7.mono hle) ((hU.mono hle02).mono hle) ((hb6.mono hle2).mono hle) hC
  rintro _ w ⟨H3, e, hle3, rfl, hR, hs⟩
  refine .z zm (.z zex (.z zex ?_))
  refine .o (.alloc hs Tryz.zeroValue130 rfl ?_); intro b9 w hs
  refine .o (.stores (vs := []) hs rfl rfl Tryz.sizeOf130 ?_); intro w hs
  refine .z zg (.nil (.regSeq (.z zm (.z zg (.nil ?_)))))
  refine .ret (Fin.ret1 Tryz.results37 rfl ?_)
  exact ⟨H3, e, hle02.trans hle3, rfl, by
    rcases hR with ⟨h1, h2⟩ | ⟨_, h2⟩
    · exact .ask h1 h2
    · exact h2, hs.out⟩
end Go.Proofs.YtiiokdeehlfeeaaGreat

namespace Go.Proofs.YtiiokdeehlfeeaaGreat
open Go.MW
theorem slices_Reverse_int {H : Heap} {w : World} {σ : List Ent} {v : Value} {l : List Int} {en : Ent} (hs : St H w (en :: σ)) (ho : OwnS 1 v (Is l) en) (hl : l.length ≤ 1000000) :
    Cl Tryz.prog 190 [v] w fun _ w' => ∃ en', OwnS 1 v (Is l.reverse) en' ∧ St H w' (en' :: σ) := by
  rcases ho with ⟨a, rfl, h2, rfl⟩ | ⟨b, len, cap, sp, rfl, rfl, h2, h3, h4⟩
  · obtain rfl : l = [] := by
      have := congrArg List.length h2
      exact List.length_eq_zero_iff.1 (by simpa using this)
    have hs := hs.tail
    refine Cl.of Tryz.func190 rfl Tryz.ntmps190 (by simp) (args_cons (k := 0) rfl (args0)) ?_
    refine .regSeq (.z zm (.z (zlen Tryz.runUnderlying25) (.z zsub (.z zg (.z zg (.nil (.block ?_)))))))
    refine .loop (fun _ : Unit => ⟨28, [], [(2, I 0), (3, I (-1))]⟩) (fun _ w => St H w σ) (fun _ => 0) () (by repeat (first | exact .nil rfl rfl | refine .cons rfl ?_)) hs ?_
    rintro _ w hs
    refine .seq (.regSeq (.z zm (.z zm (.z zlss (.nil ?_)))))
    refine (.condD rfl (fun hc9 => ?_) (fun hc9 => ?_))
    · omega
    · refine .exit ?_
      refine xT (xT (xB ?_))
      exact Fin.end0 Tryz.results190 ⟨.nul, .nil 1 a, hs.nul⟩
  obtain rfl : len = l.length := by simpa using h2.symm
  refine Cl.of Tryz.func190 rfl Tryz.ntmps190 (by simp) (args_cons (k := 0) rfl (args0)) ?_
  refine .regSeq (.z zm (.z (zlen Tryz.runUnderlying25) (.z zsub (.z zg (.z zg (.nil (.block ?_)))))))
  refine .loop (fun p : Nat × List Int => ⟨28, [], [(2, I p.1), (3, I ((l.length : Int) - 1 - p.1)), (0, .slice (some ⟨b, 0, none⟩) l.length cap)]⟩) (fun p w => (2 * p.1 ≤ l.length + 1 ∧ TurnedI l p.2 p.1) ∧ St H w (.blk b (Is p.2 ++ sp) :: σ)) (fun p => l.length - p.1) (0, l) (.cons rfl (.consI rfl (by simp) (.cons rfl (.nil rfl rfl)))) ⟨⟨by simp, .start l⟩, hs⟩ ?_
  rintro ⟨i, L⟩ w ⟨⟨h5, h6⟩, hs⟩
  dsimp only at h5 h6 hs ⊢
  have hL := h6.1
  refine .seq (.regSeq (.z zm (.z zm (.z zlss (.nil ?_)))))
  refine (.condD rfl (fun hc9 => ?_) (fun hc9 => ?_))
  · refine .skip ?_
    refine nT ?_
    refine .seq (.block ?_)
    refine .draw mix rfl hs ?_; intro w hs
    refine .z 0 rfl zm ?_; refine .z 1 rfl zm ?_; refine .z 2 rfl zm ?_; refine .z 3 rfl zm ?_; refine .z 4 rfl zm ?_; refine .z 5 rfl zm ?_
    refine .p (i := 6) rfl (by kernel_rfl) .none (q_ixO (k := l.length - 1 - i) rfl rfl Tryz.runUnderlying25 Tryz.sizeOf3 (by omega) (by omega)) ?_
    refine .load (i := 7) hs rfl (by kernel_rfl) .none rfl Tryz.isAgg3 ?_ (hv := Is_gi_sp (by omega) sp)
    refine .z 8 rfl zm ?_; refine .z 9 rfl zm ?_
    first | (refine .ixv 10 rfl hs Tryz.runUnderlying25 Tryz.sizeOf3 ?_; intro b24 o24 hc24) | refine .z 10 rfl (zix Tryz.runUnderlying25 Tryz.sizeOf3) ?_
    refine .load (i := 11) hs rfl (by kernel_rfl) .none rfl Tryz.isAgg3 ?_ (hv := Is_gi_sp (by omega) sp)
    first | (refine .ixv 12 rfl hs Tryz.runUnderlying25 Tryz.sizeOf3 ?_; intro b26 o26 hc26) | refine .z 12 rfl (zix Tryz.runUnderlying25 Tryz.sizeOf3) ?_
    refine .e1 (i := 13) (by kernel_rfl) rfl rfl .none hs ?_
    refine .store hs rfl rfl Tryz.sizeOf3 ?_ (by repeat constructor) (by simp; omega) (Is_set_sp (by omega) sp _); intro w hs
    refine .go ?_
    refine .p (i := 14) rfl (by kernel_rfl) .none (q_ixO (k := l.length - 1 - i) rfl rfl Tryz.runUnderlying25 Tryz.sizeOf3 (by omega) (by omega)) ?_
    refine .e1 (i := 15) (by kernel_rfl) rfl rfl .none hs ?_
    refine .store hs rfl rfl Tryz.sizeOf3 ?_ (by repeat constructor) (by simp; omega) (Is_set_sp (by simp; omega) sp _); intro w hs
    refine .go ?_
    refine .done (by kernel_rfl) hs ?_
    refine nB (nT ?_)
    refine .region (.z zm (.z zadd (.z zm (.z zsub (.z zg (.z zg (.nil ?_)))))))
    refine nT ?_
    exact ⟨(i + 1, _), .cons rfl (.consI rfl (by push_cast; omega) (.cons rfl (.nil rfl rfl))), ⟨⟨by dsimp only; omega, h6.step (by omega)⟩, hs⟩, by dsimp only; omega⟩
  · refine .exit ?_
    refine xT (xT (xB ?_))
    rw [h6.done (by omega)] at hs
    exact Fin.end0 Tryz.results190 ⟨_, .inr ⟨b, l.length, cap, sp, rfl, rfl, by simp, by rw [← h3]; simp, h4⟩, hs⟩
inductive CycR (s : Syst) (xs : List Int) : Int → Prop
  | bad (h : s.check ≠ 0) (h1 : xs = []) : CycR s xs s.check
  | sound (h : s.Ok) (h1 : s.Sound) (h2 : xs = []) : CycR s xs 0
  | chain {st : BS} {x : Arc} {z k : Nat} (h : s.Ok) (h1 : ¬ s.Sound) (h2 : NearR s.n s.arcs st (some x)) (h3 : z = parK st.by_ x.t (s.n + 1)) (h4 : 1 ≤ k) (h5 : k ≤ s.n) (h6 : parK st.by_ z k = z) (h7 : xs = (idxTo st.by_ z k).reverse) : CycR s xs 0
theorem CycR.sound_iff {s : Syst} {xs : List Int} (h : CycR s xs 0) : xs = [] ↔ s.Sound := by
  generalize hz : (0 : Int) = y at h
  cases h with
  | bad h => exact (h hz.symm).elim
  | sound _ h1 h2 => exact ⟨fun _ => h1, fun _ => h2⟩
  | @chain st x z k _ h1 _ _ h4 _ _ h7 => exact ⟨fun h => by
      have := congrArg List.length (h7.symm.trans h)
      rw [List.length_reverse, idxTo_length] at this
      simp at this; omega, fun h => (h1 h).elim⟩
theorem CycR.err {s : Syst} {xs : List Int} {e : Int} (h : CycR s xs e) : e = s.check := by
  cases h with
  | bad => rfl
  | sound h => exact (s.ok_iff.2 h).symm
  | chain h => exact (s.ok_iff.2 h).symm
set_option maxHeartbeats 4000000 in
theorem bound_Cycle_spec {H : Heap} {w : World} {σ : List Ent} {v : Value} {s : Syst} (hs : St H w σ) (hr : RSy H v s) :
    Cl Tryz.prog 153 [v] w fun u w' => ∃ H1 vx xs e, HLe H H1 ∧ u = .tuple #[vx, I e] ∧ RI H1 vx xs ∧ CycR s xs e ∧ St H1 w' σ := by
  obtain ⟨u, rfl, hr⟩ := hr
  obtain ⟨al, cl, rfl⟩ := RL.shape hr
  refine Cl.of Tryz.func153 rfl Tryz.ntmps153 (by simp) (args_cons (k := 0) rfl (args0)) ?_
  refine .regSeq ?_
  refine .o (.box hs rfl rfl ?_); intro b1 w hs
  refine .z zg (.z zg (.nil (.seq (.regSeq (.y hs (zls [_, _] Tryz.isAgg24 Tryz.sizeOf24) ?_)))))
  refine .o (.call Tryz.call113 rfl (bound_Check_spec (s := s) hs ⟨_, rfl, hr⟩) ?_); rintro _ w ⟨rfl, hs⟩
  refine .z zg (.nil (.regSeq (.z zm (.z zneq (.nil ?_)))))
  refine (.condN rfl (fun hc14 => ?_) (fun hc14 => ?_))
  · refine .regSeq (.z zm (.z zg (.z zg (.nil ?_))))
    refine .ret (rT (Fin.ret2 Tryz.results153 rfl rfl ?_))
    exact ⟨H, _, [], _, HLe.refl H, rfl, RS.nil H 1 none 0, .bad hc14 rfl, hs.out⟩
  · refine .skip ?_
    refine nT ?_
    refine .seq (.draw mix rfl hs ?_); intro w hs
    refine .z 0 rfl (zfa fa_api_System_0) ?_; refine .y 1 rfl hs Tryz.isAgg3 ?_; refine .ys 2 rfl hs [_, _] Tryz.isAgg24 Tryz.sizeOf24 ?_
    refine .e1 (i := 3) (by kernel_rfl) rfl rfl .none hs ?_
    have hok : s.Ok := s.ok_iff.1 (by simpa using hc14)
    have hoka := hok.arcs
    have hn : s.n = s.many.toNat + 1 := rfl
    have hm0 := hok.m0
    have hm1 := hok.m1
    refine .call Tryz.call172 rfl (bound_steps_spec (s := s) hs hok ⟨_, rfl, hr⟩) ?_; rintro _ w ⟨H1, b10, hle1, rfl, hit, hs⟩
    refine .go ?_
    refine .e1 (i := 4) (by kernel_rfl) rfl rfl .none hs ?_
    have hnear := bound_nearest_spec (N := s.many.toNat) hs (by omega) (by rw [← hn]; exact hoka) hit Tryz.call196
    rw [Int.toNat_of_nonneg hm0] at hnear
    refine .call Tryz.call171 rfl hnear ?_; rintro _ w ⟨H2, bc, bb, st, ov, vo, hle2, rfl, hov, hnr, hs⟩
    obtain ⟨a', rfl, ha'⟩ := hov.ptr
    refine .go ?_
    refine .z 5 rfl zm ?_; refine .z 6 rfl zex ?_; refine .z 7 rfl zex ?_; refine .z 8 rfl zex ?_; refine .z 9 rfl zg ?_; refine .z 10 rfl zg ?_; refine .z 11 rfl zg ?_; refine .done (by kernel_rfl) hs ?_
    refine .seq (.regSeq (.z zm ?_))
    refine .q hs (q_eqPN rfl rfl Tryz.runUnderlying189) ?_
    refine .nil ?_
    refine (.cond rfl (fun hc26 => ?_) (fun hc26 => ?_))
    · refine .regSeq (.z zg (.z zg (.nil ?_)))
      refine .ret (rT (Fin.ret2 Tryz.results153 rfl rfl ?_))
      exact ⟨H2, _, [], 0, hle1.trans hle2, rfl, RS.nil H2 1 none 0, .sound hok (by
        obtain ⟨r, hN2, hr2⟩ := hnr
        cases ov with
        | none => exact ⟨_, (hN2.sol (by rw [← hn]; exact hoka) (by omega)).1⟩
        | some x => rw [ha'] at hc26; cases hc26) rfl, hs.out⟩
    · refine .skip ?_
      refine nT ?_
      refine .regSeq (.z zm ?_)
      obtain ⟨x, rfl⟩ := OvR.yes ha' hc26
      obtain ⟨b3, e3, hrow⟩ := hov
      cases e3
      have hrowT : cellAt H2 b3 1 = some (I x.t) := hrow.at 1
      have hmn : s.many + 2 = ((s.many.toNat + 2 : Nat) : Int) := by omega
      have hns : ¬ s.Sound := by
        obtain ⟨r, hN2, hr2⟩ := hnr
        exact hN2.none (by rw [← hn]; exact hoka) (by omega) (by have := hr2 (by simp); omega)
      obtain ⟨hlb, hrg, hxt⟩ : st.by_.length = s.many.toNat + 1 ∧ (∀ v < s.many.toNat + 1, (ga st.by_ v).f < s.many.toNat + 1) ∧ x.t < s.many.toNat + 1 := by
        obtain ⟨r, hN2, hr2⟩ := hnr
        exact ⟨hN2.lb, fun v hv => (hN2.rg v hv).1, (hoka.2 x (hN2.ovm x rfl)).2.1⟩
      have hpl := fun k => parK_lt hrg hxt k
      refine .z znc (.z (zfa fa_bound_step_1) ?_)
      refine .q hs (q_loadR rfl Tryz.isAgg3 hrowT) ?_
      refine .z zg (.nil (.seq (.regSeq (.z (zfa fa_api_System_0) (.y hs (zld Tryz.isAgg3) (.z zadd ?_))))))
      rw [hmn]
      refine .z zm (.nil ?_)
      refine .for (N := s.many.toNat + 2) (J := fun k fr w => fr = [(8, I (parK st.by_ x.t k)), (6, .slice (some ⟨bb, 0, none⟩) (s.many.toNat + 1) (s.many.toNat + 1))] ∧ St H2 w (.blk bc (Is st.cost) :: .blk bb (Arcs st.by_) :: .blk b1 [I s.many, .slice al s.lims.length cl] :: σ)) (by omega) ?_ ?_ ?_
      · exact .mk ⟨rfl, hs⟩
      · rintro k fr w hk ⟨rfl, hs⟩
        refine .block (.region (.z zm (.z zm ?_)))
        refine .q hs (q_ixOm (k := parK st.by_ x.t k) rfl rfl Tryz.runUnderlying188 Tryz.sizeOf197 rfl (hpl k)) ?_
        refine .z (zfa fa_bound_step_0) ?_
        refine .q hs (q_load rfl Tryz.isAgg3 (.there .here) (Arcs_get (j := 0) (by rw [hlb]; exact hpl k) (by decide))) ?_
        refine .z zg (.nil ?_)
        refine nB (nT ?_)
        exact .mk ⟨rfl, hs.out⟩
      · rintro fr w ⟨rfl, hs⟩
        obtain ⟨pd, hp1, hp2, hp3⟩ := parK_round hrg hxt (m := s.many.toNat + 2) (by omega)
        have hzl := hpl (s.many.toNat + 2)
        generalize hz : parK st.by_ x.t (s.many.toNat + 2) = z at hp3 hzl ⊢
        have hzk := fun k => parK_lt hrg hzl k
        refine nT ?_
        refine .regSeq (.z zg (.nil (.seq (.regSeq (.z zm (.z zg (.nil (.block ?_))))))))
        refine .loop (fun p : Nat × Value => ⟨62, [], [(9, p.2), (8, I (parK st.by_ z p.1)), (10, I z), (6, .slice (some ⟨bb, 0, none⟩) (s.many.toNat + 1) (s.many.toNat + 1))]⟩)
          (fun p w => p.1 < pd ∧ ∃ en, OwnS 1 p.2 (Is (idxTo st.by_ z p.1)) en ∧ St H2 w (en :: .blk bc (Is st.cost) :: .blk bb (Arcs st.by_) :: .blk b1 [I s.many, .slice al s.lims.length cl] :: σ))
          (fun p => pd - p.1) (0, .slice none 0 0) (by repeat (first | exact .nil rfl rfl | refine .cons rfl ?_))
          ⟨by omega, _, .nil 1 none, hs.nul⟩ ?_
        rintro ⟨k, v9⟩ w ⟨hk, en, hO, hs⟩
        dsimp only at hk hO ⊢
        refine .block (.regSeq (.z zm (.z zm (.z zm ?_))))
        refine .q hs (q_ixOm (k := parK st.by_ z k) rfl rfl Tryz.runUnderlying188 Tryz.sizeOf197 rfl (hzk k)) ?_
        refine .z (zfa fa_bound_step_3) ?_
        refine .q hs (q_load rfl Tryz.isAgg3 (.there (.there .here)) (Arcs_get (j := 3) (by rw [hlb]; exact hzk k) (by decide))) ?_
        refine .o (.buildSlice (cells := [_]) hs bls_sl_int_1 rfl rfl ?_); intro b49 w hs
        refine .o (.append (ys := [I (ga st.by_ (parK st.by_ z k)).l]) hs app_sl_int_int rfl rfl hO (.own .here rfl rfl) (by simp [Value.oneCell']) (fun l' h => by simp [idxTo] at h; omega) ?_); intro v50 en50 w hO2 hs
        refine .z zg (.nil (.regSeq (.z zm (.z zm ?_))))
        refine .q hs (q_ixOm (k := parK st.by_ z k) rfl rfl Tryz.runUnderlying188 Tryz.sizeOf197 rfl (hzk k)) ?_
        refine .z (zfa fa_bound_step_0) ?_
        refine .q hs (q_load rfl Tryz.isAgg3 (by repeat (first | exact .here | refine .there ?_)) (Arcs_get (j := 0) (by rw [hlb]; exact hzk k) (by decide))) ?_
        refine .z zg (.nil (.regSeq (.z zm (.z zm (.z zeql (.nil ?_))))))
        refine (.condD rfl (fun hc58 => ?_) (fun hc58 => ?_))
        · refine .exit ?_
          refine xN (xT (xB (nT ?_)))
          refine .regSeq (.z zm ?_)
          have hO3 : OwnS 1 v50 (Is (idxTo st.by_ z (k + 1))) en50 := by rw [idxTo_succ]; simpa [Is] using hO2
          have hkz : parK st.by_ z (k + 1) = z := by
            have h3 : ((ga st.by_ (parK st.by_ z k)).f : Int) = z := by simpa using hc58
            show (ga st.by_ (parK st.by_ z k)).f = z
            omega
          refine .o (.call Tryz.call190 rfl (slices_Reverse_int hs hO3 (by rw [idxTo_length]; omega)) ?_); rintro _ w ⟨en', hO4, hs⟩
          refine .nil (.regSeq (.z zm (.z zg (.z zg (.nil ?_)))))
          refine .ret (Fin.ret2 Tryz.results153 rfl rfl ?_)
          obtain ⟨H3, hle3, hRI, hs⟩ := OwnS.publishI hO4 (by rw [List.length_reverse, idxTo_length]; omega) hs .here
          exact ⟨H3, _, _, 0, hle1.trans (hle2.trans hle3), rfl, hRI, .chain hok hns (by rw [hn]; exact hnr) (by rw [hn]; exact hz.symm) (by omega) (by omega) hkz rfl, hs.sub (by repeat (first | exact Sub.refl _ | constructor | apply Sub.weaken))⟩
        · refine .skip ?_
          refine nB (nT ?_)
          exact ⟨(k + 1, v50), by repeat (first | exact .nil rfl rfl | refine .cons rfl ?_), ⟨by
            dsimp only
            have : k + 1 ≠ pd := fun e => hc58 (congrArg (Nat.cast : Nat → Int) (show parK st.by_ z (k + 1) = z by rw [e]; exact hp3))
            omega, en50, by rw [idxTo_succ]; simpa [Is] using hO2, hs.sub (by repeat (first | exact Sub.refl _ | constructor | apply Sub.weaken))⟩, by dsimp only; omega⟩
end Go.Proofs.YtiiokdeehlfeeaaGreat

namespace Go.Proofs.YtiiokdeehlfeeaaGreat
open Go.MW
def ROut (H : Heap) (v : Value) (vs : List Int) : Prop := ∃ u, v = .agg #[u] ∧ RI H u vs
theorem ROut.mono {H H' : Heap} {v : Value} {vs : List Int} (h : ROut H v vs) (hl : HLe H H') : ROut H' v vs := by
  obtain ⟨u, h1, h2⟩ := h; exact ⟨u, h1, h2.mono hl⟩
set_option maxHeartbeats 8000000 in
theorem probe_behind_spec {H : Heap} {w : World} {σ : List Ent} {v vl vo : Value} {a : Quest} {l : List Prb} {vs : List Int} (hs : St H w σ) (hr : RAsk H v a) (hp : RPs H vl l) (ho : ROut H vo vs) (hok : AskOk a) (hlen : l.length ≤ 8) (hin : ∀ p ∈ l, PrbOk a p) (hvl : vs.length = l.length) :
    Cl Tryz.prog 78 [v, vl, vo] w fun u w' => ∃ H1 vq S b, HLe H H1 ∧ u = .tuple #[.agg #[I S.many, vq], .bool b] ∧ RL H1 vq S.lims ∧ (b = true ↔ (behS a l vs).Sound) ∧ (b = true → S = behS a l vs) ∧ St H1 w' σ := by
  obtain ⟨ul, uw, rfl, hl, hw⟩ := hr
  obtain ⟨al, cl, rfl⟩ := RL.shape hl
  obtain ⟨aw, cw, rfl⟩ := RI.shape hw
  obtain ⟨ap, cp, rfl⟩ := RPs.shape hp
  obtain ⟨uo, rfl, hvs⟩ := ho
  obtain ⟨ao, co, rfl⟩ := RI.shape hvs
  have hm1 := hok.many
  have hll := hok.lims
  refine Cl.of Tryz.func78 rfl Tryz.ntmps78 (by simp) (args_cons (k := 0) rfl (args_cons (k := 1) rfl (args_cons (k := 2) rfl (args0)))) ?_
  refine .regSeq ?_
  refine .o (.box hs rfl rfl ?_); intro b3 w hs
  refine .o (.box hs rfl rfl ?_); intro b5 w hs
  refine .o (.alloc hs Tryz.zeroValue24 rfl ?_); intro b6 w hs
  refine .z zg (.nil ?_)
  refine .cut (fun fs w => ∃ b8 vq en, FSub fs ⟨99, [], [(8, .pointer (some ⟨b8, 0, none⟩)), (7, .bool false), (6, .pointer (some ⟨b6, 0, none⟩)), (5, .pointer (some ⟨b5, 0, none⟩)), (3, .pointer (some ⟨b3, 0, none⟩)), (1, .slice ap l.length cp)]⟩ ∧ OwnS 4 vq (Lims a.sys.lims) en ∧ St H w (.blk b8 [I a.sys.many, vq] :: en :: .blk b6 [I 0, .slice none 0 0] :: .blk b5 [.slice ao vs.length co] :: .blk b3 [I a.sys.many, .slice al a.sys.lims.length cl, .slice aw a.ws.length cw, I a.width] :: σ)) ?_ ?_
  · refine .draw mix rfl hs ?_; intro w hs
    refine .z 0 rfl (zfa fa_api_Ask_0) ?_; refine .z 1 rfl (zfa fa_api_System_0) ?_; refine .y 2 rfl hs Tryz.isAgg3 ?_; refine .z 3 rfl (zfa fa_api_Ask_0) ?_; refine .z 4 rfl (zfa fa_api_System_1) ?_; refine .y 5 rfl hs Tryz.isAgg22 ?_
    refine .e2 (i := 6) (j := 8) (by kernel_rfl) rfl rfl rfl rfl .none .none hs ?_ ?_
    · refine .call Tryz.call152 rfl (slices_Clone_Lim hs hl (by omega)) ?_; rintro v23 w ⟨en23, hO23, hs⟩
      obtain ⟨a23, l23, c23, rfl, h23⟩ := hO23.shape
      refine .go ?_
      refine .z 7 rfl (zbd [_, _] bld_api_System) ?_
      refine .e1 (i := 8) (by kernel_rfl) rfl rfl .none hs ?_
      refine .alloc hs Tryz.zeroValue24 rfl ?_; intro b8 w hs
      refine .go ?_
      refine .e1 (i := 9) (by kernel_rfl) rfl rfl .none hs ?_
      refine .stores (vs := [_, _]) hs rfl rfl Tryz.sizeOf24 ?_; intro w hs
      refine .go ?_
      refine .done (by kernel_rfl) hs ?_
      exact nT ⟨_, _, _, by repeat (first | exact .nil rfl rfl | refine .cons rfl ?_), hO23, hs.sub (by repeat (first | exact Sub.refl _ | constructor | apply Sub.weaken))⟩
    · refine .alloc hs Tryz.zeroValue24 rfl ?_; intro b8 w hs
      refine .go ?_
      refine .e1 (i := 6) (by kernel_rfl) rfl rfl .none hs ?_
      refine .call Tryz.call152 rfl (slices_Clone_Lim hs hl (by omega)) ?_; rintro v23 w ⟨en23, hO23, hs⟩
      obtain ⟨a23, l23, c23, rfl, h23⟩ := hO23.shape
      refine .go ?_
      refine .z 7 rfl (zbd [_, _] bld_api_System) ?_
      refine .e1 (i := 9) (by kernel_rfl) rfl rfl .none hs ?_
      refine .stores (vs := [_, _]) hs rfl rfl Tryz.sizeOf24 ?_; intro w hs
      refine .go ?_
      refine .done (by kernel_rfl) hs ?_
      exact nT ⟨_, _, _, by repeat (first | exact .nil rfl rfl | refine .cons rfl ?_), hO23, hs.sub (by repeat (first | exact Sub.refl _ | constructor | apply Sub.weaken))⟩
  · rintro fs w ⟨b8, vq0, en0, hfs, hO0, hs⟩
    refine WE.sub ?_ hfs
    refine .seq (.regSeq (.z zm (.z (zlen Tryz.runUnderlying28) (.z zm (.nil ?_)))))
    refine .for (N := l.length) (J := fun k fr w => fr = [(25, .slice ap l.length cp), (8, .pointer (some ⟨b8, 0, none⟩)), (6, .pointer (some ⟨b6, 0, none⟩)), (5, .pointer (some ⟨b5, 0, none⟩)), (3, .pointer (some ⟨b3, 0, none⟩))] ∧   ∃ Hk vq en, HLe H Hk ∧ (∀ i < k, -20000 - (getP l i).t ≤ gi vs i ∧ gi vs i ≤ 20000 + (getP l i).t) ∧ OwnS 4 vq (Lims (a.sys.lims ++ tellTo l vs k)) en ∧   St Hk w (.blk b8 [I a.sys.many, vq] :: en :: .blk b6 [I 0, .slice none 0 0] :: .blk b5 [.slice ao vs.length co] :: .blk b3 [I a.sys.many, .slice al a.sys.lims.length cl, .slice aw a.ws.length cw, I a.width] :: σ)) (by omega) ?_ ?_ ?_
    · exact .mk ⟨rfl, H, vq0, en0, HLe.refl H, fun i hi => by omega, by simpa [tellTo] using hO0, hs⟩
    · rintro k fr w hk ⟨rfl, Hk, vq, en, hlek, hnear, hO, hs⟩
      obtain ⟨avq, lvq, cvq, rfl, hlvq⟩ := hO.shape
      have hx := getP_get hk
      obtain ⟨⟨x1, x2⟩, ⟨x3, x4⟩, lo, hi, hR0, x5, x6⟩ := hin _ (getP_mem hk)
      have hbd := hR0.bd
      refine .block (.regSeq (.z zm ?_))
      refine .ixX (enc := Prb.c) hs (hp.mono hlek) rfl rfl Tryz.runUnderlying28 Tryz.sizeOf54 hx rfl ?_; intro b30 o30 hc30
      refine .q hs (q_loadsR (vs := (getP l k).c) rfl Tryz.isAgg54 Tryz.sizeOf54 hc30) ?_
      refine .o (.alloc hs Tryz.zeroValue54 rfl ?_); intro b10 w hs
      refine .z zg ?_
      refine .o (.stores (vs := (getP l k).c) hs rfl rfl Tryz.sizeOf54 ?_); intro w hs
      refine .nil ?_
      refine .seq (.draw mix rfl hs ?_); intro w hs
      refine .z 0 rfl (zfa fa_api_Ask_0) ?_; refine .ys 1 rfl hs [_, _] Tryz.isAgg24 Tryz.sizeOf24 ?_; refine .ys 2 rfl hs [_, _, _, _] Tryz.isAgg27 Tryz.sizeOf27 ?_; refine .z 3 rfl (zfa fa_api_Probe_0) ?_; refine .y 4 rfl hs Tryz.isAgg3 ?_
      refine .e1 (i := 5) (by kernel_rfl) rfl rfl .none hs ?_
      refine .call Tryz.call74 rfl (probe_one_spec (a := a) (u := (getP l k).u) hs ⟨_, _, rfl, hl.mono hlek, hw.mono hlek⟩ (by omega) (by omega)) ?_; rintro v38 w ⟨H2, hle2, hR1, hs⟩
      obtain ⟨a38, c38, rfl⟩ := RI.shape hR1
      have hlek2 := hlek.trans hle2
      refine .go ?_
      refine .e1 (i := 6) (by kernel_rfl) rfl rfl .none hs ?_
      refine .call Tryz.call73 rfl (bound_Range_spec (s := a.sys) hs ⟨_, rfl, hl.mono hlek2⟩ hR1) ?_; rintro _ w ⟨H3, lo3, hi3, e3, hle3, rfl, hR3, hs⟩
      obtain ⟨rfl, rfl, rfl⟩ := hR3.uniq hR0
      have hlek3 := hlek2.trans hle3
      refine .go ?_
      refine .z 7 rfl zm ?_; refine .z 8 rfl zex ?_; refine .z 9 rfl zex ?_; refine .z 10 rfl zex ?_; refine .z 11 rfl zg ?_; refine .z 12 rfl zg ?_; refine .z 13 rfl zg ?_; refine .done (by kernel_rfl) hs ?_
      refine .regSeq (.z (zfa fa_api_Outcome_0) (.y hs (zld Tryz.isAgg25) (.z zm ?_)))
      refine .ixX (enc := fun x => [I x]) hs (hvs.mono hlek3) rfl rfl Tryz.runUnderlying25 Tryz.sizeOf3 (gi_get (l := vs) (i := k) (by omega)) rfl ?_; intro b46 o46 hc46; replace hc46 := CellsAt.one hc46
      refine .q hs (q_loadR rfl Tryz.isAgg3 hc46) ?_
      refine .z zg (.nil (.seq (.regSeq (.z zm (.z zm (.z (zfa fa_api_Probe_1) (.y hs (zld Tryz.isAgg3) (.z zsub (.z zm ?_)))))))))
      refine .z (zfa fa_api_Probe_1) (.y hs (zld Tryz.isAgg3) (.z zadd ?_))
      refine .o (.call Tryz.call52 rfl (probe_isWithin_spec hs) ?_); rintro _ w ⟨rfl, hs⟩
      refine .z znot (.nil ?_)
      refine (.cond rfl (fun hc58 => ?_) (fun hc58 => ?_))
      · refine .regSeq (.z (zbd [_, _] bld_api_System) ?_)
        refine .o (.stores (vs := [_, _]) hs rfl rfl Tryz.sizeOf24 ?_); intro w hs
        refine .z zg (.nil ?_)
        refine .ret (rT (rB (rT (rB (rT (?_))))))
        have hno : ¬ (behS a l vs).Sound := fun h => by
          have h9 := beh_far hin hk hR0 h
          have h8 := hc58
          rw [decide_eq_true h9] at h8
          first | cases h8 | simp at h8
        exact Fin.retD [] [] hs fun w hs => ⟨_, results2 Tryz.results78 (rcells (vs := [_, _]) hs rfl Tryz.isAgg24 Tryz.sizeOf24) rfl, H3, _, ⟨0, []⟩, false, hlek3, rfl, RS.nil H3 4 none 0, ⟨fun h => (by cases h), fun h => (hno h).elim⟩, fun h => (by cases h), hs.out⟩
      · refine .skip ?_
        refine nT ?_
        refine .region ?_
        have hv := of_decide_eq_true (show decide (lo3 - (getP l k).t ≤ gi vs k ∧ gi vs k ≤ hi3 + (getP l k).t) = true by simpa using hc58)
        refine .z (zfa fa_api_System_1) (.y hs (zld Tryz.isAgg22) (.z (zfa fa_api_Probe_0) (.y hs (zld Tryz.isAgg3) (.z zm (.z (zfa fa_api_Probe_1) (.y hs (zld Tryz.isAgg3) (.z zadd (.z zmin (.z zm ?_)))))))))
        refine .z zadd (.z (zbd [_, _, _, _] bld_api_Limit) (.z (zfa fa_api_Probe_0) (.y hs (zld Tryz.isAgg3) (.z (zfa fa_api_Probe_1) (.y hs (zld Tryz.isAgg3) (.z zm (.z zsub (.z zmin (.z zm ?_)))))))))
        refine .z zadd (.z (zbd [_, _, _, _] bld_api_Limit) ?_)
        refine .o (.buildSlice (cells := Lims (tellL k (getP l k) (gi vs k))) hs bls_sl_api_Limit_2 rfl (by kernel_rfl) ?_); intro b82 w hs
        refine .o (.append (ys := Lims (tellL k (getP l k) (gi vs k))) hs app_sl_api_Limit_api_Limit rfl rfl hO (.own .here rfl rfl) (Lims_cell _) (fun l' h => by rw [Lims_length] at h; simp [tellTo_length] at h; omega) ?_); intro v83 en83 w hO2 hs
        obtain ⟨a83, l83, c83, rfl, h83⟩ := hO2.shape
        refine .z (zfa fa_api_System_1) ?_
        refine .o (.store hs rfl rfl Tryz.sizeOf22 ?_); intro w hs
        refine .nil ?_
        refine nB (nT ?_)
        rw [← Lims_append, List.append_assoc] at hO2
        exact .mk ⟨rfl, H3, _, _, hlek3, fun i hi => by
          by_cases e : i = k
          · subst e; omega
          · exact hnear i (by omega), hO2, hs.sub (by repeat (first | exact Sub.refl _ | constructor | apply Sub.weaken))⟩
    · rintro fr w ⟨rfl, Hk, vq, en, hlek, hnear, hO, hs⟩
      have hbo : (behS a l vs).Ok := behS_ok hok hlen (fun p h => (hin p h).inn) hnear
      have hbl := hbo.len
      obtain ⟨H2, hle2, hRL, hs⟩ := OwnS.publish (m := 4) (cs := (behS a l vs).lims.map Lim.c) hO (fun c hc => by simp only [List.mem_map] at hc; obtain ⟨x, _, rfl⟩ := hc; rfl) (by omega) (by rw [List.length_map]; omega) hs (by repeat constructor)
      obtain ⟨avq, cvq, rfl⟩ := RL.shape hRL
      refine nT ?_
      refine .regSeq (.y hs (zls [_, _] Tryz.isAgg24 Tryz.sizeOf24) ?_)
      refine .o (.call Tryz.call153 rfl (bound_Cycle_spec (s := behS a l vs) hs ⟨_, rfl, hRL⟩) ?_); rintro _ w ⟨H3, vx, xs, e, hle3, rfl, hRx, hCy, hs⟩
      obtain ⟨ax, cx, rfl⟩ := RI.shape hRx
      obtain rfl : e = 0 := by rw [hCy.err]; exact (behS a l vs).ok_iff.2 hbo
      have hiff := hCy.sound_iff
      refine .z zm (.z zex (.z zex (.z zg (.z zg (.nil (.regSeq (.y hs (zls [_, _] Tryz.isAgg24 Tryz.sizeOf24) (.z zm (.z zeql ?_)))))))))
      refine .z zm ?_
      refine .bifD (t' := 94) rfl (fun hb94 => ?_) (fun hb94 => ?_)
      · refine .gT rfl rfl ?_
        refine .z zm ?_
        refine .gT rfl rfl ?_
        refine .z (zlen Tryz.runUnderlying25) ?_
        refine .gT rfl rfl ?_
        refine .z zeql (.z zpT ?_)
        refine .o (.stores (vs := [_, _]) hs rfl rfl Tryz.sizeOf24 ?_); intro w hs
        refine .z zg (.nil ?_)
        refine .ret ?_
        exact Fin.retD [] [] hs fun w hs => ⟨_, results2 Tryz.results78 (rcells (vs := [_, _]) hs rfl Tryz.isAgg24 Tryz.sizeOf24) rfl, H3, _, behS a l vs, _, hlek.trans (hle2.trans hle3), rfl, RS.mono hRL hle3,
          ⟨fun h => hiff.1 (List.length_eq_zero_iff.1 (by have := of_decide_eq_true h; omega)), fun h => decide_eq_true (by rw [hiff.2 h]; rfl)⟩, fun _ => rfl, hs.out⟩
      · refine .gFs 3 3 true rfl rfl rfl ?_
        refine .z zpF ?_
        refine .o (.stores (vs := [_, _]) hs rfl rfl Tryz.sizeOf24 ?_); intro w hs
        refine .z zg (.nil ?_)
        refine .ret ?_
        simp at hb94
end Go.Proofs.YtiiokdeehlfeeaaGreat

namespace Go.Proofs.YtiiokdeehlfeeaaGreat
open Go.MW
inductive COutR (a : Quest) (l : List Prb) (vs : List Int) : Int → Prop
  | ask {e : Int} (h : CPrbR a l e) (he : e ≠ 0) : COutR a l vs e
  | size (h : CPrbR a l 0) (h1 : vs.length ≠ l.length) : COutR a l vs 92
  | ok (h : CPrbR a l 0) (h1 : vs.length = l.length) : COutR a l vs 0
theorem COutR.zero {a : Quest} {l : List Prb} {vs : List Int} (h : COutR a l vs 0) : CPrbR a l 0 ∧ vs.length = l.length := by
  generalize hz : (0 : Int) = y at h
  cases h with
  | ask _ he => exact (he hz.symm).elim
  | size => omega
  | ok h h1 => exact ⟨h, h1⟩
theorem COutR.uniq {a : Quest} {l : List Prb} {vs : List Int} {e f : Int} (h : COutR a l vs e) (g : COutR a l vs f) : e = f := by
  cases h with
  | ask h he =>
    cases g with
    | ask g _ => exact h.uniq g
    | size g _ => exact (he (h.uniq g)).elim
    | ok g _ => exact (he (h.uniq g)).elim
  | size h h1 =>
    cases g with
    | ask g ge => exact (ge (g.uniq h)).elim
    | size => rfl
    | ok _ g1 => exact (h1 g1).elim
  | ok h h1 =>
    cases g with
    | ask g ge => exact (ge (g.uniq h)).elim
    | size _ g1 => exact (g1 h1).elim
    | ok => rfl
inductive AfterR (a : Quest) (l : List Prb) (vs : List Int) : Quest → Int → Prop
  | bad {e : Int} (h : COutR a l vs e) (he : e ≠ 0) : AfterR a l vs ⟨⟨0, []⟩, [], 0⟩ e
  | none (h : COutR a l vs 0) (h1 : ¬ (behS a l vs).Sound) : AfterR a l vs ⟨⟨0, []⟩, [], 0⟩ 92
  | long (h : COutR a l vs 0) (h1 : (behS a l vs).Sound) (h2 : 150 < (behS a l vs).lims.length) : AfterR a l vs ⟨⟨0, []⟩, [], 0⟩ 2
  | ok (h : COutR a l vs 0) (h1 : (behS a l vs).Sound) (h2 : ¬ 150 < (behS a l vs).lims.length) : AfterR a l vs (behQ a l vs) 0
theorem probe_checkOutcome_spec {H : Heap} {w : World} {σ : List Ent} {v vl vo : Value} {a : Quest} {l : List Prb} {vs : List Int} (hs : St H w σ) (hr : RAsk H v a) (hp : RPs H vl l) (ho : ROut H vo vs) :
    Cl Tryz.prog 77 [v, vl, vo] w fun u w' => ∃ H1 e, HLe H H1 ∧ u = I e ∧ COutR a l vs e ∧ St H1 w' σ := by
  obtain ⟨ul, uw, rfl, hl, hw⟩ := hr
  obtain ⟨ap, cp, rfl⟩ := RPs.shape hp
  obtain ⟨uo, rfl, hvs⟩ := ho
  obtain ⟨ao, co, rfl⟩ := RI.shape hvs
  refine Cl.of Tryz.func77 rfl Tryz.ntmps77 (by simp) (args_cons (k := 0) rfl (args_cons (k := 1) rfl (args_cons (k := 2) rfl (args0)))) ?_
  refine .regSeq ?_
  refine .o (.box hs rfl rfl ?_); intro b3 w hs
  refine .o (.box hs rfl rfl ?_); intro b5 w hs
  refine .z zg (.nil (.seq (.regSeq (.y hs (zls [_, _, _, _] Tryz.isAgg27 Tryz.sizeOf27) (.z zm ?_)))))
  refine .o (.call Tryz.call141 rfl (probe_CheckProbes_spec (a := a) hs ⟨_, _, rfl, hl, hw⟩ hp) ?_); rintro _ w ⟨H1, e, hle1, rfl, hC, hs⟩
  refine .z zg (.nil (.regSeq (.z zm (.z zneq (.nil ?_)))))
  refine (.condN rfl (fun hc12 => ?_) (fun hc12 => ?_))
  · refine .regSeq (.z zm (.z zg (.nil ?_)))
    refine .ret (rT (Fin.ret1 Tryz.results77 rfl ?_))
    exact ⟨H1, e, hle1, rfl, .ask hC hc12, hs.out⟩
  · refine .skip ?_
    refine nT ?_
    refine .seq (.regSeq (.z (zfa fa_api_Outcome_0) (.y hs (zld Tryz.isAgg25) ?_)))
    refine .q hs (q_lenR (hvs.mono hle1) rfl Tryz.runUnderlying25) ?_
    refine .z zm ?_
    refine .q hs (q_lenR (RS.mono hp hle1) rfl Tryz.runUnderlying28) ?_
    refine .z zneq (.nil ?_)
    refine (.condN rfl (fun hc19 => ?_) (fun hc19 => ?_))
    · refine .regSeq (.z zg (.nil ?_))
      refine .ret (rT (Fin.ret1 Tryz.results77 rfl ?_))
      exact ⟨H1, 92, hle1, rfl, .size (by rw [hc12] at hC; exact hC) (by have h9 := hc19; simp at h9; omega), hs.out⟩
    · refine .skip ?_
      refine nT ?_
      refine .regSeq (.z zg (.nil ?_))
      refine .ret (Fin.ret1 Tryz.results77 rfl ?_)
      exact ⟨H1, 0, hle1, rfl, .ok (by rw [hc12] at hC; exact hC) (by have h9 := hc19; simp at h9; omega), hs.out⟩
set_option maxHeartbeats 4000000 in
theorem probe_After_spec {H : Heap} {w : World} {σ : List Ent} {v vl vo : Value} {a : Quest} {l : List Prb} {vs : List Int} (hs : St H w σ) (hr : RAsk H v a) (hp : RPs H vl l) (ho : ROut H vo vs) :
    Cl Tryz.prog 27 [v, vl, vo] w fun u w' => ∃ H1 va q e, HLe H H1 ∧ u = .tuple #[va, I e] ∧ RAsk H1 va q ∧ AfterR a l vs q e ∧ St H1 w' σ := by
  obtain ⟨ul, uw, rfl, hl, hw⟩ := hr
  obtain ⟨aw, cw, rfl⟩ := RI.shape hw
  obtain ⟨ap, cp, rfl⟩ := RPs.shape hp
  obtain ⟨uo, rfl, hvs⟩ := ho
  obtain ⟨ao, co, rfl⟩ := RI.shape hvs
  refine Cl.of Tryz.func27 rfl Tryz.ntmps27 (by simp) (args_cons (k := 0) rfl (args_cons (k := 1) rfl (args_cons (k := 2) rfl (args0)))) ?_
  refine .regSeq ?_
  refine .o (.box hs rfl rfl ?_); intro b3 w hs
  refine .o (.box hs rfl rfl ?_); intro b5 w hs
  refine .o (.alloc hs Tryz.zeroValue27 rfl ?_); intro b6 w hs
  refine .z zg (.nil (.seq (.regSeq (.y hs (zls [_, _, _, _] Tryz.isAgg27 Tryz.sizeOf27) (.z zm (.y hs (zls [_] Tryz.isAgg42 Tryz.sizeOf42) ?_))))))
  refine .o (.call Tryz.call77 rfl (probe_checkOutcome_spec (a := a) (l := l) (vs := vs) hs ⟨_, _, rfl, hl, hw⟩ hp ⟨_, rfl, hvs⟩) ?_); rintro _ w ⟨H1, e, hle1, rfl, hC, hs⟩
  refine .z zg (.nil (.regSeq (.z zm (.z zneq (.nil ?_)))))
  refine (.condN rfl (fun hc16 => ?_) (fun hc16 => ?_))
  · refine .regSeq (.z (zbd [_, _, _, _] bld_api_Ask) (.z zm ?_))
    refine .o (.stores (vs := [_, _, _, _]) hs rfl rfl Tryz.sizeOf27 ?_); intro w hs
    refine .z zg (.nil ?_)
    refine .ret (rT (?_))
    exact Fin.retD [] [] hs fun w hs => ⟨_, results2 Tryz.results27 (rcells (vs := [_, _, _, _]) hs rfl Tryz.isAgg27 Tryz.sizeOf27) rfl, H1, _, ⟨⟨0, []⟩, [], 0⟩, e, hle1, rfl, ⟨_, _, rfl, RS.nil H1 4 none 0, RS.nil H1 1 none 0⟩, .bad hC hc16, hs.out⟩
  · refine .skip ?_
    refine nT ?_
    refine .regSeq (.y hs (zls [_, _, _, _] Tryz.isAgg27 Tryz.sizeOf27) (.z zm (.y hs (zls [_] Tryz.isAgg42 Tryz.sizeOf42) ?_)))
    rw [hc16] at hC
    obtain ⟨hC0, hvl⟩ := hC.zero
    obtain ⟨hok, hlen, hin⟩ := hC0.zero
    have hwl := hok.wl
    have hmn := hok.many
    refine .o (.call Tryz.call78 rfl (probe_behind_spec (a := a) (l := l) (vs := vs) hs ⟨_, _, rfl, hl.mono hle1, hw.mono hle1⟩ (hp.mono hle1) ⟨_, rfl, hvs.mono hle1⟩ hok hlen hin hvl) ?_); rintro _ w ⟨H2, vq, S, b, hle2, rfl, hRS, hb, hbS, hs⟩
    obtain ⟨aq, cq, rfl⟩ := RL.shape hRS
    have hle12 := hle1.trans hle2
    refine .z zm (.z zex (.z zex ?_))
    refine .o (.alloc hs Tryz.zeroValue24 rfl ?_); intro b9 w hs
    refine .o (.stores (vs := [_, _]) hs rfl rfl Tryz.sizeOf24 ?_); intro w hs
    refine .z zg (.nil (.seq (.block (.regSeq (.z zm (.z znot (.z zg (.nil ?_))))))))
    refine (.cond rfl (fun hc26 => ?_) (fun hc26 => ?_))
    · refine .regSeq (.z (zbd [_, _, _, _] bld_api_Ask) ?_)
      refine .o (.stores (vs := [_, _, _, _]) hs rfl rfl Tryz.sizeOf27 ?_); intro w hs
      refine .z zg (.nil ?_)
      refine .ret (rB (rT (?_)))
      exact Fin.retD [] [] hs fun w hs => ⟨_, results2 Tryz.results27 (rcells (vs := [_, _, _, _]) hs rfl Tryz.isAgg27 Tryz.sizeOf27) rfl, H2, _, ⟨⟨0, []⟩, [], 0⟩, 92, hle12, rfl, ⟨_, _, rfl, RS.nil H2 4 none 0, RS.nil H2 1 none 0⟩, .none hC (fun h => by simp [hb.2 h] at hc26), hs.out⟩
    · refine .regSeq (.z (zfa fa_api_System_1) (.y hs (zld Tryz.isAgg22) ?_))
      refine .q hs (q_lenR hRS rfl Tryz.runUnderlying22) ?_
      refine .z zgtr (.z zg (.nil ?_))
      refine (.condD rfl (fun hc30 => ?_) (fun hc30 => ?_))
      · refine .regSeq (.z (zbd [_, _, _, _] bld_api_Ask) ?_)
        refine .o (.stores (vs := [_, _, _, _]) hs rfl rfl Tryz.sizeOf27 ?_); intro w hs
        refine .z zg (.nil ?_)
        refine .ret (rB (rT (?_)))
        obtain rfl := hbS (by simpa using hc26)
        exact Fin.retD [] [] hs fun w hs => ⟨_, results2 Tryz.results27 (rcells (vs := [_, _, _, _]) hs rfl Tryz.isAgg27 Tryz.sizeOf27) rfl, H2, _, ⟨⟨0, []⟩, [], 0⟩, 2, hle12, rfl, ⟨_, _, rfl, RS.nil H2 4 none 0, RS.nil H2 1 none 0⟩, .long hC (hb.1 (by simpa using hc26)) (by have h9 := hc30; simp at h9; omega), hs.out⟩
      · refine .skip ?_
        refine nB (nT ?_)
        refine .seq (.draw mix rfl hs ?_); intro w hs
        refine .ys 0 rfl hs [_, _] Tryz.isAgg24 Tryz.sizeOf24 ?_; refine .z 1 rfl (zfa fa_api_Ask_1) ?_; refine .y 2 rfl hs Tryz.isAgg25 ?_; refine .z 4 rfl (zfa fa_api_Ask_2) ?_; refine .y 5 rfl hs Tryz.isAgg3 ?_
        refine .e1 (i := 3) (by kernel_rfl) rfl rfl .none hs ?_
        refine .call Tryz.call81 rfl (slices_Clone_int hs (hw.mono hle12) (by rw [hwl]; simp only [Syst.n]; omega)) ?_; rintro v39 w ⟨en39, hO39, hs⟩
        obtain ⟨H3, hle3, hRW, hs⟩ := OwnS.publishI hO39 (by rw [hwl]; simp only [Syst.n]; omega) hs .here
        obtain ⟨aw9, cw9, rfl⟩ := RI.shape hRW
        refine .go ?_
        refine .z 6 rfl (zbd [_, _, _, _] bld_api_Ask) ?_
        refine .e1 (i := 7) (by kernel_rfl) rfl rfl .none hs ?_
        refine .stores (vs := [_, _, _, _]) hs rfl rfl Tryz.sizeOf27 ?_; intro w hs
        refine .go ?_
        refine .z 8 rfl zg ?_; refine .done (by kernel_rfl) hs ?_
        refine .ret ?_
        obtain rfl := hbS (by simpa using hc26)
        exact Fin.retD [] [] hs fun w hs => ⟨_, results2 Tryz.results27 (rcells (vs := [_, _, _, _]) hs rfl Tryz.isAgg27 Tryz.sizeOf27) rfl, H3, _, behQ a l vs, 0, hle12.trans hle3, rfl, ⟨_, _, rfl, RL.mono hRS hle3, hRW⟩, .ok hC (hb.1 (by simpa using hc26)) (by have h9 := hc30; simp at h9; omega), hs.out⟩
end Go.Proofs.YtiiokdeehlfeeaaGreat

namespace Go.Proofs.YtiiokdeehlfeeaaGreat
open Go.MW
structure KeepsP (s : Syst) (x : List Int) : Prop where
  len : x.length = s.n
  zero : gi x 0 = 0
  free : ∀ v < s.n, -1000000000 ≤ gi x v ∧ gi x v ≤ 1000000000
  feas : Feas s.arcs (gi x)
theorem ref02_Close_spec {H : Heap} {w : World} {σ : List Ent} {v : Value} {s : Syst} (hs : St H w σ) (hr : RSy H v s) :
    Cl Tryz.prog 124 [v] w fun u w' => ∃ H1 vt e, HLe H H1 ∧ u = .tuple #[vt, I e] ∧ ((s.check ≠ 0 ∧ e = s.check ∧ vt = .slice none 0 0) ∨ (s.Ok ∧ ¬ s.Sound ∧ e = 23 ∧ vt = .slice none 0 0) ∨ (s.Ok ∧ s.Sound ∧ e = 0 ∧ ∃ rs, RT H1 vt rs ∧ Sq s.n rs ∧ WaysT s.n s.arcs (gt rs))) ∧ St H1 w' σ := by
  obtain ⟨ul, rfl, hl⟩ := hr
  obtain ⟨al, cl, rfl⟩ := RL.shape hl
  refine Cl.of Tryz.func124 rfl Tryz.ntmps124 (by simp) (args_cons (k := 0) rfl (args0)) ?_
  refine .regSeq ?_
  refine .o (.box hs rfl rfl ?_); intro b1 w hs
  refine .z zg (.z zg (.nil (.regSeq (.y hs (zls [_, _] Tryz.isAgg24 Tryz.sizeOf24) ?_))))
  refine .o (.call Tryz.call117 rfl (ref02_Check_spec (s := s) hs ⟨_, rfl, hl⟩) ?_); rintro _ w ⟨rfl, hs⟩
  refine .z zg (.nil (.seq (.regSeq (.z zm (.z zneq (.nil ?_))))))
  refine (.condN rfl (fun hc9 => ?_) (fun hc9 => ?_))
  · refine .regSeq (.z zm (.z zg (.z zg (.nil ?_))))
    refine .ret (rT (Fin.ret2 Tryz.results124 rfl rfl ?_))
    exact ⟨H, _, _, HLe.refl H, rfl, .inl ⟨hc9, rfl, rfl⟩, hs.out⟩
  · refine .skip ?_
    refine nT ?_
    refine .regSeq (.y hs (zls [_, _] Tryz.isAgg24 Tryz.sizeOf24) ?_)
    have hok : s.Ok := s.ok_iff.1 (by simpa using hc9)
    have hm1 := hok.m1
    refine .o (.call Tryz.call126 rfl (ref02_Ways_spec (s := s) hs ⟨_, rfl, hl⟩ hok) ?_); rintro v12 w ⟨H1, rs, hle1, hRT, hSq, hWT, hs⟩
    obtain ⟨at', ct, rfl⟩ := hRT.shape
    refine .z zg (.nil (.seq (.regSeq (.z zm ?_))))
    refine .o (.call Tryz.call154 rfl (ref02_Sound_spec hs hRT hSq (by simp only [Syst.n]; omega)) ?_); rintro _ w ⟨b, rfl, hb, hs⟩
    have hbs := hb.trans (sound_diag hok hWT).symm
    refine .z znot (.nil ?_)
    refine (.cond rfl (fun hc15 => ?_) (fun hc15 => ?_))
    · refine .regSeq (.z zg (.z zg (.nil ?_)))
      refine .ret (rT (Fin.ret2 Tryz.results124 rfl rfl ?_))
      exact ⟨H1, _, _, hle1, rfl, .inr (.inl ⟨hok, fun h => by simp [hbs.2 h] at hc15, rfl, rfl⟩), hs.out⟩
    · refine .skip ?_
      refine nT ?_
      refine .regSeq (.z zm (.z zg (.z zg (.nil ?_))))
      refine .ret (Fin.ret2 Tryz.results124 rfl rfl ?_)
      exact ⟨H1, _, _, hle1, rfl, .inr (.inr ⟨hok, hbs.1 (by simpa using hc15), rfl, rs, hRT, hSq, hWT⟩), hs.out⟩
end Go.Proofs.YtiiokdeehlfeeaaGreat

namespace Go.Proofs.YtiiokdeehlfeeaaGreat
open Go.MW
inductive CPtR (s : Syst) (x : List Int) : Int → Prop
  | bad (h : s.check ≠ 0) : CPtR s x s.check
  | off (h : s.Ok) (h1 : ¬ KeepsP s x) : CPtR s x 25
  | ok (h : s.Ok) (h1 : KeepsP s x) : CPtR s x 0
theorem CPtR.uniq {s : Syst} {x : List Int} {e f : Int} (h : CPtR s x e) (g : CPtR s x f) : e = f := by
  cases h with
  | bad h =>
    cases g with
    | bad => rfl
    | off g _ => exact (h (s.ok_iff.2 g)).elim
    | ok g _ => exact (h (s.ok_iff.2 g)).elim
  | off h h1 =>
    cases g with
    | bad g => exact (g (s.ok_iff.2 h)).elim
    | off => rfl
    | ok _ g1 => exact (h1 g1).elim
  | ok h h1 =>
    cases g with
    | bad g => exact (g (s.ok_iff.2 h)).elim
    | off _ g1 => exact (g1 h1).elim
    | ok => rfl
end Go.Proofs.YtiiokdeehlfeeaaGreat

namespace Go.Proofs.YtiiokdeehlfeeaaGreat
open Go.MW
set_option maxHeartbeats 4000000 in
theorem ref02_Point_spec {H : Heap} {w : World} {σ : List Ent} {v vp : Value} {s : Syst} {picks : List Int} (hs : St H w σ) (hr : RSy H v s) (hp : RI H vp picks) :
    Cl Tryz.prog 101 [v, vp] w fun u w' => ∃ H1 vx x e, HLe H H1 ∧ u = .tuple #[vx, I e] ∧ RI H1 vx x ∧ PointR s picks x e ∧ St H1 w' σ := by
  obtain ⟨ul, rfl, hl⟩ := hr
  obtain ⟨al, cl, rfl⟩ := RL.shape hl
  obtain ⟨ap, cp, rfl⟩ := RI.shape hp
  refine Cl.of Tryz.func101 rfl Tryz.ntmps101 (by simp) (args_cons (k := 0) rfl (args_cons (k := 1) rfl (args0))) ?_
  refine .regSeq ?_
  refine .o (.box hs rfl rfl ?_); intro b2 w hs
  refine .z zg (.z zg (.nil (.regSeq (.y hs (zls [_, _] Tryz.isAgg24 Tryz.sizeOf24) ?_))))
  refine .o (.call Tryz.call124 rfl (ref02_Close_spec (s := s) hs ⟨_, rfl, hl⟩) ?_); rintro _ w ⟨H1, vt, e, hle1, rfl, hcase, hs⟩
  refine .z zm (.z zex (.z zex (.z zg (.z zg (.nil (.seq (.regSeq (.z zm (.z zneq ?_)))))))))
  refine .nil ?_
  refine (.condN rfl (fun hc20 => ?_) (fun hc20 => ?_))
  · refine .regSeq (.z zm (.z zg (.z zg (.nil ?_))))
    refine .ret (rT (Fin.ret2 Tryz.results101 rfl rfl ?_))
    rcases hcase with ⟨h1, rfl, rfl⟩ | ⟨h1, h2, rfl, rfl⟩ | ⟨_, _, rfl, _⟩
    · exact ⟨H1, _, [], _, hle1, rfl, RS.nil H1 1 none 0, .bad h1, hs.out⟩
    · exact ⟨H1, _, [], _, hle1, rfl, RS.nil H1 1 none 0, .clash h1 h2, hs.out⟩
    · exact (hc20 rfl).elim
  · refine .skip ?_
    refine nT ?_
    refine .regSeq ?_
    subst hc20
    obtain ⟨hok, hsd, rs, hRT, hSq, hWT⟩ : s.Ok ∧ s.Sound ∧ ∃ rs, RT H1 vt rs ∧ Sq s.n rs ∧ WaysT s.n s.arcs (gt rs) := by
      rcases hcase with ⟨h1, h2, _⟩ | ⟨_, _, h2, _⟩ | ⟨h1, h2, _, h3⟩
      · exact (h1 h2.symm).elim
      · omega
      · exact ⟨h1, h2, h3⟩
    obtain ⟨at', ct, rfl⟩ := hRT.shape
    have hTS := hok.tabS hsd hWT
    have hrl := hSq.1
    have hm0 := hok.m0
    have hm1 := hok.m1
    have hnn : (s.n : Int) = s.many + 1 := by simp only [Syst.n]; omega
    refine .o (.buildSlice (cells := [_]) hs bls_sl_int_1 rfl rfl ?_); intro b22 w hs
    refine .z zg (.nil (.seq (.regSeq (.z zg (.nil (.block ?_))))))
    refine .loop (fun p : List Int × Value => ⟨109, [], [(9, I (p.1.length : Int)), (8, p.2), (6, .slice at' rs.length ct), (2, .pointer (some ⟨b2, 0, none⟩)), (1, .slice ap picks.length cp)]⟩)
      (fun p w => PtsR (gt rs) (pickI picks) p.1 ∧ p.1.length ≤ s.n ∧ ∃ en, OwnS 1 p.2 (Is p.1) en ∧ St H1 w (en :: .blk b2 [I s.many, .slice al s.lims.length cl] :: σ))
      (fun p => s.n - p.1.length) ([0], .slice (some ⟨b22, 0, none⟩) 1 1) (by repeat (first | exact .nil rfl rfl | refine .cons rfl ?_))
      ⟨.start, s.n_pos, _, .full (len := 1) rfl, hs⟩ ?_
    rintro ⟨X, v8⟩ w ⟨hP, hXn, en, hO, hs⟩
    dsimp only at hP hXn hO ⊢
    have hI := hP.inv (fun i n hn => pickI_bd picks i hn) hTS hXn
    have hX0 := hI.l0
    have hO1 := hO
    obtain ⟨b, cap, sp, rfl, rfl, hcap⟩ := hO.some hX0
    refine .seq (.regSeq (.z zm (.z (zfa fa_api_System_0) (.y hs (zld Tryz.isAgg3) (.z zleq (.nil ?_))))))
    refine (.condD rfl (fun hc26 => ?_) (fun hc26 => ?_))
    · refine .skip ?_
      refine nT ?_
      refine .seq (.block (.regSeq (.z zg (.nil ?_))))
      have hXl : X.length < s.n := by omega
      refine .regSeq (.z zg (.nil (.seq (.regSeq (.z zm (.z (zlen Tryz.runUnderlying25) (.z zm (.nil ?_))))))))
      refine .for (N := X.length) (J := fun k fr w => ∃ lo hi, fr = [(10, I lo), (11, I hi), (9, I (X.length : Int)), (8, .slice (some ⟨b, 0, none⟩) X.length cap), (6, .slice at' rs.length ct), (2, .pointer (some ⟨b2, 0, none⟩)), (1, .slice ap picks.length cp)] ∧   LoI (gt rs) X X.length k lo ∧ HiI (gt rs) X X.length k hi ∧ St H1 w (.blk b (Is X ++ sp) :: .blk b2 [I s.many, .slice al s.lims.length cl] :: σ)) (by omega) ?_ ?_ ?_
      · exact .mk ⟨_, _, rfl, .start _ _ _, .start _ _ _, hs⟩
      · rintro k fr w hk ⟨lo, hi, rfl, hLo, hHi, hs⟩
        have hXk := hI.bd k hk
        have hr1 : (gr rs X.length).length = s.n := hSq.2 _ hXl
        have hr2 : (gr rs k).length = s.n := hSq.2 _ (by omega)
        have hb1 : gi (gr rs X.length) k ≠ 1000000000 → -1400000 ≤ gi (gr rs X.length) k ∧ gi (gr rs X.length) k ≤ 1400000 := fun h => hTS.bd X.length k hXl (by omega) h
        have hb2 : gi (gr rs k) X.length ≠ 1000000000 → -1400000 ≤ gi (gr rs k) X.length ∧ gi (gr rs k) X.length ≤ 1400000 := fun h => hTS.bd k X.length (by omega) hXl h
        refine .block (.regSeq (.z zm (.z zg (.nil ?_))))
        refine .cut (fun fs w => ∃ lo', FSub fs ⟨109, [], [(10, I lo'), (12, I (k : Int)), (31, I (k : Int)), (30, I (X.length : Int)), (11, I hi), (9, I (X.length : Int)), (8, .slice (some ⟨b, 0, none⟩) X.length cap), (6, .slice at' rs.length ct), (2, .pointer (some ⟨b2, 0, none⟩)), (1, .slice ap picks.length cp)]⟩ ∧ LoI (gt rs) X X.length (k + 1) lo' ∧ St H1 w (.blk b (Is X ++ sp) :: .blk b2 [I s.many, .slice al s.lims.length cl] :: σ)) ?_ ?_
        · refine .regSeq (.z zm (.z zm ?_))
          refine .ixT hs hRT rfl rfl Tryz.runUnderlying29 Tryz.sizeOf25 (show X.length < rs.length by omega) rfl ?_; intro b36 o36 a36 c36 hc36 hR36
          refine .q hs (q_loadR rfl Tryz.isAgg25 hc36) ?_
          refine .z zm ?_
          refine .ixY hs hR36 rfl rfl Tryz.runUnderlying25 Tryz.sizeOf3 (gi_get (l := gr rs X.length) (i := k) (by omega)) rfl ?_; intro b39 o39 hc39
          refine .q hs (q_loadR rfl Tryz.isAgg3 hc39) ?_
          refine .z zneq (.nil ?_)
          refine (.condN rfl (fun hc41 => ?_) (fun hc41 => ?_))
          · refine .draw mix rfl hs ?_; intro w hs
            refine .z 0 rfl zm ?_; refine .z 1 rfl zm ?_; refine .z 2 rfl zm ?_; refine .z 3 rfl (zix Tryz.runUnderlying25 Tryz.sizeOf3) ?_
            refine .load (i := 4) hs rfl (by kernel_rfl) .none rfl Tryz.isAgg3 ?_ (hv := Is_gi_sp hk sp)
            refine .z 5 rfl zm ?_; refine .z 6 rfl zm ?_
            refine .ixT (i := 7) hs rfl (by kernel_rfl) .none hRT rfl rfl Tryz.runUnderlying29 Tryz.sizeOf25 (show X.length < rs.length by omega) rfl ?_; intro b49 o49 a49 c49 hc49 hR49
            refine .r (i := 8) hs rfl (by kernel_rfl) .none (q_loadR rfl Tryz.isAgg25 hc49) ?_
            refine .z 9 rfl zm ?_
            refine .ixX (enc := fun x => [I x]) (i := 10) hs rfl (by kernel_rfl) .none hR49 rfl rfl Tryz.runUnderlying25 Tryz.sizeOf3 (gi_get (l := gr rs X.length) (i := k) (by omega)) rfl ?_; intro b52 o52 hc52; replace hc52 := CellsAt.one hc52
            refine .r (i := 11) hs rfl (by kernel_rfl) .none (q_loadR rfl Tryz.isAgg3 hc52) ?_
            refine .z 12 rfl zsub ?_; refine .z 13 rfl zmax ?_; refine .z 14 rfl zg ?_; refine .done (by kernel_rfl) hs ?_
            refine nT ?_
            exact ⟨_, by repeat (first | exact .nil rfl rfl | refine .cons rfl ?_), hLo.put hc41 (by have := hb1 hc41; have := hXk; have := hTS.n65; show -1000000000 ≤ gi X k - gi (gr rs X.length) k; omega), hs⟩
          · refine .skip ?_
            refine nT ?_
            exact ⟨_, by repeat (first | exact .nil rfl rfl | refine .cons rfl ?_), hLo.skip hc41, hs⟩
        · rintro fs w ⟨lo', hfs, hLo', hs⟩
          refine WE.sub ?_ hfs
          refine .regSeq (.z zm (.z zm ?_))
          refine .ixT hs hRT rfl rfl Tryz.runUnderlying29 Tryz.sizeOf25 (show k < rs.length by omega) rfl ?_; intro b58 o58 a58 c58 hc58 hR58
          refine .q hs (q_loadR rfl Tryz.isAgg25 hc58) ?_
          refine .z zm ?_
          refine .ixY hs hR58 rfl rfl Tryz.runUnderlying25 Tryz.sizeOf3 (gi_get (l := gr rs k) (i := X.length) (by omega)) rfl ?_; intro b61 o61 hc61
          refine .q hs (q_loadR rfl Tryz.isAgg3 hc61) ?_
          refine .z zneq (.nil ?_)
          refine (.condN rfl (fun hc63 => ?_) (fun hc63 => ?_))
          · refine .draw mix rfl hs ?_; intro w hs
            refine .z 0 rfl zm ?_; refine .z 1 rfl zm ?_; refine .z 2 rfl zm ?_; refine .z 3 rfl (zix Tryz.runUnderlying25 Tryz.sizeOf3) ?_
            refine .load (i := 4) hs rfl (by kernel_rfl) .none rfl Tryz.isAgg3 ?_ (hv := Is_gi_sp hk sp)
            refine .z 5 rfl zm ?_; refine .z 6 rfl zm ?_
            refine .ixT (i := 7) hs rfl (by kernel_rfl) .none hRT rfl rfl Tryz.runUnderlying29 Tryz.sizeOf25 (show k < rs.length by omega) rfl ?_; intro b71 o71 a71 c71 hc71 hR71
            refine .r (i := 8) hs rfl (by kernel_rfl) .none (q_loadR rfl Tryz.isAgg25 hc71) ?_
            refine .z 9 rfl zm ?_
            refine .ixX (enc := fun x => [I x]) (i := 10) hs rfl (by kernel_rfl) .none hR71 rfl rfl Tryz.runUnderlying25 Tryz.sizeOf3 (gi_get (l := gr rs k) (i := X.length) (by omega)) rfl ?_; intro b74 o74 hc74; replace hc74 := CellsAt.one hc74
            refine .r (i := 11) hs rfl (by kernel_rfl) .none (q_loadR rfl Tryz.isAgg3 hc74) ?_
            refine .z 12 rfl zadd ?_; refine .z 13 rfl zmin ?_; refine .z 14 rfl zg ?_; refine .done (by kernel_rfl) hs ?_
            refine nB (nT ?_)
            exact .mk ⟨lo', _, rfl, hLo', hHi.put hc63 (by have := hb2 hc63; have := hXk; have := hTS.n65; show gi X k + gi (gr rs k) X.length ≤ 1000000000; omega), hs⟩
          · refine .skip ?_
            refine nB (nT ?_)
            exact .mk ⟨lo', _, rfl, hLo', hHi.skip hc63, hs⟩
      · rintro fr w ⟨lo, hi, rfl, hLo, hHi, hs⟩
        have hlb := hLo.bd hI hTS hXl (Nat.le_refl _)
        have hhb := hHi.bd hI hTS hXl (Nat.le_refl _)
        have hle := hI.le hTS hXl rfl hLo hHi
        simp only [free] at hlb hhb hle
        have hpk := pickI_bd picks ((X.length : Int) - 1) (n := hi - lo + 1)
        refine nT ?_
        refine .regSeq (.z zg (.nil ?_))
        refine .cut (fun fs w => FSub fs ⟨109, [], [(13, I (chooseI lo hi (pickI picks ((X.length : Int) - 1) (hi - lo + 1)))), (9, I (X.length : Int)), (8, .slice (some ⟨b, 0, none⟩) X.length cap), (6, .slice at' rs.length ct), (2, .pointer (some ⟨b2, 0, none⟩)), (1, .slice ap picks.length cp)]⟩ ∧ St H1 w (.blk b (Is X ++ sp) :: .blk b2 [I s.many, .slice al s.lims.length cl] :: σ)) ?_ ?_
        · refine .block (.regSeq (.z zm (.z zneq (.z zm ?_))))
          refine .bifN (t' := 82) rfl (fun hb82 => ?_) (fun hb82 => ?_)
          · refine .gT rfl rfl ?_
            refine .z zm ?_
            refine .gT rfl rfl ?_
            refine .z zneq (.z zpT (.z zg (.nil ?_)))
            refine (.condN rfl (fun hc79 => ?_) (fun hc79 => ?_))
            · refine .region (.z zm (.z zm (.z zm (.z zsub (.z zm (.z zm (.z zsub (.z zadd ?_))))))))
              refine .o (.call Tryz.call160 rfl (ref02_Pick_spec hs (hp.mono hle1) (by omega) (by omega)) ?_); rintro _ w ⟨rfl, hs⟩
              have hq1 : hi ≠ 1000000000 := by simpa using hc79
              have hq2 := hle (by simpa using hb82) hq1
              have hq3 := hpk (by omega)
              refine .z zadd (.z zg (.nil ?_))
              refine nB (nT ?_)
              refine ⟨.consI rfl ?_ (by repeat (first | exact .nil rfl rfl | refine .cons rfl ?_)), hs⟩
              unfold chooseI
              simp only [free] at *
              split <;> (try split) <;> first | rfl | omega | (simp_all; done) | (exfalso; simp_all; omega)
            · refine .regSeq (.z zm (.z zneq (.z zg (.nil ?_))))
              refine (.condN rfl (fun hc96 => ?_) (fun hc96 => ?_))
              · refine .region (.z zm (.z zg (.nil ?_)))
                refine nB (nT ?_)
                refine ⟨.consI rfl ?_ (by repeat (first | exact .nil rfl rfl | refine .cons rfl ?_)), hs⟩
                unfold chooseI
                simp only [free] at *
                split <;> (try split) <;> first | rfl | omega | (simp_all; done) | (exfalso; simp_all; omega)
              · refine .regSeq (.z zm (.z zneq (.z zg (.nil ?_))))
                refine (.condN rfl (fun hc100 => ?_) (fun hc100 => ?_))
                · refine .region (.z zm (.z zg (.nil ?_)))
                  refine nB (nT ?_)
                  refine ⟨.consI rfl ?_ (by repeat (first | exact .nil rfl rfl | refine .cons rfl ?_)), hs⟩
                  unfold chooseI
                  simp only [free] at *
                  split <;> (try split) <;> first | rfl | omega | (simp_all; done) | (exfalso; simp_all; omega)
                · refine .skip ?_
                  refine nB (nT ?_)
                  refine ⟨.consI rfl ?_ (by repeat (first | exact .nil rfl rfl | refine .cons rfl ?_)), hs⟩
                  unfold chooseI
                  simp only [free] at *
                  split <;> (try split) <;> first | rfl | omega | (simp_all; done) | (exfalso; simp_all; omega)
          · refine .gFs 2 2 true rfl rfl rfl ?_
            refine .z zpF (.z zg (.nil ?_))
            refine (.condF rfl rfl ?_)
            refine .regSeq (.z zm (.z zneq (.z zg (.nil ?_))))
            refine (.condN rfl (fun hc96 => ?_) (fun hc96 => ?_))
            · refine .region (.z zm (.z zg (.nil ?_)))
              refine nB (nT ?_)
              refine ⟨.consI rfl ?_ (by repeat (first | exact .nil rfl rfl | refine .cons rfl ?_)), hs⟩
              unfold chooseI
              simp only [free] at *
              split <;> (try split) <;> first | rfl | omega | (simp_all; done) | (exfalso; simp_all; omega)
            · refine .regSeq (.z zm (.z zneq (.z zg (.nil ?_))))
              refine (.condN rfl (fun hc100 => ?_) (fun hc100 => ?_))
              · refine .region (.z zm (.z zg (.nil ?_)))
                refine nB (nT ?_)
                refine ⟨.consI rfl ?_ (by repeat (first | exact .nil rfl rfl | refine .cons rfl ?_)), hs⟩
                unfold chooseI
                simp only [free] at *
                split <;> (try split) <;> first | rfl | omega | (simp_all; done) | (exfalso; simp_all; omega)
              · refine .skip ?_
                refine nB (nT ?_)
                refine ⟨.consI rfl ?_ (by repeat (first | exact .nil rfl rfl | refine .cons rfl ?_)), hs⟩
                unfold chooseI
                simp only [free] at *
                split <;> (try split) <;> first | rfl | omega | (simp_all; done) | (exfalso; simp_all; omega)
        · rintro fs w ⟨hfs, hs⟩
          refine WE.sub ?_ hfs
          refine .region (.z zm (.z zm ?_))
          refine .o (.buildSlice (cells := [_]) hs bls_sl_int_1 rfl rfl ?_); intro b106 w hs
          refine .o (.append (ys := Is [chooseI lo hi (pickI picks ((X.length : Int) - 1) (hi - lo + 1))]) hs app_sl_int_int rfl rfl hO1 (.own .here rfl rfl) (Is_cell _) (fun l' h => by simp at h; have := hTS.n65; omega) ?_); intro v107 en107 w hO2 hs
          rw [← List.map_append] at hO2
          refine .z zg (.nil ?_)
          refine nB (nT ?_)
          refine .region (.z zm (.z zadd (.z zg (.nil ?_))))
          refine nT ?_
          exact ⟨(X ++ [chooseI lo hi (pickI picks ((X.length : Int) - 1) (hi - lo + 1))], v107), .consI rfl (by simp) (by repeat (first | exact .nil rfl rfl | refine .cons rfl ?_)), ⟨hP.snoc hLo hHi, by simp; omega, _, hO2, hs.sub (by repeat (first | exact Sub.refl _ | constructor | apply Sub.weaken))⟩, by simp; omega⟩
    · refine .exit ?_
      refine xT (xT (xB (nT ?_)))
      refine .regSeq (.z zm (.z zg (.z zg (.nil ?_))))
      refine .ret (Fin.ret2 Tryz.results101 rfl rfl ?_)
      obtain ⟨H2, hle2, hRX, hs⟩ := OwnS.publishI hO1 (by have := hTS.n65; omega) hs .here
      exact ⟨H2, _, X, 0, hle1.trans hle2, rfl, hRX, .ok hok hsd ⟨gt rs, hWT, hP, by omega⟩, hs.out⟩
theorem ref09_Hull_spec {H : Heap} {w : World} {σ : List Ent} {v vp : Value} {a : Quest} {picks : List Int} (hs : St H w σ) (hr : RAsk H v a) (hp : RI H vp picks) :
    Cl Tryz.prog 39 [v, vp] w fun u w' => ∃ H1 x e, HLe H H1 ∧ RI H1 u x ∧ PointR a.sys picks x e ∧ St H1 w' σ := by
  obtain ⟨ul, uw, rfl, hl, hw⟩ := hr
  obtain ⟨ap, cp, rfl⟩ := RI.shape hp
  refine Cl.of Tryz.func39 rfl Tryz.ntmps39 (by simp) (args_cons (k := 0) rfl (args_cons (k := 1) rfl (args0))) ?_
  refine .regSeq ?_
  refine .o (.box hs rfl rfl ?_); intro b2 w hs
  refine .z zg (.nil (.regSeq (.z (zfa fa_api_Ask_0) (.y hs (zls [_, _] Tryz.isAgg24 Tryz.sizeOf24) (.z zm ?_)))))
  refine .o (.call Tryz.call101 rfl (ref02_Point_spec (s := a.sys) hs ⟨_, rfl, hl⟩ hp) ?_); rintro _ w ⟨H1, vx, x, e, hle1, rfl, hR, hP, hs⟩
  refine .z zm (.z zex (.z zex (.z zg (.z zg (.nil (.regSeq (.z zm (.z zg (.nil ?_)))))))))
  refine .ret (Fin.ret1 Tryz.results39 rfl ?_)
  exact ⟨H1, x, e, hle1, hR, hP, hs.out⟩
theorem ref09_Told_spec {H : Heap} {w : World} {σ : List Ent} {vl vx vp : Value} {l : List Prb} {x picks : List Int} {n : Int} (hs : St H w σ) (hl : RPs H vl l) (hx : RI H vx x) (hp : RI H vp picks) (hin : ∀ p ∈ l, (1 ≤ p.u ∧ p.u ≤ n) ∧ (0 ≤ p.t ∧ p.t ≤ 1000)) (hxl : n < x.length)
    (hlen : l.length ≤ 1000) (hpl : picks.length ≤ 4611686018427387904) (hxb : ∀ v < x.length, -1000000000 ≤ gi x v ∧ gi x v ≤ 1000000000) :
    Cl Tryz.prog 38 [vl, vx, vp] w fun u w' => ∃ H1, HLe H H1 ∧ ROut H1 u (toldV l x picks l.length) ∧ St H1 w' σ := by
  obtain ⟨al, cl, rfl⟩ := RPs.shape hl
  obtain ⟨ax, cx, rfl⟩ := RI.shape hx
  obtain ⟨ap, cp, rfl⟩ := RI.shape hp
  refine Cl.of Tryz.func38 rfl Tryz.ntmps38 (by simp) (args_cons (k := 0) rfl (args_cons (k := 1) rfl (args_cons (k := 2) rfl (args0)))) ?_
  refine .regSeq ?_
  refine .o (.alloc hs Tryz.zeroValue42 rfl ?_); intro b6 w hs
  refine .nil (.regSeq ?_)
  refine .o (.alloc hs Tryz.zeroValue42 rfl ?_); intro b7 w hs
  refine .nil (.seq (.regSeq (.z zg (.nil (.block ?_)))))
  refine .loop (fun p : Nat => ⟨45, [], [(8, I (p : Int)), (7, .pointer (some ⟨b7, 0, none⟩)), (6, .pointer (some ⟨b6, 0, none⟩)), (0, .slice al l.length cl), (1, .slice ax x.length cx), (2, .slice ap picks.length cp)]⟩)
    (fun p w => p ≤ l.length ∧ ∃ v7 en, OwnS 1 v7 (Is (toldV l x picks p)) en ∧ St H w (en :: .blk b7 [v7] :: .blk b6 [.slice none 0 0] :: σ))
    (fun p => l.length - p) 0 (by repeat (first | exact .nil rfl rfl | refine .cons rfl ?_))
    ⟨by omega, _, _, .nil 1 none, hs.nul⟩ ?_
  rintro k w ⟨hk, v7, en, hO, hs⟩
  obtain ⟨a7, l7, c7, rfl, h7⟩ := hO.shape
  refine .seq (.regSeq (.z zm (.z zm (.z (zlen Tryz.runUnderlying28) (.z zlss (.nil ?_))))))
  refine (.condD rfl (fun hc13 => ?_) (fun hc13 => ?_))
  · refine .skip ?_
    refine nT ?_
    refine .seq (.block (.regSeq ?_))
    have hk' : k < l.length := by omega
    have hg := getP_get hk'
    obtain ⟨⟨u1, u2⟩, t1, t2⟩ := hin _ (getP_mem hk')
    have hbx := hxb (getP l k).u.toNat (by omega)
    have hm1 := Int.emod_nonneg (atI picks k) (b := 2 * (getP l k).t + 1) (by omega)
    have hm2 := Int.emod_lt_of_pos (atI picks k) (b := 2 * (getP l k).t + 1) (by omega)
    refine .z zm (.z zm ?_)
    refine .ixX hs hl rfl rfl Tryz.runUnderlying28 Tryz.sizeOf54 hg rfl ?_; intro b18 o18 hc18
    refine .z (zfa fa_api_Probe_1) ?_
    refine .q hs (q_loadR rfl Tryz.isAgg3 (hc18.get 1 rfl)) ?_
    refine .z zg (.nil ?_)
    refine .draw mix rfl hs ?_; intro w hs
    refine .z 0 rfl (zfa fa_api_Outcome_0) ?_; refine .y 1 rfl hs Tryz.isAgg25 ?_; refine .z 2 rfl zm ?_; refine .z 3 rfl zm ?_; refine .z 4 rfl zm ?_
    refine .ixX (enc := Prb.c) (i := 5) hs rfl (by kernel_rfl) .none hl rfl rfl Tryz.runUnderlying28 Tryz.sizeOf54 hg rfl ?_; intro b26 o26 hc26
    refine .z 6 rfl (zfa fa_api_Probe_0) ?_
    refine .r (i := 7) hs rfl (by kernel_rfl) .none (q_loadR rfl Tryz.isAgg3 (hc26.get 0 rfl)) ?_
    refine .ixX (enc := fun x => [I x]) (i := 8) hs rfl (by kernel_rfl) .none hx rfl rfl Tryz.runUnderlying25 Tryz.sizeOf3 (gi_get (l := x) (i := (getP l k).u.toNat) (by omega)) (by omega) ?_; intro b29 o29 hc29; replace hc29 := CellsAt.one hc29
    refine .r (i := 9) hs rfl (by kernel_rfl) .none (q_loadR rfl Tryz.isAgg3 hc29) ?_
    refine .z 10 rfl zm ?_; refine .z 11 rfl zm ?_; refine .z 13 rfl zm ?_; refine .z 14 rfl zmul ?_; refine .z 15 rfl zadd ?_; refine .z 18 rfl zm ?_
    refine .e1 (i := 12) (by kernel_rfl) rfl rfl .none hs ?_
    refine .call Tryz.call100 rfl (ref09_at_spec hs hp hpl) ?_; rintro _ w ⟨rfl, hs⟩
    refine .go ?_
    refine .e1 (i := 16) (by kernel_rfl) rfl rfl .none hs ?_
    refine .call Tryz.call99 rfl (ref09_mod_spec hs (by omega)) ?_; rintro _ w ⟨rfl, hs⟩
    refine .go ?_
    refine .z 17 rfl zadd ?_; refine .z 19 rfl zsub ?_
    refine .e1 (i := 20) (by kernel_rfl) rfl rfl .none hs ?_
    refine .buildSlice (cells := [I (tell1 x picks k (getP l k))]) hs bls_sl_int_1 rfl rfl ?_; intro b41 w hs
    refine .go ?_
    refine .e1 (i := 21) (by kernel_rfl) rfl rfl .none hs ?_
    refine .append (ys := Is [tell1 x picks k (getP l k)]) hs app_sl_int_int rfl rfl hO (.own .here rfl rfl) (Is_cell _) (fun l' h => by rw [List.length_map, toldV_length] at h; omega) ?_; intro v42 en42 w hO2 hs
    obtain ⟨a42, l42, c42, rfl, h42⟩ := hO2.shape
    refine .go ?_
    refine .z 22 rfl (zfa fa_api_Outcome_0) ?_
    refine .e1 (i := 23) (by kernel_rfl) rfl rfl .none hs ?_
    refine .store hs rfl rfl Tryz.sizeOf25 ?_; intro w hs
    refine .go ?_
    refine .done (by kernel_rfl) hs ?_
    refine nB (nT ?_)
    refine .region (.z zm (.z zadd (.z zg (.nil ?_))))
    refine nT ?_
    rw [← List.map_append, ← toldV_succ] at hO2
    exact ⟨k + 1, .consI rfl (by push_cast; omega) (by repeat (first | exact .nil rfl rfl | refine .cons rfl ?_)), ⟨by omega, _, _, hO2, hs.sub (by repeat (first | exact Sub.refl _ | constructor | apply Sub.weaken))⟩, by omega⟩
  · refine .exit ?_
    refine xT (xT (xB (nT ?_)))
    refine .regSeq (.y hs (zls [_] Tryz.isAgg42 Tryz.sizeOf42) ?_)
    refine .o (.stores (vs := [_]) hs rfl rfl Tryz.sizeOf42 ?_); intro w hs
    refine .nil ?_
    refine .ret ?_
    obtain rfl : k = l.length := by omega
    obtain ⟨H2, hle2, hRV, hs⟩ := OwnS.publishI hO (by rw [toldV_length]; omega) hs (by repeat constructor)
    exact Fin.retD [] [] hs fun w hs => ⟨_, results1 Tryz.results38 (rcells (vs := [_]) hs rfl Tryz.isAgg42 Tryz.sizeOf42), H2, hle2, ⟨_, rfl, hRV⟩, hs.out⟩
end Go.Proofs.YtiiokdeehlfeeaaGreat

namespace Go.Proofs.YtiiokdeehlfeeaaGreat
open Go.MW
def ValR (a : Quest) (p : Prb) (lo hi e : Int) : Prop := (CPrbR a [p] e ∧ e ≠ 0 ∧ lo = 0 ∧ hi = 0) ∨ (CPrbR a [p] 0 ∧ e = 0 ∧ ∃ l h, RangeR a.sys (oneW a.sys.many p.u) l h 0 ∧ lo = l - p.t ∧ hi = h + p.t)
theorem ValR.uniq {a : Quest} {p : Prb} {lo hi e lo' hi' e' : Int} (h : ValR a p lo hi e) (g : ValR a p lo' hi' e') : lo = lo' ∧ hi = hi' ∧ e = e' := by
  rcases h with ⟨h1, h2, h3, h4⟩ | ⟨h1, h2, l, u, h3, h4, h5⟩
  · rcases g with ⟨g1, g2, g3, g4⟩ | ⟨g1, g2, _⟩
    · exact ⟨by omega, by omega, h1.uniq g1⟩
    · exact (h2 (h1.uniq g1)).elim
  · rcases g with ⟨g1, g2, g3, g4⟩ | ⟨g1, g2, l', u', g3, g4, g5⟩
    · exact (g2 (g1.uniq h1)).elim
    · obtain ⟨rfl, rfl, _⟩ := h3.uniq g3
      exact ⟨by omega, by omega, by omega⟩
end Go.Proofs.YtiiokdeehlfeeaaGreat

namespace Go.Proofs.YtiiokdeehlfeeaaGreat
open Go.MW
set_option maxHeartbeats 4000000 in
theorem ref09_Made_spec {H : Heap} {w : World} {σ : List Ent} {cs : List Value} {r : Raw} (hs : St H w σ) (hr : RRawC H cs r) (hin : r.In) :
    Cl Tryz.prog 93 [.agg cs.toArray] w fun u w' => ∃ H1, HLe H H1 ∧ RAsk H1 u (madeQ r) ∧ St H1 w' σ := by
  obtain ⟨vh, vl, vw, rfl, h1, h2, h3⟩ := hr
  obtain ⟨ah, ch, rfl⟩ := RI.shape h1
  obtain ⟨al, cl, e2⟩ := h2.shape
  obtain ⟨aw, cw, rfl⟩ := RI.shape h3
  rw [List.length_map] at e2
  subst e2
  have i1 := hin.hull.1
  have i2 := hin.ws.1
  have i3 := hin.lims
  have eN : 1 + (r.hull.length : Int) % 5 = (mN r : Int) := by unfold mN; omega
  have hN := mN_bd r
  refine Cl.of Tryz.func93 rfl Tryz.ntmps93 (by simp) (args_cons (k := 0) rfl (args0)) ?_
  refine .regSeq ?_
  refine .o (.box hs rfl rfl ?_); intro b1 w hs
  refine .o (.alloc hs Tryz.zeroValue27 rfl ?_); intro b2 w hs
  refine .nil (.regSeq (.z (zfa fa_moorsomref09_Raw_0) (.y hs (zld Tryz.isAgg25) (.z (zlen Tryz.runUnderlying25) ?_))))
  refine .o (.call Tryz.call99 rfl (ref09_mod_spec hs (by decide)) ?_); rintro _ w ⟨rfl, hs⟩
  refine .z zadd ?_
  rw [eN]
  refine .z zg (.nil (.regSeq ?_))
  refine .o (.buildSlice (cells := [_]) hs bls_sl_int_1 rfl rfl ?_); intro b18 w hs
  refine .z zg (.nil (.regSeq (.z (zfa fa_moorsomref09_Raw_3) (.y hs (zld Tryz.isAgg3) ?_))))
  refine .o (.call Tryz.call99 rfl (ref09_mod_spec hs (by decide)) ?_); rintro _ w ⟨rfl, hs⟩
  refine .o (.buildSlice (cells := [_]) hs bls_sl_int_1 rfl rfl ?_); intro b22 w hs
  refine .z (zbd [_, _, _, _] bld_api_Ask) ?_
  refine .o (.alloc hs Tryz.zeroValue27 rfl ?_); intro b5 w hs
  refine .o (.stores (vs := [_, _, _, _]) hs rfl rfl Tryz.sizeOf27 ?_); intro w hs
  refine .nil (.regSeq (.z zm (.z (zfa fa_api_Ask_0) (.z (zfa fa_api_System_0) ?_))))
  refine .o (.store hs rfl rfl Tryz.sizeOf3 ?_); intro w hs
  refine .nil (.seq (.regSeq (.z zg (.nil (.block ?_)))))
  refine .loop (fun p : Nat × Value => ⟨149, [], [(6, I (p.1 : Int)), (4, p.2), (3, I (mN r : Int)), (1, .pointer (some ⟨b1, 0, none⟩)), (2, .pointer (some ⟨b2, 0, none⟩)), (5, .pointer (some ⟨b5, 0, none⟩))]⟩)
    (fun p w => p.1 ≤ mN r ∧ ∃ vl vw en4 enl enw, OwnS 1 p.2 (Is (mHull r p.1)) en4 ∧ OwnS 4 vl (Lims (baseLims r p.1)) enl ∧ OwnS 1 vw (Is (mWs r p.1)) enw ∧
      St H w (.blk b5 [I (mN r : Int), vl, vw, I (r.width % 400)] :: .blk b1 [.slice ah r.hull.length ch, .slice al r.lims.length cl, .slice aw r.ws.length cw, I r.width] :: .blk b2 [I 0, .slice none 0 0, .slice none 0 0, I 0] :: en4 :: enl :: enw :: σ))
    (fun p => mN r - p.1) (0, .slice (some ⟨b18, 0, none⟩) 1 1) (by repeat (first | exact .nil rfl rfl | refine .cons rfl ?_))
    ⟨by omega, _, _, _, _, _, .full rfl, .nil 4 none, .full rfl, hs.nul.sub (by repeat (first | exact Sub.refl _ | constructor | apply Sub.weaken))⟩ ?_
  rintro ⟨k, v4⟩ w ⟨hk, vl, vw, en4, enl, enw, hO4, hOl, hOw, hs⟩
  dsimp only at hk hO4 hOl hOw ⊢
  obtain ⟨a4, l4, c4, rfl, h4⟩ := hO4.shape
  obtain ⟨al2, ll2, cl2, rfl, hl2⟩ := hOl.shape
  obtain ⟨aw2, lw2, cw2, rfl, hw2⟩ := hOw.shape
  refine .seq (.regSeq (.z zm (.z zm (.z zlss (.nil ?_)))))
  refine (.condD rfl (fun hc29 => ?_) (fun hc29 => ?_))
  · refine .skip ?_
    refine nT ?_
    refine .seq (.block (.regSeq (.z (zfa fa_moorsomref09_Raw_0) (.y hs (zld Tryz.isAgg25) (.z zm ?_)))))
    refine .o (.call Tryz.call100 rfl (ref09_at_spec hs h1 (by omega)) ?_); rintro _ w ⟨rfl, hs⟩
    refine .o (.call Tryz.call99 rfl (ref09_mod_spec hs (by decide)) ?_); rintro _ w ⟨rfl, hs⟩
    refine .z zg (.nil (.regSeq (.z zm (.z zm ?_))))
    refine .o (.buildSlice (cells := [_]) hs bls_sl_int_1 rfl rfl ?_); intro b39 w hs
    refine .o (.append (ys := [I (mH r k)]) hs app_sl_int_int rfl rfl hO4 (.own .here rfl rfl) (by simp [Value.oneCell']) (fun l h => by simp [mHull] at h; omega) ?_); intro v40 en40 w hO4' hs
    refine .z zg (.nil (.regSeq (.z (zfa fa_moorsomref09_Raw_0) (.y hs (zld Tryz.isAgg25) (.z zm ?_)))))
    refine .o (.call Tryz.call100 rfl (ref09_at_spec hs h1 (by omega)) ?_); rintro _ w ⟨rfl, hs⟩
    refine .z zquo ?_
    rw [i64wrap (tdiv_bd (atI_in hin.hull.2 k) (by decide))]
    refine .o (.call Tryz.call99 rfl (ref09_mod_spec hs (by decide)) ?_); rintro _ w ⟨rfl, hs⟩
    refine .z zg (.nil (.regSeq (.z (zfa fa_moorsomref09_Raw_0) (.y hs (zld Tryz.isAgg25) (.z zm ?_)))))
    refine .o (.call Tryz.call100 rfl (ref09_at_spec hs h1 (by omega)) ?_); rintro _ w ⟨rfl, hs⟩
    refine .z zquo ?_
    rw [i64wrap (tdiv_bd (atI_in hin.hull.2 k) (by decide))]
    refine .o (.call Tryz.call99 rfl (ref09_mod_spec hs (by decide)) ?_); rintro _ w ⟨rfl, hs⟩
    refine .z zg (.nil (.regSeq (.z (zfa fa_api_Ask_0) (.z (zfa fa_api_System_1) (.y hs (zld Tryz.isAgg22) (.z zm (.z zadd (.z zm (.z zm ?_)))))))))
    refine .z zadd (.z zm (.z zadd (.z (zbd [_, _, _, _] bld_api_Limit) (.z zm (.z zadd (.z zm (.z zm (.z zsub (.z zm ?_)))))))))
    refine .z zadd (.z (zbd [_, _, _, _] bld_api_Limit) ?_)
    refine .o (.buildSlice (cells := Lims (baseOne r k)) hs bls_sl_api_Limit_2 rfl (by kernel_rfl) ?_); intro b72 w hs
    refine .o (.append (ys := Lims (baseOne r k)) hs app_sl_api_Limit_api_Limit rfl rfl hOl (.own .here rfl rfl) (Lims_cell _) (fun l h => by rw [Lims_length, baseLims_length] at h; omega) ?_); intro v73 en73 w hOl' hs
    obtain ⟨a73, l73, c73, rfl, h73⟩ := hOl'.shape
    refine .z (zfa fa_api_Ask_0) (.z (zfa fa_api_System_1) ?_)
    refine .o (.store hs rfl rfl Tryz.sizeOf22 ?_); intro w hs
    refine .nil ?_
    refine .draw mix rfl hs ?_; intro w hs
    refine .z 0 rfl (zfa fa_api_Ask_1) ?_; refine .y 1 rfl hs Tryz.isAgg25 ?_; refine .z 2 rfl (zfa fa_moorsomref09_Raw_2) ?_; refine .y 3 rfl hs Tryz.isAgg25 ?_; refine .z 4 rfl zm ?_
    refine .e1 (i := 5) (by kernel_rfl) rfl rfl .none hs ?_
    refine .call Tryz.call100 rfl (ref09_at_spec hs h3 (by omega)) ?_; rintro _ w ⟨rfl, hs⟩
    refine .go ?_
    refine .e1 (i := 6) (by kernel_rfl) rfl rfl .none hs ?_
    refine .call Tryz.call99 rfl (ref09_mod_spec hs (by decide)) ?_; rintro _ w ⟨rfl, hs⟩
    refine .go ?_
    have hb0 := Int.emod_nonneg (atI r.ws (k : Int)) (b := 13) (by decide)
    have hb1 := Int.emod_lt_of_pos (atI r.ws (k : Int)) (b := 13) (by decide)
    refine .z 7 rfl zsub ?_
    refine .e1 (i := 8) (by kernel_rfl) rfl rfl .none hs ?_
    refine .buildSlice (cells := [_]) hs bls_sl_int_1 rfl rfl ?_; intro b84 w hs
    refine .go ?_
    refine .e1 (i := 9) (by kernel_rfl) rfl rfl .none hs ?_
    refine .append (ys := [I (atI r.ws (k : Int) % 13 - 4)]) hs app_sl_int_int rfl rfl hOw (.own .here rfl rfl) (by simp [Value.oneCell']) (fun l h => by simp [mWs] at h; omega) ?_; intro v85 en85 w hOw' hs
    obtain ⟨a85, l85, c85, rfl, h85⟩ := hOw'.shape
    refine .go ?_
    refine .z 10 rfl (zfa fa_api_Ask_1) ?_
    refine .e1 (i := 11) (by kernel_rfl) rfl rfl .none hs ?_
    refine .store hs rfl rfl Tryz.sizeOf25 ?_; intro w hs
    refine .go ?_
    refine .done (by kernel_rfl) hs ?_
    refine nB (nT ?_)
    refine .region (.z zm (.z zadd (.z zg (.nil ?_))))
    refine nT ?_
    have e4 : Is (mHull r k) ++ [I (mH r k)] = Is (mHull r (k + 1)) := by rw [mHull_snoc]; simp [Is]
    have ew : Is (mWs r k) ++ [I (atI r.ws (k : Int) % 13 - 4)] = Is (mWs r (k + 1)) := by rw [mWs_snoc]; simp [Is]
    rw [e4] at hO4'; rw [ew] at hOw'; rw [← Lims_append] at hOl'
    exact ⟨(k + 1, v40), .consI rfl (by push_cast; omega) (by repeat (first | exact .nil rfl rfl | refine .cons rfl ?_)), ⟨by dsimp only; omega, _, _, _, _, _, hO4', hOl', hOw', hs.sub (by repeat (first | exact Sub.refl _ | constructor | apply Sub.weaken))⟩, by dsimp only; omega⟩
  · refine .exit ?_
    refine xT (xT (xB (nT ?_)))
    refine .seq (.regSeq (.z zg (.nil (.block ?_))))
    obtain rfl : k = mN r := by omega
    obtain ⟨H1, hle1, hRh, hs⟩ := hO4.publishI (by rw [mHull_length]; omega) hs (by repeat constructor)
    refine .loop (fun k : Nat => ⟨149, [], [(10, I (k : Int)), (4, .slice a4 l4 c4), (3, I (mN r : Int)), (1, .pointer (some ⟨b1, 0, none⟩)), (2, .pointer (some ⟨b2, 0, none⟩)), (5, .pointer (some ⟨b5, 0, none⟩))]⟩)
      (fun k w => k ≤ min r.lims.length 8 ∧ ∃ vl enl, OwnS 4 vl (Lims (baseLims r (mN r) ++ moreLims r k)) enl ∧
        St H1 w (.blk b5 [I (mN r : Int), vl, .slice aw2 lw2 cw2, I (r.width % 400)] :: .blk b1 [.slice ah r.hull.length ch, .slice al r.lims.length cl, .slice aw r.ws.length cw, I r.width] :: .blk b2 [I 0, .slice none 0 0, .slice none 0 0, I 0] :: enl :: enw :: σ))
      (fun k => 8 - k) 0 (by repeat (first | exact .nil rfl rfl | refine .cons rfl ?_))
      ⟨by omega, _, _, by simpa [moreLims] using hOl, hs.sub (by repeat (first | exact Sub.refl _ | constructor | apply Sub.weaken))⟩ ?_
    rintro k w ⟨hk, vl, enl, hOl, hs⟩
    obtain ⟨al2, ll2, cl2, rfl, hl2⟩ := hOl.shape
    have h2' := h2.mono hle1
    refine .seq (.regSeq (.z zm (.z (zfa fa_moorsomref09_Raw_1) (.y hs (zld Tryz.isAgg73) (.z (zlen Tryz.runUnderlying73) (.z zlss (.z zm ?_)))))))
    refine .bifD (t' := 92) rfl (fun hb92 => ?_) (fun hb92 => ?_)
    · refine .gT rfl rfl ?_
      refine .z zm ?_
      refine .gT rfl rfl ?_
      refine .z zlss (.z zpT (.nil ?_))
      refine (.condD rfl (fun hc95 => ?_) (fun hc95 => ?_))
      · refine .skip ?_
        refine nT ?_
        refine .seq (.block (.regSeq (.z (zfa fa_moorsomref09_Raw_1) (.y hs (zld Tryz.isAgg73) (.z zm ?_)))))
        obtain ⟨x, hx⟩ := nth (l := r.lims) (k := k) (by omega)
        refine .ixX (enc := Tri.v) hs h2' rfl rfl Tryz.runUnderlying73 Tryz.sizeOf179 hx rfl ?_; intro b101 o101 hc101
        first | refine .q hs (q_ixA0 (k := 0) rfl rfl Tryz.runUnderlying179 Tryz.sizeOf3 rfl (by decide)) ?_ | refine .q hs (q_ixA (k := 0) rfl rfl Tryz.runUnderlying179 Tryz.sizeOf3 rfl (by decide)) ?_
        refine .q hs (q_loadR rfl Tryz.isAgg3 (hc101.get 0 rfl)) ?_
        refine .z zm (.z zadd ?_)
        refine .o (.call Tryz.call99 rfl (ref09_mod_spec hs (by omega)) ?_); rintro _ w ⟨rfl, hs⟩
        refine .z zg (.nil (.regSeq (.z (zfa fa_moorsomref09_Raw_1) (.y hs (zld Tryz.isAgg73) (.z zm ?_)))))
        refine .ixX (enc := Tri.v) hs h2' rfl rfl Tryz.runUnderlying73 Tryz.sizeOf179 hx rfl ?_; intro b110 o110 hc110
        first | refine .q hs (q_ixA0 (k := 1) rfl rfl Tryz.runUnderlying179 Tryz.sizeOf3 rfl (by decide)) ?_ | refine .q hs (q_ixA (k := 1) rfl rfl Tryz.runUnderlying179 Tryz.sizeOf3 rfl (by decide)) ?_
        refine .q hs (q_loadR rfl Tryz.isAgg3 (hc110.get 1 rfl)) ?_
        refine .z zm (.z zadd ?_)
        refine .o (.call Tryz.call99 rfl (ref09_mod_spec hs (by omega)) ?_); rintro _ w ⟨rfl, hs⟩
        have xa0 := Int.emod_nonneg x.a (b := (mN r : Int) + 1) (by omega)
        have xa1 := Int.emod_lt_of_pos x.a (b := (mN r : Int) + 1) (by omega)
        have xb0 := Int.emod_nonneg x.b (b := (mN r : Int) + 1) (by omega)
        have xb1 := Int.emod_lt_of_pos x.b (b := (mN r : Int) + 1) (by omega)
        have xc0 := Int.emod_nonneg x.c (b := 25) (by decide)
        have xc1 := Int.emod_lt_of_pos x.c (b := 25) (by decide)
        have hha := mHull_bd r (mN r) (x.a % ((mN r : Int) + 1)).toNat
        have hhb := mHull_bd r (mN r) (x.b % ((mN r : Int) + 1)).toNat
        refine .z zg (.nil (.regSeq (.z zm (.z zm (.z zneq (.nil ?_))))))
        refine (.condN rfl (fun hc118 => ?_) (fun hc118 => ?_))
        · refine .draw mix rfl hs ?_; intro w hs
          refine .z 0 rfl (zfa fa_api_Ask_0) ?_; refine .z 1 rfl (zfa fa_api_System_1) ?_; refine .y 2 rfl hs Tryz.isAgg22 ?_; refine .z 3 rfl zm ?_; refine .z 4 rfl zm ?_; refine .z 5 rfl zm ?_; refine .z 6 rfl zm ?_
          refine .ixX (enc := fun x => [I x]) (i := 7) hs rfl (by kernel_rfl) .none hRh rfl rfl Tryz.runUnderlying25 Tryz.sizeOf3 (gi_get (l := mHull r (mN r)) (i := (x.b % ((mN r : Int) + 1)).toNat) (by rw [mHull_length]; omega)) (by omega) ?_; intro b126 o126 hc126; replace hc126 := CellsAt.one hc126
          refine .r (i := 8) hs rfl (by kernel_rfl) .none (q_loadR rfl Tryz.isAgg3 hc126) ?_
          refine .z 9 rfl zm ?_; refine .z 10 rfl zm ?_
          refine .ixX (enc := fun x => [I x]) (i := 11) hs rfl (by kernel_rfl) .none hRh rfl rfl Tryz.runUnderlying25 Tryz.sizeOf3 (gi_get (l := mHull r (mN r)) (i := (x.a % ((mN r : Int) + 1)).toNat) (by rw [mHull_length]; omega)) (by omega) ?_; intro b130 o130 hc130; replace hc130 := CellsAt.one hc130
          refine .r (i := 12) hs rfl (by kernel_rfl) .none (q_loadR rfl Tryz.isAgg3 hc130) ?_
          refine .z 13 rfl zsub ?_; refine .z 14 rfl (zfa fa_moorsomref09_Raw_1) ?_; refine .y 15 rfl hs Tryz.isAgg73 ?_; refine .z 16 rfl zm ?_
          refine .ixX (enc := Tri.v) (i := 17) hs rfl (by kernel_rfl) .none h2' rfl rfl Tryz.runUnderlying73 Tryz.sizeOf179 hx rfl ?_; intro b136 o136 hc136
          first | refine .p (i := 18) rfl (by kernel_rfl) .none (q_ixA0 (k := 2) rfl rfl Tryz.runUnderlying179 Tryz.sizeOf3 rfl (by decide)) ?_ | refine .p (i := 18) rfl (by kernel_rfl) .none (q_ixA (k := 2) rfl rfl Tryz.runUnderlying179 Tryz.sizeOf3 rfl (by decide)) ?_
          refine .r (i := 19) hs rfl (by kernel_rfl) .none (q_loadR rfl Tryz.isAgg3 (hc136.get 2 rfl)) ?_
          refine .z 22 rfl zm ?_; refine .z 23 rfl zadd ?_
          refine .e1 (i := 20) (by kernel_rfl) rfl rfl .none hs ?_
          refine .call Tryz.call99 rfl (ref09_mod_spec hs (by decide)) ?_; rintro _ w ⟨rfl, hs⟩
          refine .go ?_
          refine .z 21 rfl zadd ?_; refine .z 24 rfl (zbd [_, _, _, _] bld_api_Limit) ?_
          refine .e1 (i := 25) (by kernel_rfl) rfl rfl .none hs ?_
          refine .buildSlice (cells := Lim.c ⟨x.a % ((mN r : Int) + 1), x.b % ((mN r : Int) + 1), gi (mHull r (mN r)) (x.b % ((mN r : Int) + 1)).toNat - gi (mHull r (mN r)) (x.a % ((mN r : Int) + 1)).toNat + x.c % 25, 20 + k⟩) hs bls_sl_api_Limit_1 rfl rfl ?_; intro b144 w hs
          refine .go ?_
          refine .e1 (i := 26) (by kernel_rfl) rfl rfl .none hs ?_
          refine .append (ys := Lim.c ⟨x.a % ((mN r : Int) + 1), x.b % ((mN r : Int) + 1), gi (mHull r (mN r)) (x.b % ((mN r : Int) + 1)).toNat - gi (mHull r (mN r)) (x.a % ((mN r : Int) + 1)).toNat + x.c % 25, 20 + k⟩) hs app_sl_api_Limit_api_Limit rfl rfl hOl (.own .here rfl rfl) (by simp [Lim.c, Value.oneCell']) (fun l h => by have := moreLims_length r k; rw [Lims_length, List.length_append, baseLims_length] at h; omega) ?_; intro v145 en145 w hOl' hs
          obtain ⟨a145, l145, c145, rfl, h145⟩ := hOl'.shape
          refine .go ?_
          refine .z 27 rfl (zfa fa_api_Ask_0) ?_; refine .z 28 rfl (zfa fa_api_System_1) ?_
          refine .e1 (i := 29) (by kernel_rfl) rfl rfl .none hs ?_
          refine .store hs rfl rfl Tryz.sizeOf22 ?_; intro w hs
          refine .go ?_
          refine .done (by kernel_rfl) hs ?_
          refine nB (nT ?_)
          refine .region (.z zm (.z zadd (.z zg (.nil ?_))))
          refine nT ?_
          rw [← Lims_one, ← Lims_append, List.append_assoc, show moreLims r k ++ [_] = moreLims r (k + 1) by rw [moreLims_succ hx]; unfold moreOne; rw [if_neg hc118]] at hOl'
          exact ⟨k + 1, .consI rfl (by push_cast; omega) (by repeat (first | exact .nil rfl rfl | refine .cons rfl ?_)), ⟨by omega, _, _, hOl', hs.sub (by repeat (first | exact Sub.refl _ | constructor | apply Sub.weaken))⟩, by omega⟩
        · refine .skip ?_
          refine nB (nT ?_)
          refine .region (.z zm (.z zadd (.z zg (.nil ?_))))
          refine nT ?_
          rw [show moreLims r k = moreLims r (k + 1) by rw [moreLims_succ hx]; unfold moreOne; rw [if_pos hc118]; simp] at hOl
          exact ⟨k + 1, .consI rfl (by push_cast; omega) (by repeat (first | exact .nil rfl rfl | refine .cons rfl ?_)), ⟨by omega, _, _, hOl, hs.sub (by repeat (first | exact Sub.refl _ | constructor | apply Sub.weaken))⟩, by omega⟩
      · refine .exit ?_
        refine xT (xT (xB (nT ?_)))
        refine .regSeq (.y hs (zls [_, _, _, _] Tryz.isAgg27 Tryz.sizeOf27) ?_)
        refine .o (.stores (vs := [_, _, _, _]) hs rfl rfl Tryz.sizeOf27 ?_); intro w hs
        refine .nil ?_
        refine .ret ?_
        obtain rfl : k = min r.lims.length 8 := by omega
        obtain ⟨H2, g1, g2, hs⟩ := OwnS.publish (cs := (madeQ r).sys.lims.map Lim.c) hOl (fun c hc => by simp only [List.mem_map] at hc; obtain ⟨x, _, rfl⟩ := hc; rfl) (by omega) (by have := (madeQ_made r).lims; rw [List.length_map]; omega) hs (by repeat constructor)
        obtain ⟨H3, g3, g4, hs⟩ := hOw.publishI (by rw [mWs_length]; omega) hs (by repeat constructor)
        exact Fin.retD [] [] hs fun w hs => ⟨_, results1 Tryz.results93 (rcells (vs := [_, _, _, _]) hs rfl Tryz.isAgg27 Tryz.sizeOf27), H3, hle1.trans (g1.trans g3), ⟨_, _, rfl, RS.mono g2 g3, g4⟩, hs.out⟩
    · refine .gFs 2 5 true rfl rfl rfl ?_
      refine .z zpF (.nil ?_)
      refine (.condF rfl rfl ?_)
      refine .exit ?_
      refine xT (xT (xB (nT ?_)))
      refine .regSeq (.y hs (zls [_, _, _, _] Tryz.isAgg27 Tryz.sizeOf27) ?_)
      refine .o (.stores (vs := [_, _, _, _]) hs rfl rfl Tryz.sizeOf27 ?_); intro w hs
      refine .nil ?_
      refine .ret ?_
      obtain rfl : k = min r.lims.length 8 := by omega
      obtain ⟨H2, g1, g2, hs⟩ := OwnS.publish (cs := (madeQ r).sys.lims.map Lim.c) hOl (fun c hc => by simp only [List.mem_map] at hc; obtain ⟨x, _, rfl⟩ := hc; rfl) (by omega) (by have := (madeQ_made r).lims; rw [List.length_map]; omega) hs (by repeat constructor)
      obtain ⟨H3, g3, g4, hs⟩ := hOw.publishI (by rw [mWs_length]; omega) hs (by repeat constructor)
      exact Fin.retD [] [] hs fun w hs => ⟨_, results1 Tryz.results93 (rcells (vs := [_, _, _, _]) hs rfl Tryz.isAgg27 Tryz.sizeOf27), H3, hle1.trans (g1.trans g3), ⟨_, _, rfl, RS.mono g2 g3, g4⟩, hs.out⟩
end Go.Proofs.YtiiokdeehlfeeaaGreat

namespace Go.Proofs.YtiiokdeehlfeeaaGreat
open Go.MW
theorem ref09_Probes_spec {H : Heap} {w : World} {σ : List Ent} {v vl : Value} {a : Quest} {l : List Two} {most : Nat} (hs : St H w σ) (hr : RAsk H v a) (hl : RS H 2 vl (l.map Two.v)) (hm : 1 ≤ a.sys.many ∧ a.sys.many ≤ 1000) (h8 : most ≤ 100) :
    Cl Tryz.prog 94 [v, vl, I (most : Int)] w fun u w' => ∃ H1, HLe H H1 ∧ RPs H1 u (prbsOf a.sys.many l most) ∧ St H1 w' σ := by
  obtain ⟨ul, uw, rfl, h1, h2⟩ := hr
  obtain ⟨al, cl, e2⟩ := hl.shape
  rw [List.length_map] at e2
  subst e2
  refine Cl.of Tryz.func94 rfl Tryz.ntmps94 (by simp) (args_cons (k := 0) rfl (args_cons (k := 1) rfl (args_cons (k := 2) rfl (args0)))) ?_
  refine .regSeq ?_
  refine .o (.box hs rfl rfl ?_); intro b3 w hs
  refine .z zg (.nil (.regSeq (.z zg (.nil (.seq (.regSeq (.z zg (.nil (.block ?_)))))))))
  refine .loop (fun p : Nat × Value => ⟨41, [], [(8, I (p.1 : Int)), (7, p.2), (1, .slice al l.length cl), (2, I (most : Int)), (3, .pointer (some ⟨b3, 0, none⟩))]⟩)
    (fun p w => p.1 ≤ min most l.length ∧ ∃ en, OwnS 2 p.2 (Prbs (prbsOf a.sys.many l p.1)) en ∧ St H w (en :: .blk b3 [I a.sys.many, ul, uw, I a.width] :: σ))
    (fun p => 100 - p.1) (0, .slice none 0 0) (by repeat (first | exact .nil rfl rfl | refine .cons rfl ?_))
    ⟨by omega, _, .nil 2 none, hs.nul⟩ ?_
  rintro ⟨k, v7⟩ w ⟨hk, en, hO, hs⟩
  dsimp only at hk hO ⊢
  refine .seq (.regSeq (.z zm (.z zm (.z (zlen Tryz.runUnderlying76) (.z zlss (.z zm ?_))))))
  refine .bifD (t' := 13) rfl (fun hb13 => ?_) (fun hb13 => ?_)
  · refine .gT rfl rfl ?_
    refine .z zm ?_
    refine .gT rfl rfl ?_
    refine .z zm ?_
    refine .gT rfl rfl ?_
    refine .z zlss (.z zpT (.nil ?_))
    refine (.condD rfl (fun hc17 => ?_) (fun hc17 => ?_))
    · refine .skip ?_
      refine nT ?_
      refine .seq (.block ?_)
      refine .draw mix rfl hs ?_; intro w hs
      refine .z 0 rfl zm ?_; refine .z 1 rfl zm ?_; refine .z 2 rfl zm ?_
      obtain ⟨x, hx⟩ := nth (l := l) (k := k) (by omega)
      have hb0 := Int.emod_nonneg x.a (b := a.sys.many) (by omega)
      have hb1 := Int.emod_lt_of_pos x.a (b := a.sys.many) (by omega)
      refine .ixX (enc := Two.v) (i := 3) hs rfl (by kernel_rfl) .none hl rfl rfl Tryz.runUnderlying76 Tryz.sizeOf180 hx rfl ?_; intro b23 o23 hc23
      first | refine .p (i := 4) rfl (by kernel_rfl) .none (q_ixA0 (k := 0) rfl rfl Tryz.runUnderlying180 Tryz.sizeOf3 rfl (by decide)) ?_ | refine .p (i := 4) rfl (by kernel_rfl) .none (q_ixA (k := 0) rfl rfl Tryz.runUnderlying180 Tryz.sizeOf3 rfl (by decide)) ?_
      refine .r (i := 5) hs rfl (by kernel_rfl) .none (q_loadR rfl Tryz.isAgg3 (hc23.get 0 rfl)) ?_
      refine .z 6 rfl (zfa fa_api_Ask_0) ?_; refine .z 7 rfl (zfa fa_api_System_0) ?_; refine .y 8 rfl hs Tryz.isAgg3 ?_; refine .z 11 rfl zm ?_; refine .z 12 rfl zm ?_
      refine .ixX (enc := Two.v) (i := 13) hs rfl (by kernel_rfl) .none hl rfl rfl Tryz.runUnderlying76 Tryz.sizeOf180 hx rfl ?_; intro b33 o33 hc33
      first | refine .p (i := 14) rfl (by kernel_rfl) .none (q_ixA0 (k := 1) rfl rfl Tryz.runUnderlying180 Tryz.sizeOf3 rfl (by decide)) ?_ | refine .p (i := 14) rfl (by kernel_rfl) .none (q_ixA (k := 1) rfl rfl Tryz.runUnderlying180 Tryz.sizeOf3 rfl (by decide)) ?_
      refine .r (i := 15) hs rfl (by kernel_rfl) .none (q_loadR rfl Tryz.isAgg3 (hc33.get 1 rfl)) ?_
      refine .e1 (i := 9) (by kernel_rfl) rfl rfl .none hs ?_
      refine .call Tryz.call99 rfl (ref09_mod_spec hs (by omega)) ?_; rintro _ w ⟨rfl, hs⟩
      refine .go ?_
      refine .z 10 rfl zadd ?_
      refine .e1 (i := 16) (by kernel_rfl) rfl rfl .none hs ?_
      refine .call Tryz.call99 rfl (ref09_mod_spec hs (by decide)) ?_; rintro _ w ⟨rfl, hs⟩
      refine .go ?_
      refine .z 17 rfl (zbd [_, _] bld_api_Probe) ?_
      refine .e1 (i := 18) (by kernel_rfl) rfl rfl .none hs ?_
      refine .buildSlice (cells := (prbOf a.sys.many x).c) hs bls_sl_api_Probe_1 rfl rfl ?_; intro b38 w hs
      refine .go ?_
      refine .e1 (i := 19) (by kernel_rfl) rfl rfl .none hs ?_
      refine .append (ys := (prbOf a.sys.many x).c) hs app_sl_api_Probe_api_Probe rfl rfl hO (.own .here rfl rfl) (by simp [Prb.c, Value.oneCell']) (fun l' h => by rw [Prbs_length, prbsOf_len] at h; omega) ?_; intro v39 en39 w hO' hs
      refine .go ?_
      refine .z 20 rfl zg ?_; refine .done (by kernel_rfl) hs ?_
      refine nB (nT ?_)
      refine .region (.z zm (.z zadd (.z zg (.nil ?_))))
      refine nT ?_
      exact ⟨(k + 1, v39), .consI rfl (by push_cast; omega) (by repeat (first | exact .nil rfl rfl | refine .cons rfl ?_)), ⟨by dsimp only; omega, en39, by rw [prbsOf_snoc hx, Prbs_append]; simpa [Prbs] using hO', hs.sub (by repeat (first | exact Sub.refl _ | constructor | apply Sub.weaken))⟩, by dsimp only; omega⟩
    · refine .exit ?_
      refine xT (xT (xB (nT ?_)))
      refine .regSeq (.z zm (.z zg (.nil ?_)))
      refine .ret (Fin.ret1 Tryz.results94 rfl ?_)
      have e : prbsOf a.sys.many l k = prbsOf a.sys.many l most := by
        unfold prbsOf
        congr 1
        by_cases h : most ≤ l.length
        · rw [show k = most by omega]
        · rw [List.take_of_length_le (by omega), List.take_of_length_le (by omega)]
      rw [e] at hO
      obtain ⟨H2, g1, g2, hs⟩ := OwnS.publish (cs := (prbsOf a.sys.many l most).map Prb.c) hO (fun c hc => by simp only [List.mem_map] at hc; obtain ⟨x, _, rfl⟩ := hc; rfl) (by omega) (by rw [List.length_map, prbsOf_len]; omega) hs (by repeat constructor)
      exact ⟨H2, g1, g2, hs.out⟩
  · refine .gFs 3 4 true rfl rfl rfl ?_
    refine .z zpF (.nil ?_)
    refine (.condF rfl rfl ?_)
    refine .exit ?_
    refine xT (xT (xB (nT ?_)))
    refine .regSeq (.z zm (.z zg (.nil ?_)))
    refine .ret (Fin.ret1 Tryz.results94 rfl ?_)
    have e : prbsOf a.sys.many l k = prbsOf a.sys.many l most := by
      unfold prbsOf
      congr 1
      by_cases h : most ≤ l.length
      · rw [show k = most by omega]
      · rw [List.take_of_length_le (by omega), List.take_of_length_le (by omega)]
    rw [e] at hO
    obtain ⟨H2, g1, g2, hs⟩ := OwnS.publish (cs := (prbsOf a.sys.many l most).map Prb.c) hO (fun c hc => by simp only [List.mem_map] at hc; obtain ⟨x, _, rfl⟩ := hc; rfl) (by omega) (by rw [List.length_map, prbsOf_len]; omega) hs (by repeat constructor)
    exact ⟨H2, g1, g2, hs.out⟩
theorem law09_made_spec {H : Heap} {w : World} {σ : List Ent} {cs : List Value} {c : Case} {most : Nat} (hs : St H w σ) (hr : RCase H cs c) (hin : c.raw.In) (h8 : most ≤ 100) :
    Cl Tryz.prog 35 [.agg cs.toArray, I (most : Int)] w fun u w' => ∃ H1 va vl, HLe H H1 ∧ u = .tuple #[va, vl] ∧ RAsk H1 va (madeQ c.raw) ∧ RPs H1 vl (prbsOf (mN c.raw) c.prbs most) ∧ St H1 w' σ := by
  obtain ⟨rs, vp, rfl, hrr, hp⟩ := hr
  have hrr' := hrr
  obtain ⟨vh, vl, vw, rfl, h1, h2, h3⟩ := hrr'
  have hN := mN_bd c.raw
  refine Cl.of Tryz.func35 rfl Tryz.ntmps35 (by simp) (args_cons (k := 0) rfl (args_cons (k := 1) rfl (args0))) ?_
  refine .regSeq ?_
  refine .o (.box hs rfl rfl ?_); intro b2 w hs
  refine .o (.alloc hs Tryz.zeroValue27 rfl ?_); intro b4 w hs
  refine .z zg (.nil (.regSeq (.z (zfa fa_moorsomlaw09_Case_0) (.y hs (zls [_, _, _, _] Tryz.isAgg75 Tryz.sizeOf75) ?_))))
  refine .o (.call Tryz.call93 rfl (ref09_Made_spec hs hrr hin) ?_); rintro _ w ⟨H1, hle1, ⟨ul, uw, rfl, g1, g2⟩, hs⟩
  obtain ⟨aul, cul, rfl⟩ := RL.shape g1
  obtain ⟨auw, cuw, rfl⟩ := RI.shape g2
  refine .o (.alloc hs Tryz.zeroValue27 rfl ?_); intro b6 w hs
  refine .o (.stores (vs := [_, _, _, _]) hs rfl rfl Tryz.sizeOf27 ?_); intro w hs
  refine .nil ?_
  refine .seq (.draw mix rfl hs ?_); intro w hs
  refine .ys 0 rfl hs [_, _, _, _] Tryz.isAgg27 Tryz.sizeOf27 ?_; refine .ys 1 rfl hs [_, _, _, _] Tryz.isAgg27 Tryz.sizeOf27 ?_; refine .z 2 rfl (zfa fa_moorsomlaw09_Case_1) ?_; refine .y 3 rfl hs Tryz.isAgg76 ?_; refine .z 4 rfl zm ?_
  refine .e1 (i := 5) (by kernel_rfl) rfl rfl .none hs ?_
  refine .call Tryz.call94 rfl (ref09_Probes_spec (a := madeQ c.raw) hs ⟨_, _, rfl, g1, g2⟩ (hp.mono hle1) (by show (1 : Int) ≤ (mN c.raw : Int) ∧ (mN c.raw : Int) ≤ 1000; omega) h8) ?_; rintro _ w ⟨H2, hle2, hP, hs⟩
  refine .go ?_
  refine .e1 (i := 6) (by kernel_rfl) rfl rfl .none hs ?_
  refine .stores (vs := [_, _, _, _]) hs rfl rfl Tryz.sizeOf27 ?_; intro w hs
  refine .go ?_
  refine .z 7 rfl zg ?_; refine .done (by kernel_rfl) hs ?_
  refine .ret ?_
  exact Fin.retD [] [] hs fun w hs => ⟨_, results2 Tryz.results35 (rcells (vs := [_, _, _, _]) hs rfl Tryz.isAgg27 Tryz.sizeOf27) rfl, H2, _, _, hle1.trans hle2, rfl, ⟨_, _, rfl, g1.mono hle2, g2.mono hle2⟩, hP, hs.out⟩
theorem made_worst {a : Quest} {l : List Prb} {n e : Int} {us : List Use} (hM : MadeQ a) (hl : l.length ≤ 8) (hp : ∀ p ∈ l, PrbIn a p) (h : (CPrbR a l e ∧ e ≠ 0 ∧ n = 0 ∧ us = []) ∨ (CPrbR a l 0 ∧ e = 0 ∧ ShownR a l n us)) : e = 0 ∧ ShownR a l n us := by
  rcases h with ⟨h1, h2, _⟩ | ⟨_, h1, h2⟩
  · exact (h2 (h1.uniq (hM.prbs hl hp))).elim
  · exact ⟨h1, h2⟩
end Go.Proofs.YtiiokdeehlfeeaaGreat

namespace Go.Proofs.YtiiokdeehlfeeaaGreat
open Go.MW
theorem made_hull {a : Quest} {picks x : List Int} {e : Int} (hM : MadeQ a) (h : PointR a.sys picks x e) : e = 0 ∧ PointP a.sys picks x := by
  cases h with
  | bad h => exact (h (a.sys.ok_iff.2 hM.ok)).elim
  | clash _ h => exact (h hM.hull).elim
  | ok _ _ h => exact ⟨rfl, h⟩
theorem made_out {a : Quest} {l : List Prb} {vs : List Int} (hM : MadeQ a) (hl : l.length ≤ 8) (hp : ∀ p ∈ l, PrbIn a p) (hv : vs.length = l.length) : COutR a l vs 0 := .ok (hM.prbs hl hp) hv
theorem made_short {a : Quest} {l : List Prb} {vs : List Int} (hM : MadeQ a) (hl : l.length ≤ 8) : (behS a l vs).lims.length ≤ 150 := by
  have := hM.lims
  simp only [behS, List.length_append, tellTo_length]; omega
theorem made_after {a : Quest} {l : List Prb} {vs : List Int} {q : Quest} {e : Int} (hM : MadeQ a) (hl : l.length ≤ 8) (hp : ∀ p ∈ l, PrbIn a p) (hv : vs.length = l.length) (hs : (behS a l vs).Sound) (h : AfterR a l vs q e) : e = 0 ∧ q = behQ a l vs := by
  cases h with
  | bad h he => exact (he (h.uniq (made_out hM hl hp hv))).elim
  | none _ h => exact (h hs).elim
  | long _ _ h => exact absurd (made_short (vs := vs) hM hl) (by omega)
  | ok _ _ _ => exact ⟨rfl, rfl⟩
theorem made_prb {a : Quest} {l : List Prb} (hM : MadeQ a) (hp : ∀ p ∈ l, PrbIn a p) : ∀ p ∈ l, PrbOk a p := fun p h => hM.prb (hp p h)
theorem made_beh_ask {a : Quest} {l : List Prb} {vs : List Int} (hM : MadeQ a) (hl : l.length ≤ 8) (hp : ∀ p ∈ l, PrbIn a p) (hs : (behS a l vs).Sound) : AskOk (behQ a l vs) := beh_ask hM.ask hl (made_prb hM hp) hs (made_short hM hl)
end Go.Proofs.YtiiokdeehlfeeaaGreat

namespace Go.Proofs.YtiiokdeehlfeeaaGreat
open Go.MW
theorem IndexFunc_int {H : Heap} {w : World} {σ : List Ent} {v : Value} {ls : List Int} {g : Nat} {cap : List Value} {q : Int → Prop} (hs : St H w σ) (hr : RI H v ls)
    (hc : ∀ args w, (callFunc g args).run Tryz.prog w = .ok (.enter g args) w) (hp : ∀ w l, St H w σ → Cl Tryz.prog g ([I l] ++ cap) w fun u w' => ∃ b, u = .bool b ∧ (b = true ↔ q l) ∧ St H w' σ) :
    Cl Tryz.prog 161 [v, .func (.func g) #[] cap.toArray] w fun u w' => ∃ i, u = I i ∧ (0 ≤ i ↔ ∃ p ∈ ls, q p) ∧ St H w' σ := by
  obtain ⟨a, c, rfl⟩ := RI.shape hr
  have hl := (RI.len hr).2.2
  refine Cl.of Tryz.func161 rfl Tryz.ntmps161 (by simp) (args_cons (k := 0) rfl (args_cons (k := 1) rfl (args0))) ?_
  refine .regSeq (.z zg (.nil (.seq (.regSeq (.z zm (.z (zlen Tryz.runUnderlying25) (.z zm (.nil ?_))))))))
  refine .for (N := ls.length) (J := fun k fr w => fr = [(1, .func (.func g) #[] cap.toArray), (0, .slice a ls.length c)] ∧ St H w σ ∧ ∀ j < k, ∀ l, ls[j]? = some l → ¬ q l) (by omega) ?_ ?_ ?_
  · exact .mk ⟨rfl, hs, fun j hj => by omega⟩
  · rintro k fr w hk ⟨rfl, hs, hno⟩
    obtain ⟨l, hl⟩ := nth hk
    refine .block (.regSeq (.z zm (.z zg (.nil (.regSeq (.z zm (.z zm (.z zm ?_))))))))
    first | (refine .ixv hs Tryz.runUnderlying25 Tryz.sizeOf3 ?_; intro b14 o14 hc14) | refine .z (zix Tryz.runUnderlying25 Tryz.sizeOf3) ?_
    refine .y hs (zld Tryz.isAgg3) ?_
    refine .o (.callG (first := []) rfl rfl hc (hp _ _ hs) ?_); rintro _ w ⟨b16, rfl, hb16, hs⟩
    refine .nil ?_
    refine (.cond rfl (fun hc16 => ?_) (fun hc16 => ?_))
    · refine .regSeq (.z zm (.z zg (.nil ?_)))
      refine .ret (rB (rT (rB (rT (Fin.ret1 Tryz.results161 rfl ?_)))))
      exact ⟨_, rfl, ⟨fun _ => ⟨l, List.mem_of_getElem? hl, hb16.1 hc16⟩, fun _ => by omega⟩, hs⟩
    · refine .skip ?_
      refine nB (nT ?_)
      exact .mk ⟨rfl, hs, upto_succ hno hl (fun h => by rw [hb16.2 h] at hc16; cases hc16)⟩
  · rintro fr w ⟨rfl, hs, hno⟩
    refine nT ?_
    refine .regSeq (.z zg (.nil ?_))
    refine .ret (Fin.ret1 Tryz.results161 rfl ?_)
    exact ⟨_, rfl, ⟨fun h => by omega, fun ⟨p, h1, h2⟩ => by
      obtain ⟨j, hj⟩ := List.getElem?_of_mem h1
      exact (hno j (List.getElem?_eq_some_iff.1 hj).1 p hj h2).elim⟩, hs⟩
theorem ContainsFunc_int {H : Heap} {w : World} {σ : List Ent} {v : Value} {ls : List Int} {g : Nat} {cap : List Value} {q : Int → Prop} (hs : St H w σ) (hr : RI H v ls)
    (hc : ∀ args w, (callFunc g args).run Tryz.prog w = .ok (.enter g args) w) (hp : ∀ w l, St H w σ → Cl Tryz.prog g ([I l] ++ cap) w fun u w' => ∃ b, u = .bool b ∧ (b = true ↔ q l) ∧ St H w' σ) :
    Cl Tryz.prog 129 [v, .func (.func g) #[] cap.toArray] w fun u w' => ∃ b, u = .bool b ∧ (b = true ↔ ∃ p ∈ ls, q p) ∧ St H w' σ := by
  refine Cl.of Tryz.func129 rfl Tryz.ntmps129 (by simp) (args_cons (k := 0) rfl (args_cons (k := 1) rfl (args0))) ?_
  refine .regSeq (.z zg (.nil (.regSeq (.z zm (.z zm ?_)))))
  refine .o (.call Tryz.call161 rfl (IndexFunc_int hs hr hc hp) ?_); rintro _ w ⟨i, rfl, hi, hs⟩
  refine .z zgeq (.z zg (.nil ?_))
  refine .ret (Fin.ret1 Tryz.results129 rfl ?_)
  exact ⟨_, rfl, by simp only [decide_eq_true_eq]; exact hi, hs⟩
theorem bound_CheckPoint_1 {H : Heap} {w : World} {σ : List Ent} {n : Int} (hs : St H w σ) : Cl Tryz.prog 187 [I n] w fun v w' => ∃ b, v = .bool b ∧ (b = true ↔ ¬ (-1000000000 ≤ n ∧ n ≤ 1000000000)) ∧ St H w' σ := by
  refine Cl.of Tryz.func187 rfl Tryz.ntmps187 (by simp) (args_cons (k := 0) rfl (args0)) ?_
  refine .regSeq (.z zg (.nil (.regSeq (.z zm ?_))))
  refine .o (.call Tryz.call167 rfl (bound_within_spec hs) ?_); rintro _ w ⟨rfl, hs⟩
  refine .z znot (.z zg (.nil ?_))
  refine .ret (Fin.ret1 Tryz.results187 rfl ?_)
  exact ⟨_, rfl, by simp; omega, hs⟩
theorem bound_CheckPoint_spec {H : Heap} {w : World} {σ : List Ent} {v vx : Value} {s : Syst} {x : List Int} (hs : St H w σ) (hr : RSy H v s) (hx : RI H vx x) :
    Cl Tryz.prog 146 [v, vx] w fun u w' => ∃ e, u = I e ∧ CPtR s x e ∧ St H w' σ := by
  obtain ⟨ul, rfl, hl⟩ := hr
  obtain ⟨al, cl, rfl⟩ := RL.shape hl
  obtain ⟨ax, cx, rfl⟩ := RI.shape hx
  refine Cl.of Tryz.func146 rfl Tryz.ntmps146 (by simp) (args_cons (k := 0) rfl (args_cons (k := 1) rfl (args0))) ?_
  refine .regSeq ?_
  refine .o (.box hs rfl rfl ?_); intro b2 w hs
  refine .z zg (.nil (.seq (.regSeq (.y hs (zls [_, _] Tryz.isAgg24 Tryz.sizeOf24) ?_))))
  refine .o (.call Tryz.call113 rfl (bound_Check_spec (s := s) hs ⟨_, rfl, hl⟩) ?_); rintro _ w ⟨rfl, hs⟩
  refine .z zg (.nil (.regSeq (.z zm (.z zneq (.nil ?_)))))
  skip
  refine (.condN rfl (fun hc11 => ?_) (fun hc11 => ?_))
  · refine .regSeq (.z zm (.z zg (.nil ?_)))
    refine .ret (rT (Fin.ret1 Tryz.results146 rfl ?_))
    exact ⟨_, rfl, .bad hc11, hs.out⟩
  · refine .skip ?_
    refine nT ?_
    refine .seq (.regSeq ?_)
    have hok : s.Ok := s.ok_iff.1 (by simpa using hc11)
    have hm0 := hok.m0
    have hm1 := hok.m1
    have hll := hok.len
    have hnn : (s.n : Int) = s.many + 1 := by simp only [Syst.n]; omega
    refine .z zm (.z (zlen Tryz.runUnderlying25) (.z (zfa fa_api_System_0) (.y hs (zld Tryz.isAgg3) (.z zadd (.z zneq (.z zm ?_))))))
    refine .bifN (t' := 19) rfl (fun hb19 => ?_) (fun hb19 => ?_)
    · refine .gFs 4 6 false rfl rfl rfl ?_
      refine .z zpT (.z zm ?_)
      refine .gFs 2 12 false rfl rfl rfl ?_
      refine .z zpT (.nil ?_)
      refine (.condT rfl rfl ?_)
      refine .regSeq (.z zg (.nil ?_))
      refine .ret (rT (Fin.ret1 Tryz.results146 rfl ?_))
      first
        | exact ⟨_, rfl, .ok hok ⟨by omega, by first | omega | (simpa using hb25), fun v hv => hfree v (by omega), feas_iff.2 fun y hy => by
            obtain ⟨i, hi⟩ := List.getElem?_of_mem hy
            exact h1 i (List.getElem?_eq_some_iff.1 hi).1 y hi⟩, hs.out⟩
        | exact ⟨_, rfl, .off hok (fun h => by have := h.len; omega), hs.out⟩
        | exact ⟨_, rfl, .off hok (fun h => by have := h.zero; first | omega | (simp at hb25; omega)), hs.out⟩
        | exact ⟨_, rfl, .off hok (fun h => by
            obtain ⟨p, h1, h2⟩ := hb27.1 hc28
            obtain ⟨i, hi⟩ := List.getElem?_of_mem h1
            have hil := (List.getElem?_eq_some_iff.1 hi).1
            have := gi_get hil
            rw [hi] at this
            cases this
            exact h2 (h.free i (by have := h.len; omega))), hs.out⟩
        | exact ⟨_, rfl, .off hok (fun h => by
            have h8 := feas_iff.1 h.feas y (List.mem_of_getElem? hy)
            omega), hs.out⟩
    · refine .gT rfl rfl ?_
      refine .z zm ?_
      refine .gT rfl rfl ?_
      refine .ixX (enc := fun x => [I x]) hs hx rfl rfl Tryz.runUnderlying25 Tryz.sizeOf3 (gi_get (l := x) (i := 0) (by omega)) rfl ?_; intro b21 o21 hc21; replace hc21 := CellsAt.one hc21
      refine .gT rfl rfl ?_
      refine .y hs (zld Tryz.isAgg3) ?_
      refine .gT rfl rfl ?_
      refine .z zneq (.z zpF (.z zm ?_))
      refine .bifN (t' := 25) rfl (fun hb25 => ?_) (fun hb25 => ?_)
      · refine .gFs 2 12 false rfl rfl rfl ?_
        refine .z zpT (.nil ?_)
        refine (.condT rfl rfl ?_)
        refine .regSeq (.z zg (.nil ?_))
        refine .ret (rT (Fin.ret1 Tryz.results146 rfl ?_))
        first
          | exact ⟨_, rfl, .ok hok ⟨by omega, by first | omega | (simpa using hb25), fun v hv => hfree v (by omega), feas_iff.2 fun y hy => by
              obtain ⟨i, hi⟩ := List.getElem?_of_mem hy
              exact h1 i (List.getElem?_eq_some_iff.1 hi).1 y hi⟩, hs.out⟩
          | exact ⟨_, rfl, .off hok (fun h => by have := h.len; omega), hs.out⟩
          | exact ⟨_, rfl, .off hok (fun h => by have := h.zero; first | omega | (simp at hb25; omega)), hs.out⟩
          | exact ⟨_, rfl, .off hok (fun h => by
              obtain ⟨p, h1, h2⟩ := hb27.1 hc28
              obtain ⟨i, hi⟩ := List.getElem?_of_mem h1
              have hil := (List.getElem?_eq_some_iff.1 hi).1
              have := gi_get hil
              rw [hi] at this
              cases this
              exact h2 (h.free i (by have := h.len; omega))), hs.out⟩
          | exact ⟨_, rfl, .off hok (fun h => by
              have h8 := feas_iff.1 h.feas y (List.mem_of_getElem? hy)
              omega), hs.out⟩
      · refine .gT rfl rfl ?_
        refine .z zm ?_
        refine .gT rfl rfl ?_
        refine .o (.call Tryz.call129 rfl (ContainsFunc_int (q := fun n => ¬ (-1000000000 ≤ n ∧ n ≤ 1000000000)) (cap := []) hs hx Tryz.call187 (fun w n hs => bound_CheckPoint_1 hs)) ?_); rintro _ w ⟨b27, rfl, hb27, hs⟩
        refine .z zpF (.nil ?_)
        refine (.cond rfl (fun hc28 => ?_) (fun hc28 => ?_))
        · refine .regSeq (.z zg (.nil ?_))
          refine .ret (rT (Fin.ret1 Tryz.results146 rfl ?_))
          first
            | exact ⟨_, rfl, .ok hok ⟨by omega, by first | omega | (simpa using hb25), fun v hv => hfree v (by omega), feas_iff.2 fun y hy => by
                obtain ⟨i, hi⟩ := List.getElem?_of_mem hy
                exact h1 i (List.getElem?_eq_some_iff.1 hi).1 y hi⟩, hs.out⟩
            | exact ⟨_, rfl, .off hok (fun h => by have := h.len; omega), hs.out⟩
            | exact ⟨_, rfl, .off hok (fun h => by have := h.zero; first | omega | (simp at hb25; omega)), hs.out⟩
            | exact ⟨_, rfl, .off hok (fun h => by
                obtain ⟨p, h1, h2⟩ := hb27.1 hc28
                obtain ⟨i, hi⟩ := List.getElem?_of_mem h1
                have hil := (List.getElem?_eq_some_iff.1 hi).1
                have := gi_get hil
                rw [hi] at this
                cases this
                exact h2 (h.free i (by have := h.len; omega))), hs.out⟩
            | exact ⟨_, rfl, .off hok (fun h => by
                have h8 := feas_iff.1 h.feas y (List.mem_of_getElem? hy)
                omega), hs.out⟩
        · refine .skip ?_
          refine nT ?_
          refine .seq (.regSeq (.z (zfa fa_api_System_1) (.y hs (zld Tryz.isAgg22) (.z (zlen Tryz.runUnderlying22) (.z zm (.nil ?_))))))
          refine .for (N := s.lims.length) (J := fun k fr w => fr = [(30, .slice al s.lims.length cl), (1, .slice ax x.length cx)] ∧ (∀ i < k, ∀ y, s.lims[i]? = some y → gi x y.B.toNat ≤ gi x y.A.toNat + y.M) ∧ St H w (.blk b2 [I s.many, .slice al s.lims.length cl] :: σ)) (by omega) ?_ ?_ ?_
          · exact .mk ⟨rfl, fun i hi => by omega, hs⟩
          · have hfree : ∀ v < x.length, -1000000000 ≤ gi x v ∧ gi x v ≤ 1000000000 := fun v hv => by
              apply Classical.byContradiction
              intro h
              have := hb27.2 ⟨gi x v, List.mem_of_getElem? (gi_get hv), h⟩
              subst this
              simp at hc28
            rintro k fr w hk ⟨rfl, h1, hs⟩
            obtain ⟨y, hy⟩ := nth hk
            obtain ⟨⟨y1, y2⟩, ⟨y3, y4⟩, y5, y6, -⟩ := hok.lim y (List.mem_of_getElem? hy)
            have z1 := hfree y.B.toNat (by omega)
            have z2 := hfree y.A.toNat (by omega)
            refine .block (.regSeq ?_)
            refine .ixX (enc := Lim.c) hs hl rfl rfl Tryz.runUnderlying22 Tryz.sizeOf157 hy rfl ?_; intro b34 o34 hc34
            refine .q hs (q_loadsR (vs := y.c) rfl Tryz.isAgg157 Tryz.sizeOf157 hc34) ?_
            refine .o (.alloc hs Tryz.zeroValue157 rfl ?_); intro b7 w hs
            refine .o (.stores (vs := y.c) hs rfl rfl Tryz.sizeOf157 ?_); intro w hs
            refine .nil ?_
            refine .seq (.draw mix rfl hs ?_); intro w hs
            refine .z 0 rfl zm ?_; refine .z 1 rfl (zfa fa_api_Limit_1) ?_; refine .y 2 rfl hs Tryz.isAgg3 ?_
            refine .ixX (enc := fun x => [I x]) (i := 3) hs rfl (by kernel_rfl) .none hx rfl rfl Tryz.runUnderlying25 Tryz.sizeOf3 (gi_get (l := x) (i := y.B.toNat) (by omega)) (by omega) ?_; intro b39 o39 hc39; replace hc39 := CellsAt.one hc39
            refine .r (i := 4) hs rfl (by kernel_rfl) .none (q_loadR rfl Tryz.isAgg3 hc39) ?_
            refine .z 5 rfl zm ?_; refine .z 6 rfl (zfa fa_api_Limit_0) ?_; refine .y 7 rfl hs Tryz.isAgg3 ?_
            refine .ixX (enc := fun x => [I x]) (i := 8) hs rfl (by kernel_rfl) .none hx rfl rfl Tryz.runUnderlying25 Tryz.sizeOf3 (gi_get (l := x) (i := y.A.toNat) (by omega)) (by omega) ?_; intro b44 o44 hc44; replace hc44 := CellsAt.one hc44
            refine .r (i := 9) hs rfl (by kernel_rfl) .none (q_loadR rfl Tryz.isAgg3 hc44) ?_
            refine .z 10 rfl zsub ?_; refine .z 11 rfl (zfa fa_api_Limit_2) ?_; refine .y 12 rfl hs Tryz.isAgg3 ?_; refine .z 13 rfl zgtr ?_; refine .done (by kernel_rfl) hs ?_
            refine (.condD rfl (fun hc49 => ?_) (fun hc49 => ?_))
            · refine .regSeq (.z zg (.nil ?_))
              refine .ret (rB (rT (rB (rT (Fin.ret1 Tryz.results146 rfl ?_)))))
              first
                | exact ⟨_, rfl, .ok hok ⟨by omega, by first | omega | (simpa using hb25), fun v hv => hfree v (by omega), feas_iff.2 fun y hy => by
                    obtain ⟨i, hi⟩ := List.getElem?_of_mem hy
                    exact h1 i (List.getElem?_eq_some_iff.1 hi).1 y hi⟩, hs.out⟩
                | exact ⟨_, rfl, .off hok (fun h => by have := h.len; omega), hs.out⟩
                | exact ⟨_, rfl, .off hok (fun h => by have := h.zero; first | omega | (simp at hb25; omega)), hs.out⟩
                | exact ⟨_, rfl, .off hok (fun h => by
                    obtain ⟨p, h1, h2⟩ := hb27.1 hc28
                    obtain ⟨i, hi⟩ := List.getElem?_of_mem h1
                    have hil := (List.getElem?_eq_some_iff.1 hi).1
                    have := gi_get hil
                    rw [hi] at this
                    cases this
                    exact h2 (h.free i (by have := h.len; omega))), hs.out⟩
                | exact ⟨_, rfl, .off hok (fun h => by
                    have h8 := feas_iff.1 h.feas y (List.mem_of_getElem? hy)
                    omega), hs.out⟩
            · refine .skip ?_
              refine nB (nT ?_)
              exact .mk ⟨rfl, fun i hi z hz => by
                by_cases e : i = k
                · subst e; rw [hy] at hz; cases hz; omega
                · exact h1 i (by omega) z hz, hs.out⟩
          · have hfree : ∀ v < x.length, -1000000000 ≤ gi x v ∧ gi x v ≤ 1000000000 := fun v hv => by
              apply Classical.byContradiction
              intro h
              have := hb27.2 ⟨gi x v, List.mem_of_getElem? (gi_get hv), h⟩
              subst this
              simp at hc28
            rintro fr w ⟨rfl, h1, hs⟩
            refine nT ?_
            refine .regSeq (.z zg (.nil ?_))
            refine .ret (Fin.ret1 Tryz.results146 rfl ?_)
            first
              | exact ⟨_, rfl, .ok hok ⟨by omega, by first | omega | (simpa using hb25), fun v hv => hfree v (by omega), feas_iff.2 fun y hy => by
                  obtain ⟨i, hi⟩ := List.getElem?_of_mem hy
                  exact h1 i (List.getElem?_eq_some_iff.1 hi).1 y hi⟩, hs.out⟩
              | exact ⟨_, rfl, .off hok (fun h => by have := h.len; omega), hs.out⟩
              | exact ⟨_, rfl, .off hok (fun h => by have := h.zero; first | omega | (simp at hb25; omega)), hs.out⟩
              | exact ⟨_, rfl, .off hok (fun h => by
                  obtain ⟨p, h1, h2⟩ := hb27.1 hc28
                  obtain ⟨i, hi⟩ := List.getElem?_of_mem h1
                  have hil := (List.getElem?_eq_some_iff.1 hi).1
                  have := gi_get hil
                  rw [hi] at this
                  cases this
                  exact h2 (h.free i (by have := h.len; omega))), hs.out⟩
              | exact ⟨_, rfl, .off hok (fun h => by
                  have h8 := feas_iff.1 h.feas y (List.mem_of_getElem? hy)
                  omega), hs.out⟩
end Go.Proofs.YtiiokdeehlfeeaaGreat

namespace Go.Proofs.YtiiokdeehlfeeaaGreat
open Go.MW
def apartV (a : Quest) (A B : List Int) (k : Nat) : Int := sumTo (fun i => gi a.ws i * (gi B i - gi A i)) k
inductive ApR (a : Quest) (l : List Prb) (A B : List Int) : Int → Int → Prop
  | point (h1 : ¬ (KeepsP a.sys A ∧ KeepsP a.sys B)) : ApR a l A B 0 25
  | far (h1 : KeepsP a.sys A) (h2 : KeepsP a.sys B) (h3 : ¬ Near l (gi A) (gi B)) : ApR a l A B 0 92
  | ok (h1 : KeepsP a.sys A) (h2 : KeepsP a.sys B) (h3 : Near l (gi A) (gi B)) : ApR a l A B (IntKind.i64.wrap (apartV a A B a.ws.length)) 0
theorem ApR.uniq {a : Quest} {l : List Prb} {A B : List Int} {n m e f : Int} (h : ApR a l A B n e) (g : ApR a l A B m f) : n = m ∧ e = f := by
  cases h with
  | point h1 =>
    cases g with
    | point => exact ⟨rfl, rfl⟩
    | far g1 g2 _ => exact (h1 ⟨g1, g2⟩).elim
    | ok g1 g2 _ => exact (h1 ⟨g1, g2⟩).elim
  | far h1 h2 h3 =>
    cases g with
    | point g1 => exact (g1 ⟨h1, h2⟩).elim
    | far => exact ⟨rfl, rfl⟩
    | ok _ _ g3 => exact (h3 g3).elim
  | ok h1 h2 h3 =>
    cases g with
    | point g1 => exact (g1 ⟨h1, h2⟩).elim
    | far _ _ g3 => exact (g3 h3).elim
    | ok => exact ⟨rfl, rfl⟩
def TwnR (a : Quest) (l : List Prb) (A B : List Int) (n e : Int) : Prop := (CPrbR a l e ∧ e ≠ 0 ∧ n = 0) ∨ (CPrbR a l 0 ∧ ApR a l A B n e)
theorem TwnR.uniq {a : Quest} {l : List Prb} {A B : List Int} {n m e f : Int} (h : TwnR a l A B n e) (g : TwnR a l A B m f) : n = m ∧ e = f := by
  rcases h with ⟨h1, h2, h3⟩ | ⟨h1, h2⟩
  · rcases g with ⟨g1, g2, g3⟩ | ⟨g1, g2⟩
    · exact ⟨by omega, h1.uniq g1⟩
    · exact (h2 (h1.uniq g1)).elim
  · rcases g with ⟨g1, g2, g3⟩ | ⟨g1, g2⟩
    · exact (g2 (g1.uniq h1)).elim
    · exact h2.uniq g2
theorem apartV_succ (a : Quest) (A B : List Int) (k : Nat) : apartV a A B (k + 1) = apartV a A B k + gi a.ws k * (gi B k - gi A k) := rfl
theorem near_upto {l : List Prb} {x y : Nat → Int} (h : ∀ i < l.length, x (getP l i).u.toNat - y (getP l i).u.toNat ≤ 2 * (getP l i).t ∧ y (getP l i).u.toNat - x (getP l i).u.toNat ≤ 2 * (getP l i).t) : Near l x y := fun p hp => by
  obtain ⟨i, hi⟩ := List.getElem?_of_mem hp
  have hil := (List.getElem?_eq_some_iff.1 hi).1
  have e := getP_get hil
  rw [hi] at e
  cases e
  exact h i hil
set_option maxHeartbeats 4000000 in
theorem probe_apart_spec {H : Heap} {w : World} {σ : List Ent} {v vl va vb : Value} {a : Quest} {l : List Prb} {A B : List Int} (hs : St H w σ) (hr : RAsk H v a) (hp : RPs H vl l) (hA : RI H va A) (hB : RI H vb B) (hok : AskOk a) (hlen : l.length ≤ 8) (hin : ∀ p ∈ l, PrbIn a p) :
    Cl Tryz.prog 66 [v, vl, .agg #[va, vb]] w fun u w' => ∃ n e, u = .tuple #[I n, I e] ∧ ApR a l A B n e ∧ St H w' σ := by
  obtain ⟨ul, uw, rfl, hl, hw⟩ := hr
  obtain ⟨al, cl, rfl⟩ := RL.shape hl
  obtain ⟨aw, cw, rfl⟩ := RI.shape hw
  obtain ⟨ap, cp, rfl⟩ := RPs.shape hp
  obtain ⟨aA, cA, rfl⟩ := RI.shape hA
  obtain ⟨aB, cB, rfl⟩ := RI.shape hB
  have hwl := hok.wl
  have hm1 := hok.many
  have hm0 := hok.ok.m0
  have hnn : (a.sys.n : Int) = a.sys.many + 1 := by simp only [Syst.n]; omega
  refine Cl.of Tryz.func66 rfl Tryz.ntmps66 (by simp) (args_cons (k := 0) rfl (args_cons (k := 1) rfl (args_cons (k := 2) rfl (args0)))) ?_
  refine .regSeq ?_
  refine .o (.box hs rfl rfl ?_); intro b3 w hs
  refine .o (.box hs rfl rfl ?_); intro b5 w hs
  refine .z zg (.z zg (.nil (.seq (.regSeq (.z (zfa fa_api_Twins_0) (.y hs (zld Tryz.isAgg25) (.z (zfa fa_api_Twins_1) (.y hs (zld Tryz.isAgg25) ?_))))))))
  refine .o (.buildSlice (cells := [_, _]) hs bls_slLL_int_2 rfl rfl ?_); intro b20 w hs
  refine .z (zlen Tryz.runUnderlying29) (.z zm (.nil ?_))
  refine .for (N := 2) (J := fun k fr w => fr = [(20, .slice (some ⟨b20, 0, none⟩) 2 2), (3, .pointer (some ⟨b3, 0, none⟩)), (5, .pointer (some ⟨b5, 0, none⟩)), (1, .slice ap l.length cp)] ∧ (0 < k → KeepsP a.sys A) ∧ (1 < k → KeepsP a.sys B) ∧   St H w (.blk b20 [.slice aA A.length cA, .slice aB B.length cB] :: .blk b5 [.slice aA A.length cA, .slice aB B.length cB] :: .blk b3 [I a.sys.many, .slice al a.sys.lims.length cl, .slice aw a.ws.length cw, I a.width] :: σ)) (by omega) ?_ ?_ ?_
  · exact .mk ⟨rfl, fun h => by omega, fun h => by omega, hs⟩
  · rintro k fr w hk ⟨rfl, k1, k2, hs⟩
    obtain ⟨X, aX, cX, hX, hget, hx0, hx1⟩ : ∃ X aX cX, RI H (.slice aX X.length cX) X ∧ ([Value.slice aA A.length cA, .slice aB B.length cB] : List Value)[k]? = some (.slice aX X.length cX) ∧ (k = 0 → X = A) ∧ (k = 1 → X = B) := by
      rcases (by omega : k = 0 ∨ k = 1) with rfl | rfl
      · exact ⟨A, aA, cA, hA, rfl, fun _ => rfl, fun h => by omega⟩
      · exact ⟨B, aB, cB, hB, rfl, fun h => by omega, fun _ => rfl⟩
    refine .block (.regSeq (.z (zix Tryz.runUnderlying29 Tryz.sizeOf25) ?_))
    refine .q hs (q_load rfl Tryz.isAgg25 (hv := hget)) ?_
    refine .z zg (.nil (.regSeq (.z (zfa fa_api_Ask_0) (.y hs (zls [_, _] Tryz.isAgg24 Tryz.sizeOf24) (.z zm ?_)))))
    refine .o (.call Tryz.call146 rfl (bound_CheckPoint_spec (s := a.sys) (x := X) hs ⟨_, rfl, hl⟩ hX) ?_); rintro _ w ⟨e29, rfl, hC, hs⟩
    refine .z zneq (.nil ?_)
    refine (.condN rfl (fun hc30 => ?_) (fun hc30 => ?_))
    · refine .regSeq (.z zg (.z zg (.nil ?_)))
      refine .ret (rB (rT (rB (rT (Fin.ret2 Tryz.results66 rfl rfl ?_)))))
      have h25 : ¬ KeepsP a.sys X := fun h => hc30 (hC.uniq (.ok hok.ok h))
      exact ⟨_, _, rfl, .point (fun h => h25 (by
        rcases (by omega : k = 0 ∨ k = 1) with e | e
        · rw [hx0 e]; exact h.1
        · rw [hx1 e]; exact h.2)), hs.out⟩
    · refine .skip ?_
      refine nB (nT ?_)
      have hkX : KeepsP a.sys X := by
        subst hc30
        generalize hz : (0 : Int) = z at hC
        cases hC with
        | bad h => exact (h hz.symm).elim
        | off _ _ => omega
        | ok _ h => exact h
      exact .mk ⟨rfl, fun _ => by
        by_cases e : k = 0
        · rw [← hx0 e]; exact hkX
        · exact k1 (by omega), fun _ => by
        have e : k = 1 := by omega
        rw [← hx1 e]; exact hkX, hs⟩
  · rintro fr w ⟨rfl, k1, k2, hs⟩
    have kA := k1 (by omega)
    have kB := k2 (by omega)
    have lA := kA.len
    have lB := kB.len
    refine nT ?_
    refine .seq (.regSeq (.z zm (.z (zlen Tryz.runUnderlying28) (.z zm (.nil ?_)))))
    refine .for (N := l.length) (J := fun k fr w => fr = [(32, .slice ap l.length cp), (3, .pointer (some ⟨b3, 0, none⟩)), (5, .pointer (some ⟨b5, 0, none⟩))] ∧ (∀ i < k, gi A (getP l i).u.toNat - gi B (getP l i).u.toNat ≤ 2 * (getP l i).t ∧ gi B (getP l i).u.toNat - gi A (getP l i).u.toNat ≤ 2 * (getP l i).t) ∧   St H w (.blk b5 [.slice aA A.length cA, .slice aB B.length cB] :: .blk b3 [I a.sys.many, .slice al a.sys.lims.length cl, .slice aw a.ws.length cw, I a.width] :: σ)) (by omega) ?_ ?_ ?_
    · exact .mk ⟨rfl, fun i h => by omega, hs.tail⟩
    · rintro k fr w hk ⟨rfl, hn, hs⟩
      have hg := getP_get hk
      obtain ⟨⟨u1, u2⟩, t1, t2⟩ := hin _ (getP_mem hk)
      have fA := kA.free (getP l k).u.toNat (by omega)
      have fB := kB.free (getP l k).u.toNat (by omega)
      refine .block (.regSeq ?_)
      refine .ixX (enc := Prb.c) hs hp rfl rfl Tryz.runUnderlying28 Tryz.sizeOf54 hg rfl ?_; intro b36 o36 hc36
      refine .q hs (q_loadsR (vs := (getP l k).c) rfl Tryz.isAgg54 Tryz.sizeOf54 hc36) ?_
      refine .o (.alloc hs Tryz.zeroValue54 rfl ?_); intro b11 w hs
      refine .o (.stores (vs := (getP l k).c) hs rfl rfl Tryz.sizeOf54 ?_); intro w hs
      refine .nil ?_
      refine .seq (.draw mix rfl hs ?_); intro w hs
      refine .z 0 rfl (zfa fa_api_Twins_0) ?_; refine .y 1 rfl hs Tryz.isAgg25 ?_; refine .z 2 rfl (zfa fa_api_Probe_0) ?_; refine .y 3 rfl hs Tryz.isAgg3 ?_
      refine .ixX (enc := fun x => [I x]) (i := 4) hs rfl (by kernel_rfl) .none hA rfl rfl Tryz.runUnderlying25 Tryz.sizeOf3 (gi_get (l := A) (i := (getP l k).u.toNat) (by omega)) (by omega) ?_; intro b42 o42 hc42; replace hc42 := CellsAt.one hc42
      refine .r (i := 5) hs rfl (by kernel_rfl) .none (q_loadR rfl Tryz.isAgg3 hc42) ?_
      refine .z 6 rfl (zfa fa_api_Twins_1) ?_; refine .y 7 rfl hs Tryz.isAgg25 ?_; refine .z 8 rfl (zfa fa_api_Probe_0) ?_; refine .y 9 rfl hs Tryz.isAgg3 ?_
      refine .ixX (enc := fun x => [I x]) (i := 10) hs rfl (by kernel_rfl) .none hB rfl rfl Tryz.runUnderlying25 Tryz.sizeOf3 (gi_get (l := B) (i := (getP l k).u.toNat) (by omega)) (by omega) ?_; intro b48 o48 hc48; replace hc48 := CellsAt.one hc48
      refine .r (i := 11) hs rfl (by kernel_rfl) .none (q_loadR rfl Tryz.isAgg3 hc48) ?_
      refine .z 12 rfl zsub ?_; refine .z 13 rfl zg ?_; refine .done (by kernel_rfl) hs ?_
      refine .regSeq (.z zm (.z zm (.z zneg (.z zmax (.z (zfa fa_api_Probe_1) (.y hs (zld Tryz.isAgg3) (.z zmul (.z zgtr (.nil ?_)))))))))
      refine (.condD rfl (fun hc58 => ?_) (fun hc58 => ?_))
      · refine .regSeq (.z zg (.z zg (.nil ?_)))
        refine .ret (rB (rT (rB (rT (Fin.ret2 Tryz.results66 rfl rfl ?_)))))
        exact ⟨_, _, rfl, .far kA kB (fun h => by have := h _ (getP_mem hk); omega), hs.out⟩
      · refine .skip ?_
        refine nB (nT ?_)
        exact .mk ⟨rfl, fun i hi => by
          by_cases e : i = k
          · subst e; omega
          · exact hn i (by omega), hs.out⟩
    · rintro fr w ⟨rfl, hn, hs⟩
      refine nT ?_
      refine .regSeq (.z zg (.nil (.seq (.regSeq (.z (zfa fa_api_Ask_1) (.y hs (zld Tryz.isAgg25) (.z (zlen Tryz.runUnderlying25) (.z zm (.nil ?_)))))))))
      refine .for (N := a.ws.length) (J := fun k fr w => fr = [(61, .slice aw a.ws.length cw), (13, I (IntKind.i64.wrap (apartV a A B k))), (5, .pointer (some ⟨b5, 0, none⟩))] ∧   St H w (.blk b5 [.slice aA A.length cA, .slice aB B.length cB] :: .blk b3 [I a.sys.many, .slice al a.sys.lims.length cl, .slice aw a.ws.length cw, I a.width] :: σ)) (by omega) ?_ ?_ ?_
      · exact .mk ⟨rfl, hs⟩ (hs := .consI rfl rfl (.consI rfl rfl (.cons rfl (.consI rfl (by simp [apartV, sumTo, i64wrap_eq]) (by repeat (first | exact .nil rfl rfl | refine .cons rfl ?_))))))
      · rintro k fr w hk ⟨rfl, hs⟩
        have hgw := gi_get (l := a.ws) (i := k) hk
        have fA := kA.free k (by omega)
        have fB := kB.free k (by omega)
        have gA := gi_get (l := A) (i := k) (by omega)
        have gB := gi_get (l := B) (i := k) (by omega)
        refine .block (.regSeq (.z zm ?_))
        first | (refine .ixv hs Tryz.runUnderlying25 Tryz.sizeOf3 ?_; intro b66 o66 hc66) | refine .z (zix Tryz.runUnderlying25 Tryz.sizeOf3) ?_
        refine .y hs (zld Tryz.isAgg3) (.z zg (.z zg (.nil ?_)))
        refine .draw mix rfl hs ?_; intro w hs
        refine .z 0 rfl zm ?_; refine .z 1 rfl zm ?_; refine .z 2 rfl (zfa fa_api_Twins_1) ?_; refine .y 3 rfl hs Tryz.isAgg25 ?_; refine .z 4 rfl zm ?_
        refine .ixX (enc := fun x => [I x]) (i := 5) hs rfl (by kernel_rfl) .none hB rfl rfl Tryz.runUnderlying25 Tryz.sizeOf3 gB rfl ?_; intro b73 o73 hc73; replace hc73 := CellsAt.one hc73
        refine .r (i := 6) hs rfl (by kernel_rfl) .none (q_loadR rfl Tryz.isAgg3 hc73) ?_
        refine .z 7 rfl (zfa fa_api_Twins_0) ?_; refine .y 8 rfl hs Tryz.isAgg25 ?_; refine .z 9 rfl zm ?_
        refine .ixX (enc := fun x => [I x]) (i := 10) hs rfl (by kernel_rfl) .none hA rfl rfl Tryz.runUnderlying25 Tryz.sizeOf3 gA rfl ?_; intro b78 o78 hc78; replace hc78 := CellsAt.one hc78
        refine .r (i := 11) hs rfl (by kernel_rfl) .none (q_loadR rfl Tryz.isAgg3 hc78) ?_
        refine .z 12 rfl zsub ?_; refine .z 13 rfl (q_mul rfl rfl) ?_; refine .z 14 rfl (q_add rfl rfl) ?_; refine .z 15 rfl zg ?_; refine .done (by kernel_rfl) hs ?_
        refine nB (nT ?_)
        exact .mk ⟨rfl, hs⟩ (hs := .consI rfl (by push_cast; omega) (.cons rfl (.cons rfl (.consI rfl (by rw [i64wrap_add2, i64wrap_add, apartV_succ]) (by repeat (first | exact .nil rfl rfl | refine .cons rfl ?_))))))
      · rintro fr w ⟨rfl, hs⟩
        refine nT ?_
        refine .regSeq (.z zm (.z zg (.z zg (.nil ?_))))
        refine .ret (Fin.ret2 Tryz.results66 rfl rfl ?_)
        exact ⟨_, _, rfl, .ok kA kB (near_upto hn), hs.out⟩
end Go.Proofs.YtiiokdeehlfeeaaGreat

namespace Go.Proofs.YtiiokdeehlfeeaaGreat
open Go.MW
theorem gi_takeN {xs : List Int} {n v : Nat} (h : v < n) : gi (xs.take n) v = gi xs v := by
  simp [gi, List.getD, h]
theorem gi_dropN {xs : List Int} {n v : Nat} : gi (xs.drop n) v = gi xs (n + v) := by
  simp [gi, List.getD, List.getElem?_drop]
theorem sumTo_diff (f g : Nat → Int) : ∀ n, sumTo (fun v => f v - g v) n = sumTo f n - sumTo g n
  | 0 => rfl
  | n + 1 => by simp only [sumTo, sumTo_diff f g n]; omega
structure TwinF (a : Quest) (l : List Prb) (A B : List Int) : Prop where
  kA : KeepsP a.sys A
  kB : KeepsP a.sys B
  near : Near l (gi A) (gi B)
  most : PairS a l (apartV a A B a.ws.length)
  meet : meetErr A B l = 0
theorem twin_facts {a : Quest} {l : List Prb} {A B : List Int} (hok : AskOk a) (hin : ∀ p ∈ l, PrbIn a p) (h : TwinR a l (A, B)) : TwinF a l A B := by
  obtain ⟨xs, hB, hE⟩ := h
  obtain ⟨rfl, rfl⟩ := Prod.mk.inj hE
  obtain ⟨N, hN⟩ := Int.eq_ofNat_of_zero_le hok.ok.m0
  have en : a.sys.n = N + 1 := by simp only [Syst.n]; omega
  have ed : (dblS a l).n = N + N + 1 := by simp only [Syst.n, dblS]; omega
  have hlen : xs.length = N + N + 1 := by rw [hB.len, ed]
  have hwl : a.ws.length = N + 1 := by rw [hok.wl, en]
  have gA : ∀ v < a.sys.n, gi (xs.take a.sys.n) v = gi xs v := fun v hv => gi_takeN hv
  have gB : ∀ v < a.sys.n, gi (0 :: xs.drop a.sys.n) v = sndP N (gi xs) v := fun v hv => by
    cases v with
    | zero => show (0 : Int) = gi xs 0; rw [hB.zero]
    | succ v =>
      rw [gi_cons, gi_dropN]
      unfold sndP
      rw [if_neg (by omega)]
      congr 1; omega
  have hP := (dbl_feas hok hin N hN.symm).1 hB.feas
  have lowA : ∀ v < a.sys.n, -1280000 ≤ gi (xs.take a.sys.n) v ∧ gi (xs.take a.sys.n) v ≤ 1280000 := fun v hv => by
    have := hB.low v (by omega)
    rw [gA v hv]; omega
  have lowB : ∀ v < a.sys.n, -1280000 ≤ gi (0 :: xs.drop a.sys.n) v ∧ gi (0 :: xs.drop a.sys.n) v ≤ 1280000 := fun v hv => by
    rw [gB v hv]
    unfold sndP
    split
    · have := hB.low 0 (by omega); omega
    · have := hB.low (v + N) (by omega); omega
  have kA : KeepsP a.sys (xs.take a.sys.n) := ⟨by rw [List.length_take]; omega, by rw [gA 0 (by omega)]; exact hB.zero, fun v hv => by have := lowA v hv; omega, hP.fx.congr hok.ok (fun v hv => (gA v hv).symm)⟩
  have kB : KeepsP a.sys (0 :: xs.drop a.sys.n) := ⟨by rw [List.length_cons, List.length_drop]; omega, rfl, fun v hv => by have := lowB v hv; omega, hP.fy.congr hok.ok (fun v hv => (gB v hv).symm)⟩
  have hnear : Near l (gi (xs.take a.sys.n)) (gi (0 :: xs.drop a.sys.n)) := fun p hp => by
    obtain ⟨⟨u1, u2⟩, _⟩ := hin p hp
    have := hP.near p hp
    rw [gA _ (by omega), gB _ (by omega)]
    exact this
  refine ⟨kA, kB, hnear, ?_, ?_⟩
  · have h1 := (dbl_opt hok hin).1 hB.sum
    have h2 := dbl_val hok (z := gi xs) (l := l) N hN.symm
    have h3 : sumTo (fun v => gi (dblW a.ws) v * gi xs v) (dblS a l).n = valw (dblW a.ws) (dblS a l).n (gi xs) := sumTo_congr fun v _ => by rw [hB.zero, Int.sub_zero]
    have h4 : apartV a (xs.take a.sys.n) (0 :: xs.drop a.sys.n) a.ws.length = valw a.ws a.sys.n (sndP N (gi xs)) - valw a.ws a.sys.n (gi xs) := by
      unfold apartV valw
      rw [← sumTo_diff, hok.wl]
      refine sumTo_congr fun v hv => ?_
      have e0 : sndP N (gi xs) 0 = gi xs 0 := rfl
      rw [gA v hv, gB v hv, e0, hB.zero, Int.sub_zero, Int.sub_zero, Int.mul_sub]
    rw [h4, ← h2, ← h3]
    exact h1
  · unfold meetErr
    rw [if_neg (by rw [kA.len, kB.len]; simp)]
    refine meetE_all fun p hp => ?_
    obtain ⟨⟨u1, u2⟩, t1, t2⟩ := hin p hp
    have e1 := lowA p.u.toNat (by omega)
    have e2 := lowB p.u.toNat (by omega)
    have e3 := hnear p hp
    have e4 := kA.len
    unfold meet1
    rw [if_neg (by omega), if_neg (by omega), if_neg (by omega)]
end Go.Proofs.YtiiokdeehlfeeaaGreat
