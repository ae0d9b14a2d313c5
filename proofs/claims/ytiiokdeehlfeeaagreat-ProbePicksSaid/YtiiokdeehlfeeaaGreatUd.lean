/-
  Texts of these claims, joined: Wn Wo Wt Wu Wv Wx Wy Wz Xa Xb.
-/
import Derived.Test.YtiiokdeehlfeeaaGreatUc
namespace Go.Proofs.YtiiokdeehlfeeaaGreat
open Go.MW
structure Pck where
  probes : List Int
  width : Int
  bound : Int
  uses : List Use
  fails : List (List Int × List Int)
def Pck.none : Pck := ⟨[], 0, 0, [], []⟩
def RPick (H : Heap) (v : Value) (p : Pck) : Prop := ∃ (vp vu vf : Value) (css : List (List Value)), v = .agg #[vp, I p.width, I p.bound, vu, vf] ∧ RI H vp p.probes ∧ RU H vu p.uses ∧ RS H 2 vf css ∧ css.length = p.fails.length ∧ ∀ (j : Nat) (c : List Value) (t : List Int × List Int), css[j]? = some c → p.fails[j]? = some t → TwC H c t
theorem RPick.nil (H : Heap) : RPick H (.agg #[.slice none 0 0, I 0, I 0, .slice none 0 0, .slice none 0 0]) .none :=
  ⟨_, _, _, [], rfl, RS.nil _ _ _ _, RS.nil _ _ _ _, RS.nil _ _ _ _, rfl, fun _ _ _ h => by simp at h⟩
def FewP (a : Quest) (l : List Prb) (p : Pck) (e : Int) : Prop :=
  (e = 94 ∧ p = .none ∧ ∀ c ∈ choicesL l.length, ∀ m, PairS a (chosenL l c) m → a.width < m) ∨
  (e = 0 ∧ ∃ k, (choicesL l.length)[k]? = some p.probes ∧ ShownR a (chosenL l p.probes) p.width p.uses ∧ p.bound = p.width ∧ p.width ≤ a.width ∧ p.fails.length = k ∧
    ∀ (j : Nat) (cj : List Int), j < k → (choicesL l.length)[j]? = some cj → (∀ m, PairS a (chosenL l cj) m → a.width < m) ∧ ∃ t, p.fails[j]? = some t ∧ TwinR a (chosenL l cj) t)
theorem fails_twins {a : Quest} {l : List Prb} {H : Heap} {k : Nat} {css : List (List Value)} (h : FailsAt a l H k css) (hk : k ≤ (choicesL l.length).length) :
    ∃ ts : List (List Int × List Int), ts.length = k ∧ (∀ (j : Nat) (c : List Value) (t : List Int × List Int), css[j]? = some c → ts[j]? = some t → TwC H c t) ∧ ∀ (j : Nat) (cj : List Int), j < k → (choicesL l.length)[j]? = some cj → (∀ m, PairS a (chosenL l cj) m → a.width < m) ∧ ∃ t, ts[j]? = some t ∧ TwinR a (chosenL l cj) t := by
  obtain ⟨F, hF⟩ : ∃ F : Nat → List Int × List Int, ∀ (j : Nat), j < k → ∀ (c : List Value) (cj : List Int), css[j]? = some c → (choicesL l.length)[j]? = some cj → TwC H c (F j) ∧ TwinR a (chosenL l cj) (F j) := by
    refine Go.Deep.choose_lt (n := k) (p := fun j t => ∀ (c : List Value) (cj : List Int), css[j]? = some c → (choicesL l.length)[j]? = some cj → TwC H c t ∧ TwinR a (chosenL l cj) t) fun j hj => ?_
    have h1 : css[j]? = some (css[j]'(by rw [h.1]; exact hj)) := List.getElem?_eq_getElem _
    have h2 : (choicesL l.length)[j]? = some ((choicesL l.length)[j]'(by omega)) := List.getElem?_eq_getElem _
    obtain ⟨_, ⟨t, g1, g2⟩, _⟩ := h.2 j _ _ h1 h2
    exact ⟨t, fun c cj h3 h4 => by rw [h1] at h3; rw [h2] at h4; cases h3; cases h4; exact ⟨g1, g2⟩⟩
  refine ⟨(List.range k).map F, by simp, fun j c t h1 h2 => ?_, fun j cj hj h2 => ?_⟩
  · have hj : j < k := by rw [← h.1]; exact (List.getElem?_eq_some_iff.1 h1).1
    have h3 : (choicesL l.length)[j]? = some ((choicesL l.length)[j]'(by omega)) := List.getElem?_eq_getElem _
    have h4 : F j = t := by simpa [hj] using h2
    rw [← h4]; exact (hF j hj _ _ h1 h3).1
  · have h1 : css[j]? = some (css[j]'(by rw [h.1]; exact hj)) := List.getElem?_eq_getElem _
    obtain ⟨_, _, g3⟩ := h.2 j _ _ h1 h2
    exact ⟨g3, F j, by simp [hj], (hF j hj _ _ h1 h2).2⟩
def FewI (a : Quest) (l : List Prb) (b5 : Nat) (Hq : Heap) (k : Nat) (H' : Heap) (σb : List Ent) : Prop :=
  ∃ css en vf, σb = [.blk b5 [.slice none 0 0, I 0, I 0, .slice none 0 0, vf], en] ∧ HLe Hq H' ∧ OwnS 2 vf css.flatten en ∧ FailsAt a l H' k css
def FewX (a : Quest) (l : List Prb) (b5 : Nat) (Hq : Heap) (H' : Heap) (σb : List Ent) : Prop :=
  ∃ k cc css en vf ap lp cp vu n us, σb = [.blk b5 [.slice ap lp cp, I n, I n, vu, vf], en] ∧ HLe Hq H' ∧ OwnS 2 vf css.flatten en ∧ FailsAt a l H' k css ∧ (choicesL l.length)[k]? = some cc ∧ ap.isSome = true ∧ RI H' (.slice ap lp cp) cc ∧ RU H' vu us ∧
    ShownR a (chosenL l cc) n us ∧ n ≤ a.width
theorem probe_Fewest_1 {H : Heap} {w : World} {σ : List Ent} {v vl : Value} {a : Quest} {l : List Prb} {bl : Nat} (hs : St H w σ) (hr : RAsk H v a) (hb : Row H bl [vl]) (hp : RPs H vl l) (hok : AskOk a) (hlen : l.length ≤ 8) (hin : ∀ p ∈ l, PrbIn a p) :
    Cl Tryz.prog 85 [v, .pointer (some ⟨bl, 0, none⟩)] w fun u w' => ∃ H1 vk p e, HLe H H1 ∧ u = .tuple #[vk, I e] ∧ RPick H1 vk p ∧ FewP a l p e ∧ St H1 w' σ := by
  obtain ⟨ul, uw, rfl, hl, hw⟩ := hr
  obtain ⟨al, cpl, rfl⟩ := RPs.shape hp
  have hch : ∀ {c : List Int}, c ∈ choicesL l.length → (chosenL l c).length ≤ 8 ∧ (∀ p ∈ chosenL l c, PrbIn a p) ∧ c.length ≤ 3 ∧ ∀ x ∈ c, 0 ≤ x ∧ x < (l.length : Int) := fun {c} hc => by
    obtain ⟨h1, h2⟩ := choicesL_in hc
    exact ⟨by have := chosenL_length (l := l) (c := c); omega, fun p hp => hin p (chosenL_mem hp), h1, h2⟩
  refine Cl.of Tryz.func85 rfl Tryz.ntmps85 (by simp) (args_cons (k := 0) rfl (args_cons (k := 1) rfl (args0))) ?_
  refine .regSeq ?_
  refine .o (.box hs rfl rfl ?_); intro b2 w hs
  refine .o (.alloc hs Tryz.zeroValue66 rfl ?_); intro b3 w hs
  refine .o (.alloc hs Tryz.zeroValue30 rfl ?_); intro b4 w hs
  refine .nil ?_
  refine .scope ?_
  refine .regSeq ?_
  refine .o (.alloc hs Tryz.zeroValue66 rfl ?_); intro b5 w hs
  obtain ⟨Hq, hleq, hrq, hs⟩ := hs.publish (b := b2) (by repeat constructor)
  have hbq := (hb.mono hleq).at 0
  have hpq := hp.mono hleq
  refine .nil (.seq ?_)
  refine .label ?_
  refine nT ?_
  refine .cut (fun fs w => ∃ D Hx en ap lp cp wd bd au lu cu af lf cf, FSub fs ⟨74, marks [D], [(3, .pointer (some ⟨b3, 0, none⟩)), (4, .pointer (some ⟨b4, 0, none⟩)), (5, .pointer (some ⟨b5, 0, none⟩))]⟩ ∧ HLe Hq Hx ∧ St Hx w (.obj D (.deferred (some [])) :: .blk b5 [.slice ap lp cp, I wd, I bd, .slice au lu cu, .slice af lf cf] :: en :: .blk b4 [I 0] :: .blk b3 [.slice none 0 0, I 0, I 0, .slice none 0 0, .slice none 0 0] :: σ) ∧ ((ap = none ∧ FewI a l b5 Hq (choicesL l.length).length Hx [.blk b5 [.slice ap lp cp, I wd, I bd, .slice au lu cu, .slice af lf cf], en]) ∨ (ap.isSome = true ∧ FewX a l b5 Hq Hx [.blk b5 [.slice ap lp cp, I wd, I bd, .slice au lu cu, .slice af lf cf], en]))) ?_ ?_
  · refine .regSeq ?_
    refine .q hs (q_loadR rfl Tryz.isAgg28 hbq) ?_
    refine .z (zlen Tryz.runUnderlying28) ?_
    refine .o (.call Tryz.call54 rfl (probe_choices_spec hs (n := l.length) (by omega)) ?_); rintro _ w ⟨Hc, bc, hlec, rfl, hit, hs⟩
    refine .nil (.block ?_)
    refine .rangeE (gf := 139) (cap := [.pointer (some ⟨bc, 0, none⟩)]) (N := (choicesL l.length).length) (E := ChE l.length) (σb := [.blk b5 [.slice none 0 0, I 0, I 0, .slice none 0 0, .slice none 0 0], .nul]) (σf := .blk b4 [I 0] :: .blk b3 [.slice none 0 0, I 0, I 0, .slice none 0 0, .slice none 0 0] :: σ)
      (hs.nul.perm (.swap _ _ _)) trivial rfl hit Tryz.call139 (fun _ _ z ⟨v, _, hz, _⟩ => by rw [hz]; rfl) rfl
      (I := FewI a l b5 Hq) (Ix := fun c H' σb => c = .exit 0 ∧ FewX a l b5 Hq H' σb)
      (fun k _ _ σ g1 ⟨css, en, vf, g2, g3, g4, g5⟩ => ⟨css, en, vf, g2, g3.trans g1, g4, g5.mono g1⟩)
      (fun c _ _ σ g1 ⟨g0, k, cc, css, en, vf, ap, lp, cp, vu, n, us, g2, g3, g4, g5, g6, g7, g8, g9, g10⟩ => ⟨g0, k, cc, css, en, vf, ap, lp, cp, vu, n, us, g2, g3.trans g1, g4, g5.mono g1, g6, g7, g8.mono g1, g9.mono g1, g10⟩)
      ⟨[], .nul, _, rfl, hlec, .nil 2 none, rfl, fun j c cj h => by simp at h⟩ ?_ ?_ ?_
    · rintro ll k hk z H2 σb2 σf2 w hle2 ⟨vc, cc, rfl, hcc, hnn, hRc⟩ ⟨css, en, vf, rfl, hq2, hO, hF⟩ hs ⟨rr, hrr⟩
      obtain ⟨hcl, hcin, hc3, hcx⟩ := hch (List.mem_of_getElem? hcc)
      obtain ⟨ac, cpc, rfl⟩ := RI.shape hRc
      refine .region (.z zg (.nil ?_))
      refine nT ?_
      refine ⟨H2, _, HLe.refl _, hs, ?_⟩; rintro w σf4 - hs
      have hb2 := (hb.mono (hleq.trans hq2)).at 0
      have hp2 := hp.mono (hleq.trans hq2)
      have hq4 := (hrq.mono hq2).cells 0 [I a.sys.many, ul, uw, I a.width]
      refine .block (.regSeq ?_)
      refine .q hs (q_loadR rfl Tryz.isAgg28 hb2) ?_
      refine .z zm ?_
      refine .o (.call Tryz.call86 rfl (probe_chosen_spec hs hp2 hRc hcx (by omega)) ?_); rintro v21 w ⟨H3, hle3, hch3, hs⟩
      obtain ⟨a21, c21, rfl⟩ := RPs.shape hch3
      have hq5 := ((hrq.mono (hq2.trans hle3)).cells 0 [I a.sys.many, ul, uw, I a.width])
      have hq6 : cellAt H3 b2 3 = some (I a.width) := (hrq.mono (hq2.trans hle3)).at 3
      refine .z zg (.nil (.seq (.regSeq ?_)))
      refine .q hs (q_loadsR (vs := [I a.sys.many, ul, uw, I a.width]) rfl Tryz.isAgg27 Tryz.sizeOf27 hq5) ?_
      refine .z zm ?_
      refine .o (.call Tryz.call59 rfl (probe_worst_spec (a := a) hs ⟨_, _, rfl, hl.mono (hleq.trans (hq2.trans hle3)), hw.mono (hleq.trans (hq2.trans hle3))⟩ hch3 hok hcl hcin) ?_); rintro _ w ⟨H4, n, hle4, rfl, hPS, hs⟩
      have hq7 : cellAt H4 b2 3 = some (I a.width) := (hrq.mono (hq2.trans (hle3.trans hle4))).at 3
      have hq8 := ((hrq.mono (hq2.trans (hle3.trans hle4))).cells 0 [I a.sys.many, ul, uw, I a.width])
      have hle24 := hle3.trans hle4
      refine .z zm (.z zex (.z zex (.z zg (.z zg (.nil (.regSeq (.z zm (.z (zfa fa_api_Ask_2) ?_))))))))
      refine .q hs (q_loadR rfl Tryz.isAgg3 hq7) ?_
      refine .z zleq (.nil ?_)
      refine (.condD rfl (fun hc31 => ?_) (fun hc31 => ?_))
      · refine .regSeq ?_
        refine .q hs (q_loadsR (vs := [I a.sys.many, ul, uw, I a.width]) rfl Tryz.isAgg27 Tryz.sizeOf27 hq8) ?_
        refine .z zm ?_
        refine .o (.call Tryz.call87 rfl (probe_double_spec (a := a) hs ⟨_, _, rfl, hl.mono (hleq.trans (hq2.trans hle24)), hw.mono (hleq.trans (hq2.trans hle24))⟩ (hch3.mono hle4) hok hcl hcin) ?_); rintro _ w ⟨H5, ul1, uw1, vp, vw, hle5, rfl, hl1, hw1, hvp, hvw, hs⟩
        obtain ⟨al1, cl1, rfl⟩ := RL.shape hl1; obtain ⟨aw1, cw1, rfl⟩ := RI.shape hw1; obtain ⟨ap1, cp1, rfl⟩ := RL.shape hvp; obtain ⟨av1, cv1, rfl⟩ := RI.shape hvw
        refine .o (.alloc hs Tryz.zeroValue125 rfl ?_); intro b10 w hs
        refine .o (.stores (vs := [_, _, _, _, _, _, _]) hs rfl rfl Tryz.sizeOf125 ?_); intro w hs
        refine .nil (.regSeq (.z (zfa fa_probe_doubled_1) (.y hs (zls [_, _] Tryz.isAgg24 Tryz.sizeOf24) (.z (zfa fa_probe_doubled_2) (.y hs (zld Tryz.isAgg25) ?_)))))
        refine .o (.call Tryz.call88 rfl (bound_Prove_spec (s := dblS a (chosenL l cc)) hs ⟨_, rfl, hvp⟩ hvw) ?_); rintro _ w ⟨H6, _, n2, us, e, hle6, rfl, hM, ⟨vu, rfl, hU⟩, -, h0, hs⟩
        obtain ⟨rfl, hPS2⟩ := dbl_most hok hcl hcin hM
        obtain rfl := hPS.uniq hPS2
        obtain ⟨au, cu, rfl⟩ := RU.shape hU
        refine .z zm (.z zex (.z zex ?_))
        refine .o (.alloc hs Tryz.zeroValue63 rfl ?_); intro b11 w hs
        refine .o (.stores (vs := [_, _]) hs rfl rfl Tryz.sizeOf63 ?_); intro w hs
        refine .z zg (.nil (.seq (.regSeq (.z zm (.z zneq (.nil ?_))))))
        refine (.condN rfl (fun hc44 => ?_) (fun hc44 => ?_))
        · exact (hc44 rfl).elim
        · refine .skip ?_
          refine nT ?_
          refine .seq (.draw mix rfl hs ?_); intro w hs
          refine .z 0 rfl zm ?_; refine .z 1 rfl zm ?_; refine .ys 2 rfl hs [_, _] Tryz.isAgg63 Tryz.sizeOf63 ?_; refine .z 3 rfl (zfa fa_api_Pick_0) ?_
          refine .e1 (i := 4) (by kernel_rfl) rfl rfl .none hs ?_
          refine .store hs rfl rfl Tryz.sizeOf25 ?_; intro w hs
          refine .go ?_
          refine .z 5 rfl (zfa fa_api_Pick_1) ?_
          refine .e1 (i := 6) (by kernel_rfl) rfl rfl .none hs ?_
          refine .store hs rfl rfl Tryz.sizeOf3 ?_; intro w hs
          refine .go ?_
          refine .z 7 rfl (zfa fa_api_Pick_2) ?_
          refine .e1 (i := 8) (by kernel_rfl) rfl rfl .none hs ?_
          refine .stores (vs := [_, _]) hs rfl rfl Tryz.sizeOf63 ?_; intro w hs
          refine .go ?_
          refine .done (by kernel_rfl) hs ?_
          refine .exit ?_
          refine xT (xN ?_)
          exact ⟨H6, _, hle24.trans (hle5.trans hle6), hs.tail.tail, rfl, k, cc, css, en, vf, _, _, _, _, n, us, rfl, hq2.trans (hle24.trans (hle5.trans hle6)), hO, hF.mono (hle24.trans (hle5.trans hle6)), hcc, nnil_some hnn, hRc.mono (hle24.trans (hle5.trans hle6)), hU, ⟨hPS, h0 rfl⟩, by simpa using hc31⟩
      · refine .skip ?_
        refine nT ?_
        refine .regSeq ?_
        refine .q hs (q_loadsR (vs := [I a.sys.many, ul, uw, I a.width]) rfl Tryz.isAgg27 Tryz.sizeOf27 hq8) ?_
        refine .z zm ?_
        refine .o (.call Tryz.call70 rfl (probe_twins_spec (a := a) hs ⟨_, _, rfl, hl.mono (hleq.trans (hq2.trans hle24)), hw.mono (hleq.trans (hq2.trans hle24))⟩ (hch3.mono hle4) hok hcl hcin) ?_); rintro _ w ⟨H5, va, vb, xs, hle5, rfl, hva, hvb, hB, hs⟩
        obtain ⟨ata, cta, rfl⟩ := RI.shape hva; obtain ⟨atb, ctb, rfl⟩ := RI.shape hvb
        have hO5 := hO
        obtain ⟨avf, lvf, cvf, rfl, hvf⟩ := hO5.shape
        refine .z zm (.z zex (.z zex ?_))
        refine .o (.alloc hs Tryz.zeroValue39 rfl ?_); intro b13 w hs
        refine .o (.stores (vs := [_, _]) hs rfl rfl Tryz.sizeOf39 ?_); intro w hs
        refine .z zg (.nil (.seq (.regSeq (.z zm (.z zneq (.nil ?_))))))
        refine (.condN rfl (fun hc60 => ?_) (fun hc60 => ?_))
        · exact (hc60 rfl).elim
        · refine .skip ?_
          refine nT ?_
          refine .region (.z (zfa fa_api_Pick_3) (.y hs (zld Tryz.isAgg64) (.y hs (zls [_, _] Tryz.isAgg39 Tryz.sizeOf39) ?_)))
          refine .o (.buildSlice (cells := [_, _]) hs bls_sl_api_Twins_1 rfl rfl ?_); intro b66 w hs
          refine .o (.append (ys := [.slice ata (xs.take a.sys.n).length cta, .slice atb (0 :: xs.drop a.sys.n).length ctb]) hs app_sl_api_Twins_api_Twins rfl rfl hO (.own .here rfl rfl) (by simp [Value.oneCell']) (fun l' h => by have := flat2 (hF.two (by omega)); have := choicesL_length hlen; have := hF.1; omega) ?_); intro v67 en67 w hO2 hs
          obtain ⟨a67, l67, c67, rfl, h67⟩ := hO2.shape
          refine .z (zfa fa_api_Pick_3) ?_
          refine .o (.store hs rfl rfl Tryz.sizeOf64 ?_); intro w hs
          refine .nil ?_
          refine nB ?_
          exact ⟨H5, [.blk b5 [.slice none 0 0, I 0, I 0, .slice none 0 0, .slice a67 l67 c67], en67], hle24.trans hle5, (hs.sub (by repeat (first | exact Sub.refl _ | constructor | apply Sub.weaken)) : St H5 w (.blk b5 _ :: en67 :: σf4)),
            css ++ [[.slice ata (xs.take a.sys.n).length cta, .slice atb (0 :: xs.drop a.sys.n).length ctb]], en67, _, rfl, hq2.trans (hle24.trans hle5), by rw [List.flatten_append]; exact hO2, (hF.mono (hle24.trans hle5)).snoc hcc rfl ⟨_, _, rfl, hva, hvb⟩ ⟨xs, hB, rfl⟩ (fun m hm => by rw [← hPS.uniq hm]; omega)⟩
    · rintro D H2 σb2 w hle2 ⟨css, en, vf, rfl, hq2, hO, hF⟩ hs
      refine nB (nT ?_)
      obtain ⟨af, lf, cf, rfl, -⟩ := id hO.shape
      exact ⟨D, H2, en, none, 0, 0, 0, 0, none, 0, 0, af, lf, cf, by repeat (first | exact .nil rfl rfl | refine .cons rfl ?_), hq2, hs, .inl ⟨rfl, css, en, _, rfl, hq2, hO, hF⟩⟩
    · rintro D c H2 σb2 w hle2 ⟨rfl, k, cc, css, en, vf, ap, lp, cp, vu, n, us, rfl, hq2, hO, hF, g1, g2, g3⟩ hs
      obtain ⟨af, lf, cf, rfl, -⟩ := id hO.shape
      obtain ⟨au, cu, rfl⟩ := RU.shape g3.2.1
      exact .exit (xB (nT ⟨D, H2, en, ap, lp, cp, n, n, au, us.length, cu, af, lf, cf, by repeat (first | exact .nil rfl rfl | refine .cons rfl ?_), hq2, hs, .inr ⟨g2, k, cc, css, en, _, ap, lp, cp, _, n, us, rfl, hq2, hO, hF, g1, g2, g3⟩⟩))
  · rintro fs w ⟨D, Hx, en, ap, lp, cp, wd, bd, au, lu, cu, af, lf, cf, hfs, hqx, hs, hcase⟩
    refine WE.sub ?_ hfs
    refine .seq (.regSeq (.z (zfa fa_api_Pick_0) (.y hs (zld Tryz.isAgg25) ?_)))
    refine .q hs (q_eqSN rfl rfl Tryz.runUnderlying25) ?_
    refine .nil ?_
    refine (.cond rfl (fun hc71 => ?_) (fun hc71 => ?_))
    · refine .regSeq (.z (zbd [_, _, _, _, _] bld_api_Pick) ?_)
      refine .o (.stores (vs := [_, _, _, _, _]) hs rfl rfl Tryz.sizeOf66 ?_); intro w hs
      refine .o (.store hs rfl rfl Tryz.sizeOf30 ?_); intro w hs
      refine .nil ?_
      refine .ret (rT (rS (?_)))
      rcases hcase with ⟨-, css, en', vf', -, -, -, hF⟩ | ⟨h, -⟩
      · exact Fin.retD [D] [] (show St _ _ ([] ++ (mes [D] ++ _)) from hs) fun w hs => ⟨_, results2 Tryz.results85 (rcells (vs := [_, _, _, _, _]) hs rfl Tryz.isAgg66 Tryz.sizeOf66) (rcell hs rfl Tryz.isAgg30), Hx, _, .none, 94, hleq.trans hqx, rfl, RPick.nil _, .inl ⟨rfl, rfl, fun c hc m hm => by
          obtain ⟨j, hj⟩ := List.getElem?_of_mem hc
          have hlt := (List.getElem?_eq_some_iff.1 hj).1
          exact (hF.2 j _ c (List.getElem?_eq_getElem (by rw [hF.1]; exact hlt)) hj).2.2 m hm⟩, hs.out⟩
      · cases ap <;> simp_all
    · refine .skip ?_
      refine nT ?_
      refine .regSeq (.y hs (zls [_, _, _, _, _] Tryz.isAgg66 Tryz.sizeOf66) ?_)
      refine .o (.stores (vs := [_, _, _, _, _]) hs rfl rfl Tryz.sizeOf66 ?_); intro w hs
      refine .o (.store hs rfl rfl Tryz.sizeOf30 ?_); intro w hs
      refine .nil ?_
      refine .ret (rS (?_))
      rcases hcase with ⟨h, -⟩ | ⟨-, k, cc, css, en', vf', ap', lp', cp', vu', n, us, hh, -, hO, hF, hcc, -, hRc, hU, hS, hn⟩
      · subst h; simp at hc71
      · simp only [List.cons.injEq, Ent.blk.injEq, true_and, and_true, Value.slice.injEq, Value.int.injEq] at hh
        obtain ⟨⟨⟨rfl, rfl, rfl⟩, rfl, rfl, rfl, rfl⟩, rfl⟩ := hh
        have hkl : k < (choicesL l.length).length := (List.getElem?_eq_some_iff.1 hcc).1
        obtain ⟨H7, g7, r7, hs⟩ := OwnS.publish (cs := css) hO (hF.two (by omega)) (by decide) (by have := choicesL_length hlen; have := hF.1; omega) hs (by repeat constructor)
        obtain ⟨ts, t1, t2, t3⟩ := fails_twins hF (by omega)
        exact Fin.retD [D] [] (show St _ _ ([] ++ (mes [D] ++ _)) from hs) fun w hs => ⟨_, results2 Tryz.results85 (rcells (vs := [_, _, _, _, _]) hs rfl Tryz.isAgg66 Tryz.sizeOf66) (rcell hs rfl Tryz.isAgg30), H7, _, ⟨cc, _, _, us, ts⟩, 0, (hleq.trans hqx).trans g7, rfl,
          ⟨_, _, _, css, rfl, hRc.mono g7, hU.mono g7, r7, by rw [hF.1, t1], fun j c t h1 h2 => (t2 j c t h1 h2).mono g7⟩, .inr ⟨rfl, k, hcc, hS, rfl, hn, t1, t3⟩, hs.out⟩
theorem probe_told_Pick {R : Pck → Int → Prop} {H : Heap} {w : World} {σ : List Ent} {v vl : Value} {a : Quest} {l : List Prb} {g : Nat} {cap : List Value} (hs : St H w σ) (hr : RAsk H v a) (hp : RPs H vl l) (hc : ∀ args w, (callFunc g args).run Tryz.prog w = .ok (.enter g args) w)
    (hg : ∀ H' w σ', HLe H H' → CPrbR a l 0 → St H' w σ' → Cl Tryz.prog g ([v] ++ cap) w fun u w' => ∃ H'' vk p e, HLe H' H'' ∧ u = .tuple #[vk, I e] ∧ RPick H'' vk p ∧ R p e ∧ St H'' w' σ') :
    Cl Tryz.prog 84 [v, vl, .func (.func g) #[] cap.toArray] w fun u w' => ∃ H1 vk p e, HLe H H1 ∧ u = .tuple #[vk, I e] ∧ RPick H1 vk p ∧ ((CPrbR a l e ∧ e ≠ 0 ∧ p = .none) ∨ (CPrbR a l 0 ∧ R p e)) ∧ St H1 w' σ := by
  obtain ⟨ul, uw, rfl, hl, hw⟩ := hr
  refine Cl.of Tryz.func84 rfl Tryz.ntmps84 (by simp) (args_cons (k := 0) rfl (args_cons (k := 1) rfl (args_cons (k := 2) rfl (args0)))) ?_
  refine .regSeq ?_
  refine .o (.box hs rfl rfl ?_); intro b3 w hs
  refine .o (.alloc hs Tryz.zeroValue66 rfl ?_); intro b6 w hs
  refine .z zg (.nil (.seq (.regSeq (.y hs (zls [_, _, _, _] Tryz.isAgg27 Tryz.sizeOf27) (.z zm ?_)))))
  refine .o (.call Tryz.call141 rfl (probe_CheckProbes_spec (a := a) hs ⟨_, _, rfl, hl, hw⟩ hp) ?_); rintro _ w ⟨H1, e, hle1, rfl, hC, hs⟩
  refine .z zg (.nil (.regSeq (.z zm (.z zneq (.nil ?_)))))
  refine (.condN rfl (fun hc14 => ?_) (fun hc14 => ?_))
  · refine .regSeq ?_
    refine .o (.alloc hs Tryz.zeroValue66 rfl ?_); intro b9 w hs
    refine .nil (.regSeq (.y hs (zls [_, _, _, _, _] Tryz.isAgg66 Tryz.sizeOf66) (.z zm ?_)))
    refine .o (.stores (vs := [_, _, _, _, _]) hs rfl rfl Tryz.sizeOf66 ?_); intro w hs
    refine .z zg (.nil ?_)
    refine .ret (rT (?_))
    exact Fin.retD [] [] hs fun w hs => ⟨_, results2 Tryz.results84 (rcells (vs := [_, _, _, _, _]) hs rfl Tryz.isAgg66 Tryz.sizeOf66) rfl, H1, _, .none, e, hle1, rfl, RPick.nil _, .inl ⟨hC, hc14, rfl⟩, hs.out⟩
  · refine .skip ?_
    refine nT ?_
    refine .regSeq (.z zm (.y hs (zls [_, _, _, _] Tryz.isAgg27 Tryz.sizeOf27) ?_))
    rw [hc14] at hC
    refine .o (.callG (first := []) rfl rfl hc (hg _ _ _ hle1 hC hs) ?_); rintro _ w ⟨H2, vk, p, e2, hle2, rfl, ⟨vp, vu, vf, css, rfl, k1, k2, k3, k4⟩, hR, hs⟩
    obtain ⟨ap, cp, rfl⟩ := RI.shape k1; obtain ⟨au, cu, rfl⟩ := RU.shape k2; obtain ⟨af, cf, rfl⟩ := RS.shape k3
    refine .z zex (.z zex ?_)
    refine .o (.stores (vs := [_, _, _, _, _]) hs rfl rfl Tryz.sizeOf66 ?_); intro w hs
    refine .z zg (.nil ?_)
    refine .ret ?_
    exact Fin.retD [] [] hs fun w hs => ⟨_, results2 Tryz.results84 (rcells (vs := [_, _, _, _, _]) hs rfl Tryz.isAgg66 Tryz.sizeOf66) rfl, H2, _, p, e2, hle1.trans hle2, rfl, ⟨_, _, _, css, rfl, k1, k2, k3, k4⟩, .inr ⟨hC, hR⟩, hs.out⟩
theorem probe_Fewest_spec {H : Heap} {w : World} {σ : List Ent} {v vl : Value} {a : Quest} {l : List Prb} (hs : St H w σ) (hr : RAsk H v a) (hp : RPs H vl l) :
    Cl Tryz.prog 30 [v, vl] w fun u w' => ∃ H1 vk p e, HLe H H1 ∧ u = .tuple #[vk, I e] ∧ RPick H1 vk p ∧ ((CPrbR a l e ∧ e ≠ 0 ∧ p = .none) ∨ (CPrbR a l 0 ∧ FewP a l p e)) ∧ St H1 w' σ := by
  obtain ⟨ul, uw, rfl, hl, hw⟩ := hr
  obtain ⟨al, cpl, rfl⟩ := RPs.shape hp
  refine Cl.of Tryz.func30 rfl Tryz.ntmps30 (by simp) (args_cons (k := 0) rfl (args_cons (k := 1) rfl (args0))) ?_
  refine .regSeq ?_
  refine .o (.box hs rfl rfl ?_); intro b2 w hs
  refine .o (.box hs rfl rfl ?_); intro b3 w hs
  refine .o (.alloc hs Tryz.zeroValue66 rfl ?_); intro b4 w hs
  refine .z zg (.nil (.regSeq (.y hs (zls [_, _, _, _] Tryz.isAgg27 Tryz.sizeOf27) (.y hs (zld Tryz.isAgg28) ?_))))
  refine .q hs (q_makeFunc (f := []) (c := [_]) rfl rfl) ?_
  obtain ⟨H0, hle0, hb3, hs⟩ := hs.publish (b := b3) (by repeat constructor)
  refine .o (.call Tryz.call84 rfl (probe_told_Pick (R := FewP a l) (a := a) (l := l) (cap := [.pointer (some ⟨b3, 0, none⟩)]) hs ⟨_, _, rfl, hl.mono hle0, hw.mono hle0⟩ (hp.mono hle0) Tryz.call85 ?_) ?_)
  · rintro H' w σ' hle hC hs
    obtain ⟨hok, hlen, hin⟩ := hC.zero
    exact probe_Fewest_1 (a := a) (l := l) hs ⟨_, _, rfl, (hl.mono hle0).mono hle, (hw.mono hle0).mono hle⟩ (hb3.mono hle) ((hp.mono hle0).mono hle) hok hlen (fun p h => (hin p h).inn)
  rintro _ w ⟨H1, vk, p, e, hle1, rfl, ⟨vp, vu, vf, css, rfl, k1, k2, k3, k4⟩, hcase, hs⟩
  obtain ⟨ap, cp, rfl⟩ := RI.shape k1; obtain ⟨au, cu, rfl⟩ := RU.shape k2; obtain ⟨af, cf, rfl⟩ := RS.shape k3
  refine .z zex (.z zex ?_)
  refine .o (.stores (vs := [_, _, _, _, _]) hs rfl rfl Tryz.sizeOf66 ?_); intro w hs
  refine .z zg (.nil ?_)
  refine .ret ?_
  exact Fin.retD [] [] hs fun w hs => ⟨_, results2 Tryz.results30 (rcells (vs := [_, _, _, _, _]) hs rfl Tryz.isAgg66 Tryz.sizeOf66) rfl, H1, _, p, e, hle0.trans hle1, rfl, ⟨_, _, _, css, rfl, k1, k2, k3, k4⟩, hcase, hs.out⟩
end Go.Proofs.YtiiokdeehlfeeaaGreat

namespace Go.Proofs.YtiiokdeehlfeeaaGreat
open Go.MW
theorem ref02_Same_spec {H : Heap} {w : World} {σ : List Ent} {va vb : Value} {A B : List Int} (hs : St H w σ) (hA : RI H va A) (hB : RI H vb B) :
    Cl Tryz.prog 20 [va, vb] w fun v w' => v = .bool (decide (A = B)) ∧ St H w' σ := by
  obtain ⟨aA, cA, rfl⟩ := RI.shape hA
  obtain ⟨aB, cB, rfl⟩ := RI.shape hB
  have hlA := (RI.len hA).2.2
  have hlB := (RI.len hB).2.2
  refine Cl.of Tryz.func20 rfl Tryz.ntmps20 (by simp) (args_cons (k := 0) rfl (args_cons (k := 1) rfl (args0))) ?_
  refine .regSeq (.z zg (.nil (.seq (.regSeq (.z zm (.z (zlen Tryz.runUnderlying25) (.z zm (.z (zlen Tryz.runUnderlying25) (.z zneq ?_)))))))))
  refine .nil ?_
  refine (.condN rfl (fun hc10 => ?_) (fun hc10 => ?_))
  · refine .regSeq (.z zg (.nil ?_))
    refine .ret (rT (Fin.ret1 Tryz.results20 rfl ?_))
    exact ⟨by rw [decide_eq_false (by intro h; subst h; exact hc10 rfl)], hs⟩
  · refine .skip ?_
    refine nT ?_
    refine .seq (.regSeq (.z zm (.z (zlen Tryz.runUnderlying25) (.z zm (.nil ?_)))))
    refine .for (N := A.length) (J := fun k fr w => fr = [(0, .slice aA A.length cA), (1, .slice aB B.length cB)] ∧ (∀ j < k, A[j]? = B[j]?) ∧ St H w σ) (by omega) ?_ ?_ ?_
    · exact .mk ⟨rfl, fun j h => by omega, hs⟩
    · rintro k fr w hk ⟨rfl, h0, hs⟩
      obtain ⟨xA, hxA⟩ := nth hk
      obtain ⟨xB, hxB⟩ := nth (l := B) (k := k) (by omega)
      refine .block (.regSeq (.z zm (.z zg (.nil ?_))))
      refine .seq (.draw mix rfl hs ?_); intro w hs
      refine .z 0 rfl zm ?_; refine .z 1 rfl zm ?_
      refine .ixX (enc := fun x => [I x]) (i := 2) hs rfl (by kernel_rfl) .none hA rfl rfl Tryz.runUnderlying25 Tryz.sizeOf3 hxA rfl ?_; intro b18 o18 hc18; replace hc18 := CellsAt.one hc18
      refine .r (i := 3) hs rfl (by kernel_rfl) .none (q_loadR rfl Tryz.isAgg3 hc18) ?_
      refine .z 4 rfl zm ?_; refine .z 5 rfl zm ?_
      refine .ixX (enc := fun x => [I x]) (i := 6) hs rfl (by kernel_rfl) .none hB rfl rfl Tryz.runUnderlying25 Tryz.sizeOf3 hxB rfl ?_; intro b22 o22 hc22; replace hc22 := CellsAt.one hc22
      refine .r (i := 7) hs rfl (by kernel_rfl) .none (q_loadR rfl Tryz.isAgg3 hc22) ?_
      refine .z 8 rfl zneq ?_; refine .done (by kernel_rfl) hs ?_
      refine (.condN rfl (fun hc24 => ?_) (fun hc24 => ?_))
      · refine .regSeq (.z zg (.nil ?_))
        refine .ret (rB (rT (rB (rT (Fin.ret1 Tryz.results20 rfl ?_)))))
        exact ⟨by rw [decide_eq_false (by intro h; subst h; rw [hxA] at hxB; cases hxB; exact hc24 rfl)], hs⟩
      · refine .skip ?_
        refine nB (nT ?_)
        exact .mk ⟨rfl, fun j hj => by
          by_cases e : j = k
          · subst e; rw [hxA, hxB, hc24]
          · exact h0 j (by omega), hs⟩
    · rintro fr w ⟨rfl, h0, hs⟩
      refine nT ?_
      refine .regSeq (.z zg (.nil ?_))
      refine .ret (Fin.ret1 Tryz.results20 rfl ?_)
      exact ⟨by rw [decide_eq_true (List.ext_getElem? fun j => by
        by_cases e : j < A.length
        · exact h0 j e
        · rw [List.getElem?_eq_none (by omega), List.getElem?_eq_none (by omega)])], hs⟩
theorem law09_example_spec {H : Heap} {w : World} {σ : List Ent} (hs : St H w σ) : Cl Tryz.prog 63 [] w fun v w' => ∃ H1, HLe H H1 ∧ RAsk H1 v exQ ∧ St H1 w' σ := by
  refine Cl.of Tryz.func63 rfl Tryz.ntmps63 (by simp) (args0) ?_
  refine .regSeq ?_
  refine .o (.alloc hs Tryz.zeroValue27 rfl ?_); intro b0 w hs
  refine .nil (.regSeq (.z (zbd [_, _, _, _] bld_api_Limit) (.z (zbd [_, _, _, _] bld_api_Limit) (.z (zbd [_, _, _, _] bld_api_Limit) (.z (zbd [_, _, _, _] bld_api_Limit) ?_)))))
  refine .o (.buildSlice (cells := Lims exS.lims) hs bls_sl_api_Limit_4 rfl (by kernel_rfl) ?_); intro b6 w hs
  refine .z (zbd [_, _] bld_api_System) ?_
  refine .o (.alloc hs Tryz.zeroValue24 rfl ?_); intro b1 w hs
  refine .o (.stores (vs := [_, _]) hs rfl rfl Tryz.sizeOf24 ?_); intro w hs
  refine .nil (.regSeq (.y hs (zls [_, _] Tryz.isAgg24 Tryz.sizeOf24) ?_))
  refine .o (.buildSlice (cells := Is [0, 1, 1]) hs bls_sl_int_3 rfl (by kernel_rfl) ?_); intro b9 w hs
  refine .z (zbd [_, _, _, _] bld_api_Ask) ?_
  refine .o (.stores (vs := [_, _, _, _]) hs rfl rfl Tryz.sizeOf27 ?_); intro w hs
  refine .nil ?_
  refine .ret ?_
  obtain ⟨H1, g1, r1, hs⟩ := OwnS.publish (m := 4) (v := .slice (some ⟨b6, 0, none⟩) 4 4) (cs := exS.lims.map Lim.c) (.full rfl) (by decide) (by decide) (by decide) hs (by repeat constructor)
  obtain ⟨H2, g2, r2, hs⟩ := OwnS.publishI (v := .slice (some ⟨b9, 0, none⟩) 3 3) (xs := [0, 1, 1]) (.full rfl) (by decide) hs (by repeat constructor)
  exact Fin.retD [] [] hs fun w hs => ⟨_, results1 Tryz.results63 (rcells (vs := [_, _, _, _]) hs rfl Tryz.isAgg27 Tryz.sizeOf27), H2, g1.trans g2, ⟨_, _, rfl, RS.mono r1 g2, r2⟩, hs.out⟩
theorem law09_three_spec {H : Heap} {w : World} {σ : List Ent} (hs : St H w σ) : Cl Tryz.prog 64 [] w fun v w' => ∃ H1 b, HLe H H1 ∧ v = .slice (some ⟨b, 0, none⟩) 3 3 ∧ RPs H1 v exL ∧ St H1 w' σ := by
  refine Cl.of Tryz.func64 rfl Tryz.ntmps64 (by simp) (args0) ?_
  refine .regSeq (.z zg (.nil (.regSeq (.z (zbd [_, _] bld_api_Probe) (.z (zbd [_, _] bld_api_Probe) (.z (zbd [_, _] bld_api_Probe) ?_))))))
  refine .o (.buildSlice (cells := Prbs exL) hs bls_sl_api_Probe_3 rfl (by kernel_rfl) ?_); intro b4 w hs
  refine .z zg (.nil ?_)
  refine .ret (Fin.ret1 Tryz.results64 rfl ?_)
  obtain ⟨H1, g1, r1, hs⟩ := OwnS.publish (m := 2) (v := .slice (some ⟨b4, 0, none⟩) 3 3) (cs := exL.map Prb.c) (.full rfl) (by decide) (by decide) (by decide) hs (by repeat constructor)
  exact ⟨H1, b4, g1, rfl, r1, hs⟩
theorem ex_few {p : Pck} {e : Int} (h : FewP exQ exL p e) : e = 0 ∧ p.probes = [0] ∧ p.width = 7 := by
  rcases h with ⟨-, -, h⟩ | ⟨rfl, k, h1, h2, h3, h4, h5, h6⟩
  · have := h [0] (by decide) 7 ex_worst1
    exact absurd this (by decide)
  · match k, h1, h6 with
    | 0, h1, h6 =>
      have e1 : p.probes = [] := by have : (choicesL exL.length)[0]? = some [] := by decide
                                    rw [this] at h1; exact (Option.some.inj h1).symm
      rw [e1] at h2
      have h7 := ex_worst0 h2.1
      have h8 : exQ.width = 8 := rfl
      omega
    | 1, h1, _ =>
      have e1 : p.probes = [0] := by have : (choicesL exL.length)[1]? = some [0] := by decide
                                     rw [this] at h1; exact (Option.some.inj h1).symm
      rw [e1] at h2
      exact ⟨rfl, e1, h2.1.uniq ex_worst1⟩
    | k + 2, _, h6 =>
      have := (h6 1 [0] (by omega) (by decide)).1 7 ex_worst1
      exact absurd this (by decide)
theorem ex_shown {l : List Prb} {n e : Int} {us : List Use} (hl : ∀ p ∈ l, p ∈ exL) (hn : l.length ≤ 8) (h : (CPrbR exQ l e ∧ e ≠ 0 ∧ n = 0 ∧ us = []) ∨ (CPrbR exQ l 0 ∧ e = 0 ∧ ShownR exQ l n us)) : e = 0 ∧ PairS exQ l n := by
  rcases h with ⟨h1, h2, _⟩ | ⟨_, h1, h2⟩
  · exact (h2 (h1.uniq (ex_prbs hl hn))).elim
  · exact ⟨h1, h2.1⟩
theorem law09_sane_spec {H : Heap} {w : World} {σ : List Ent} (hs : St H w σ) : Cl Tryz.prog 15 [] w fun v w' => v = .bool true ∧ ∃ H1, HLe H H1 ∧ St H1 w' σ := by
  refine Cl.of Tryz.func15 rfl Tryz.ntmps15 (by simp) (args0) ?_
  refine .regSeq (.z zg (.nil (.regSeq ?_)))
  refine .o (.call Tryz.call63 rfl (law09_example_spec hs) ?_); rintro _ w ⟨H1, hle1, ⟨ul, uw, rfl, hl, hw⟩, hs⟩
  obtain ⟨al, cl, rfl⟩ := RL.shape hl; obtain ⟨aw, cw, rfl⟩ := RI.shape hw
  refine .o (.alloc hs Tryz.zeroValue27 rfl ?_); intro b1 w hs
  refine .o (.stores (vs := [_, _, _, _]) hs rfl rfl Tryz.sizeOf27 ?_); intro w hs
  refine .nil (.regSeq (.y hs (zls [_, _, _, _] Tryz.isAgg27 Tryz.sizeOf27) ?_))
  refine .o (.call Tryz.call40 rfl (probe_Width_spec (a := exQ) hs ⟨_, _, rfl, hl, hw⟩) ?_); rintro _ w ⟨H2, n, e, hle2, rfl, hW, hs⟩
  obtain ⟨rfl, rfl⟩ : n = 23 ∧ e = 0 := by
    rcases hW with ⟨h1, h2, _⟩ | ⟨_, rfl, lo, hi, h3, rfl⟩
    · exact (h2 (h1.uniq (CAskR.zero.2 exQ_ok))).elim
    · obtain ⟨rfl, rfl, _⟩ := h3.uniq ex_range; exact ⟨rfl, rfl⟩
  replace hl := hl.mono hle2; replace hw := hw.mono hle2
  refine .z zm (.z zex (.z zex (.z zg (.z zg (.nil ?_)))))
  refine .cut (fun fs w => ∃ H3, FSub fs ⟨116, [], [(1, .pointer (some ⟨b1, 0, none⟩)), (2, I 23), (3, I 0), (4, I 7), (6, I 0)]⟩ ∧ HLe H2 H3 ∧ St H3 w (.blk b1 [I exQ.sys.many, .slice al exQ.sys.lims.length cl, .slice aw exQ.ws.length cw, I exQ.width] :: σ)) ?_ ?_
  · refine .draw mix rfl hs ?_; intro w hs
    refine .ys 0 rfl hs [_, _, _, _] Tryz.isAgg27 Tryz.sizeOf27 ?_
    refine .e2 (i := 1) (j := 8) (by kernel_rfl) rfl rfl rfl rfl .none .none hs ?_ ?_
    · refine .call Tryz.call64 rfl (law09_three_spec hs) ?_; rintro _ w ⟨H3, bt, hle3, rfl, hR, hs⟩
      refine .go ?_
      refine .p (i := 2) rfl (by kernel_rfl) .none (q_sliceHM (hi := 1) (mx := 1) rfl rfl rfl Tryz.runUnderlying28 Tryz.sizeOf54 (by omega) (by omega)) ?_
      refine .e2 (i := 3) (j := 8) (by kernel_rfl) rfl rfl rfl rfl .none .none hs ?_ ?_
      · refine .call Tryz.call36 rfl (probe_Worst_spec (a := exQ) hs ⟨_, _, rfl, hl.mono hle3, hw.mono hle3⟩ (ex_first hR)) ?_; rintro _ w ⟨H4, _, n, us, e, hle4, rfl, ⟨vu, rfl, hU⟩, hcase, hs⟩
        obtain ⟨rfl, hPS⟩ := ex_shown (by simp [exL]) (by decide) hcase
        obtain rfl := hPS.uniq ex_worst1
        obtain ⟨au, cu, rfl⟩ := RU.shape hU
        refine .go ?_
        refine .z 4 rfl zm ?_; refine .z 5 rfl zex ?_; refine .z 6 rfl zex ?_; refine .z 7 rfl zex ?_
        refine .e1 (i := 8) (by kernel_rfl) rfl rfl .none hs ?_
        refine .alloc hs Tryz.zeroValue63 rfl ?_; intro b5 w hs
        refine .go ?_
        refine .z 9 rfl zg ?_
        refine .e1 (i := 10) (by kernel_rfl) rfl rfl .none hs ?_
        refine .stores (vs := [_, _]) hs rfl rfl Tryz.sizeOf63 ?_; intro w hs
        refine .go ?_
        refine .z 11 rfl zg ?_; refine .done (by kernel_rfl) hs ?_
        exact nT ⟨H4, by repeat (first | exact .nil rfl rfl | refine .cons rfl ?_), hle3.trans hle4, hs.sub (by repeat (first | exact Sub.refl _ | constructor | apply Sub.weaken))⟩
      · refine .alloc hs Tryz.zeroValue63 rfl ?_; intro b5 w hs
        refine .go ?_
        refine .e1 (i := 3) (by kernel_rfl) rfl rfl .none hs ?_
        refine .call Tryz.call36 rfl (probe_Worst_spec (a := exQ) hs ⟨_, _, rfl, hl.mono hle3, hw.mono hle3⟩ (ex_first hR)) ?_; rintro _ w ⟨H4, _, n, us, e, hle4, rfl, ⟨vu, rfl, hU⟩, hcase, hs⟩
        obtain ⟨rfl, hPS⟩ := ex_shown (by simp [exL]) (by decide) hcase
        obtain rfl := hPS.uniq ex_worst1
        obtain ⟨au, cu, rfl⟩ := RU.shape hU
        refine .go ?_
        refine .z 4 rfl zm ?_; refine .z 5 rfl zex ?_; refine .z 6 rfl zex ?_; refine .z 7 rfl zex ?_; refine .z 9 rfl zg ?_
        refine .e1 (i := 10) (by kernel_rfl) rfl rfl .none hs ?_
        refine .stores (vs := [_, _]) hs rfl rfl Tryz.sizeOf63 ?_; intro w hs
        refine .go ?_
        refine .z 11 rfl zg ?_; refine .done (by kernel_rfl) hs ?_
        exact nT ⟨H4, by repeat (first | exact .nil rfl rfl | refine .cons rfl ?_), hle3.trans hle4, hs.sub (by repeat (first | exact Sub.refl _ | constructor | apply Sub.weaken))⟩
    · refine .alloc hs Tryz.zeroValue63 rfl ?_; intro b5 w hs
      refine .go ?_
      refine .e1 (i := 1) (by kernel_rfl) rfl rfl .none hs ?_
      refine .call Tryz.call64 rfl (law09_three_spec hs) ?_; rintro _ w ⟨H3, bt, hle3, rfl, hR, hs⟩
      refine .go ?_
      refine .p (i := 2) rfl (by kernel_rfl) .none (q_sliceHM (hi := 1) (mx := 1) rfl rfl rfl Tryz.runUnderlying28 Tryz.sizeOf54 (by omega) (by omega)) ?_
      refine .e1 (i := 3) (by kernel_rfl) rfl rfl .none hs ?_
      refine .call Tryz.call36 rfl (probe_Worst_spec (a := exQ) hs ⟨_, _, rfl, hl.mono hle3, hw.mono hle3⟩ (ex_first hR)) ?_; rintro _ w ⟨H4, _, n, us, e, hle4, rfl, ⟨vu, rfl, hU⟩, hcase, hs⟩
      obtain ⟨rfl, hPS⟩ := ex_shown (by simp [exL]) (by decide) hcase
      obtain rfl := hPS.uniq ex_worst1
      obtain ⟨au, cu, rfl⟩ := RU.shape hU
      refine .go ?_
      refine .z 4 rfl zm ?_; refine .z 5 rfl zex ?_; refine .z 6 rfl zex ?_; refine .z 7 rfl zex ?_; refine .z 9 rfl zg ?_
      refine .e1 (i := 10) (by kernel_rfl) rfl rfl .none hs ?_
      refine .stores (vs := [_, _]) hs rfl rfl Tryz.sizeOf63 ?_; intro w hs
      refine .go ?_
      refine .z 11 rfl zg ?_; refine .done (by kernel_rfl) hs ?_
      exact nT ⟨H4, by repeat (first | exact .nil rfl rfl | refine .cons rfl ?_), hle3.trans hle4, hs.sub (by repeat (first | exact Sub.refl _ | constructor | apply Sub.weaken))⟩
  · rintro fs w ⟨H3, hfs, hle3, hs⟩
    refine WE.sub ?_ hfs
    replace hl := hl.mono hle3; replace hw := hw.mono hle3
    refine .regSeq (.y hs (zls [_, _, _, _] Tryz.isAgg27 Tryz.sizeOf27) (.z (zbd [_, _] bld_api_Probe) ?_))
    refine .o (.buildSlice (cells := Prbs [⟨2, 0⟩]) hs bls_sl_api_Probe_1 rfl (by kernel_rfl) ?_); intro b34 w hs
    obtain ⟨H4, hle4, r4, hs⟩ := OwnS.publish (m := 2) (v := .slice (some ⟨b34, 0, none⟩) 1 1) (cs := [(⟨2, 0⟩ : Prb)].map Prb.c) (.full rfl) (by decide) (by decide) (by decide) hs (by repeat constructor)
    refine .o (.call Tryz.call36 rfl (probe_Worst_spec (a := exQ) (l := [⟨2, 0⟩]) hs ⟨_, _, rfl, hl.mono hle4, hw.mono hle4⟩ r4) ?_); rintro _ w ⟨H5, _, n, us, e, hle5, rfl, ⟨vu, rfl, hU⟩, hcase, hs⟩
    obtain ⟨rfl, hPS⟩ := ex_shown (by simp [exL]) (by decide) hcase
    obtain rfl := hPS.uniq ex_worst3
    obtain ⟨au, cu, rfl⟩ := RU.shape hU
    replace hl := hl.mono (hle4.trans hle5); replace hw := hw.mono (hle4.trans hle5)
    refine .z zm (.z zex (.z zex (.z zex ?_)))
    refine .o (.alloc hs Tryz.zeroValue63 rfl ?_); intro b8 w hs
    refine .z zg ?_
    refine .o (.stores (vs := [_, _]) hs rfl rfl Tryz.sizeOf63 ?_); intro w hs
    refine .z zg (.nil ?_)
    refine .cut (fun fs w => ∃ H6 b10 ap lp cp, FSub fs ⟨116, [], [(1, .pointer (some ⟨b1, 0, none⟩)), (2, I 23), (3, I 0), (4, I 7), (6, I 0), (7, I 3), (9, I 0), (10, .pointer (some ⟨b10, 0, none⟩)), (11, I 0)]⟩ ∧ HLe H5 H6 ∧ RI H6 (.slice ap lp cp) [0] ∧ ∃ bd vu vf, St H6 w (.blk b10 [.slice ap lp cp, I 7, bd, vu, vf] :: .blk b1 [I exQ.sys.many, .slice al exQ.sys.lims.length cl, .slice aw exQ.ws.length cw, I exQ.width] :: σ)) ?_ ?_
    · refine .draw mix rfl hs ?_; intro w hs
      refine .ys 0 rfl hs [_, _, _, _] Tryz.isAgg27 Tryz.sizeOf27 ?_
      refine .e2 (i := 1) (j := 6) (by kernel_rfl) rfl rfl rfl rfl .none .none hs ?_ ?_
      · refine .call Tryz.call64 rfl (law09_three_spec hs) ?_; rintro _ w ⟨H6, bt, hle6, rfl, hR, hs⟩
        refine .go ?_
        refine .e2 (i := 2) (j := 6) (by kernel_rfl) rfl rfl rfl rfl .none .none hs ?_ ?_
        · refine .call Tryz.call30 rfl (probe_Fewest_spec (a := exQ) hs ⟨_, _, rfl, hl.mono hle6, hw.mono hle6⟩ hR) ?_; rintro _ w ⟨H7, _, p, e, hle7, rfl, ⟨vp, vu, vf, css, rfl, k1, k2, k3, k4⟩, hcase, hs⟩
          obtain ⟨rfl, hp1, hp2⟩ : e = 0 ∧ p.probes = [0] ∧ p.width = 7 := by
            rcases hcase with ⟨h1, h2, _⟩ | ⟨_, h⟩
            · exact (h2 (h1.uniq (ex_prbs (fun _ h => h) (by decide)))).elim
            · exact ex_few h
          rw [hp1] at k1
          rw [hp2] at *
          obtain ⟨ap, cp, rfl⟩ := RI.shape k1; obtain ⟨au, cu, rfl⟩ := RU.shape k2; obtain ⟨af, cf, rfl⟩ := RS.shape k3
          refine .go ?_
          refine .z 3 rfl zm ?_; refine .z 4 rfl zex ?_; refine .z 5 rfl zex ?_
          refine .e1 (i := 6) (by kernel_rfl) rfl rfl .none hs ?_
          refine .alloc hs Tryz.zeroValue66 rfl ?_; intro b10 w hs
          refine .go ?_
          refine .e1 (i := 7) (by kernel_rfl) rfl rfl .none hs ?_
          refine .stores (vs := [_, _, _, _, _]) hs rfl rfl Tryz.sizeOf66 ?_; intro w hs
          refine .go ?_
          refine .z 8 rfl zg ?_; refine .done (by kernel_rfl) hs ?_
          exact nT ⟨H7, _, _, _, _, by repeat (first | exact .nil rfl rfl | refine .cons rfl ?_), hle6.trans hle7, k1, _, _, _, hs.sub (by repeat (first | exact Sub.refl _ | constructor | apply Sub.weaken))⟩
        · refine .alloc hs Tryz.zeroValue66 rfl ?_; intro b10 w hs
          refine .go ?_
          refine .e1 (i := 2) (by kernel_rfl) rfl rfl .none hs ?_
          refine .call Tryz.call30 rfl (probe_Fewest_spec (a := exQ) hs ⟨_, _, rfl, hl.mono hle6, hw.mono hle6⟩ hR) ?_; rintro _ w ⟨H7, _, p, e, hle7, rfl, ⟨vp, vu, vf, css, rfl, k1, k2, k3, k4⟩, hcase, hs⟩
          obtain ⟨rfl, hp1, hp2⟩ : e = 0 ∧ p.probes = [0] ∧ p.width = 7 := by
            rcases hcase with ⟨h1, h2, _⟩ | ⟨_, h⟩
            · exact (h2 (h1.uniq (ex_prbs (fun _ h => h) (by decide)))).elim
            · exact ex_few h
          rw [hp1] at k1
          rw [hp2] at *
          obtain ⟨ap, cp, rfl⟩ := RI.shape k1; obtain ⟨au, cu, rfl⟩ := RU.shape k2; obtain ⟨af, cf, rfl⟩ := RS.shape k3
          refine .go ?_
          refine .z 3 rfl zm ?_; refine .z 4 rfl zex ?_; refine .z 5 rfl zex ?_
          refine .e1 (i := 7) (by kernel_rfl) rfl rfl .none hs ?_
          refine .stores (vs := [_, _, _, _, _]) hs rfl rfl Tryz.sizeOf66 ?_; intro w hs
          refine .go ?_
          refine .z 8 rfl zg ?_; refine .done (by kernel_rfl) hs ?_
          exact nT ⟨H7, _, _, _, _, by repeat (first | exact .nil rfl rfl | refine .cons rfl ?_), hle6.trans hle7, k1, _, _, _, hs.sub (by repeat (first | exact Sub.refl _ | constructor | apply Sub.weaken))⟩
      · refine .alloc hs Tryz.zeroValue66 rfl ?_; intro b10 w hs
        refine .go ?_
        refine .e1 (i := 1) (by kernel_rfl) rfl rfl .none hs ?_
        refine .call Tryz.call64 rfl (law09_three_spec hs) ?_; rintro _ w ⟨H6, bt, hle6, rfl, hR, hs⟩
        refine .go ?_
        refine .e1 (i := 2) (by kernel_rfl) rfl rfl .none hs ?_
        refine .call Tryz.call30 rfl (probe_Fewest_spec (a := exQ) hs ⟨_, _, rfl, hl.mono hle6, hw.mono hle6⟩ hR) ?_; rintro _ w ⟨H7, _, p, e, hle7, rfl, ⟨vp, vu, vf, css, rfl, k1, k2, k3, k4⟩, hcase, hs⟩
        obtain ⟨rfl, hp1, hp2⟩ : e = 0 ∧ p.probes = [0] ∧ p.width = 7 := by
          rcases hcase with ⟨h1, h2, _⟩ | ⟨_, h⟩
          · exact (h2 (h1.uniq (ex_prbs (fun _ h => h) (by decide)))).elim
          · exact ex_few h
        rw [hp1] at k1
        rw [hp2] at *
        obtain ⟨ap, cp, rfl⟩ := RI.shape k1; obtain ⟨au, cu, rfl⟩ := RU.shape k2; obtain ⟨af, cf, rfl⟩ := RS.shape k3
        refine .go ?_
        refine .z 3 rfl zm ?_; refine .z 4 rfl zex ?_; refine .z 5 rfl zex ?_
        refine .e1 (i := 7) (by kernel_rfl) rfl rfl .none hs ?_
        refine .stores (vs := [_, _, _, _, _]) hs rfl rfl Tryz.sizeOf66 ?_; intro w hs
        refine .go ?_
        refine .z 8 rfl zg ?_; refine .done (by kernel_rfl) hs ?_
        exact nT ⟨H7, _, _, _, _, by repeat (first | exact .nil rfl rfl | refine .cons rfl ?_), hle6.trans hle7, k1, _, _, _, hs.sub (by repeat (first | exact Sub.refl _ | constructor | apply Sub.weaken))⟩
    · rintro fs w ⟨H6, b10, ap, lp, cp, hfs, hle6, hk1, bd, vu, vf, hs⟩
      refine WE.sub ?_ hfs
      replace hl := hl.mono hle6; replace hw := hw.mono hle6
      refine .regSeq ?_
      refine .o (.call Tryz.call64 rfl (law09_three_spec hs) ?_); rintro _ w ⟨H7, bt, hle7, rfl, hR, hs⟩
      refine .q hs (q_sliceHM (hi := 1) (mx := 1) rfl rfl rfl Tryz.runUnderlying28 Tryz.sizeOf54 (by omega) (by omega)) ?_
      refine .o (.buildSlice (cells := Is [0, 4, 4]) hs bls_sl_int_3 rfl (by kernel_rfl) ?_); intro b48 w hs
      refine .o (.buildSlice (cells := Is [0, 6, 9]) hs bls_sl_int_3 rfl (by kernel_rfl) ?_); intro b49 w hs
      obtain ⟨H8, hle8, r8, hs⟩ := OwnS.publishI (v := .slice (some ⟨b48, 0, none⟩) 3 3) (xs := [0, 4, 4]) (.full rfl) (by decide) hs (by repeat constructor)
      obtain ⟨H9, hle9, r9, hs⟩ := OwnS.publishI (v := .slice (some ⟨b49, 0, none⟩) 3 3) (xs := [0, 6, 9]) (.full rfl) (by decide) hs (by repeat constructor)
      refine .z (zbd [_, _] bld_api_Twins) ?_
      refine .o (.call Tryz.call18 rfl (probe_Meeting_spec hs ((ex_first hR).mono (hle8.trans hle9)) (r8.mono hle9) r9 (by decide)) ?_); rintro _ w ⟨H10, vo, e, hle10, rfl, rfl, hV, hs⟩
      rw [show meetErr [0, 4, 4] [0, 6, 9] [⟨1, 1⟩] = 0 by decide] at *
      replace hV : RI H10 vo [5] := by simpa [meetVals, gi] using hV
      obtain ⟨ao, co, rfl⟩ := RI.shape hV
      have hle610 := hle7.trans (hle8.trans (hle9.trans hle10))
      replace hl := hl.mono hle610; replace hw := hw.mono hle610
      refine .z zm (.z zex (.z zex ?_))
      refine .o (.alloc hs Tryz.zeroValue42 rfl ?_); intro b12 w hs
      refine .o (.stores (vs := [_]) hs rfl rfl Tryz.sizeOf42 ?_); intro w hs
      refine .z zg (.nil ?_)
      refine .seq (.draw mix rfl hs ?_); intro w hs
      refine .ys 0 rfl hs [_, _, _, _] Tryz.isAgg27 Tryz.sizeOf27 ?_
      refine .e1 (i := 1) (by kernel_rfl) rfl rfl .none hs ?_
      refine .call Tryz.call64 rfl (law09_three_spec hs) ?_; rintro _ w ⟨H11, bt2, hle11, rfl, hR, hs⟩
      refine .go ?_
      refine .e1 (i := 2) (by kernel_rfl) rfl rfl .none hs ?_
      refine .call Tryz.call12 rfl (probe_Best_spec (a := exQ) hs ⟨_, _, rfl, hl.mono hle11, hw.mono hle11⟩ hR) ?_; rintro _ w ⟨H12, x, e, hle12, rfl, hcase, hs⟩
      obtain ⟨rfl, rfl⟩ : x = 2 ∧ e = 0 := by
        rcases hcase with ⟨h1, h2, _⟩ | ⟨_, h⟩
        · exact (h2 (h1.uniq (ex_prbs (fun _ h => h) (by decide)))).elim
        · exact ex_bestP h
      have hle612 := hle610.trans (hle11.trans hle12)
      refine .go ?_
      refine .z 3 rfl zm ?_; refine .z 4 rfl zex ?_; refine .z 5 rfl zex ?_; refine .z 6 rfl zg ?_; refine .z 7 rfl zg ?_; refine .done (by kernel_rfl) hs ?_
      refine .regSeq (.z zm (.z zeql (.z zm ?_)))
      refine .bifD (t' := 62) rfl (fun hb62 => ?_) (fun hb62 => ?_)
      · refine .gT rfl rfl ?_
        refine .z zm ?_
        refine .gT rfl rfl ?_
        refine .z zeql (.z zpT (.z zm ?_))
        refine .bifD (t' := 66) rfl (fun hb66 => ?_) (fun hb66 => ?_)
        · refine .gT rfl rfl ?_
          refine .z zm ?_
          refine .gT rfl rfl ?_
          refine .z zeql (.z zpT (.z zm ?_))
          refine .bifD (t' := 70) rfl (fun hb70 => ?_) (fun hb70 => ?_)
          · refine .gT rfl rfl ?_
            refine .z zm ?_
            refine .gT rfl rfl ?_
            refine .z zeql (.z zpT (.z zm ?_))
            refine .bifD (t' := 74) rfl (fun hb74 => ?_) (fun hb74 => ?_)
            · refine .gT rfl rfl ?_
              refine .z zm ?_
              refine .gT rfl rfl ?_
              refine .z zeql (.z zpT (.z zm ?_))
              refine .bifD (t' := 78) rfl (fun hb78 => ?_) (fun hb78 => ?_)
              · refine .gT rfl rfl ?_
                refine .z zm ?_
                refine .gT rfl rfl ?_
                refine .z zeql (.z zpT (.z zg (.nil (.regSeq (.z zm (.z zm ?_))))))
                refine .bifD (t' := 83) rfl (fun hb83 => ?_) (fun hb83 => ?_)
                · refine .gT rfl rfl ?_
                  refine .z zm ?_
                  refine .gT rfl rfl ?_
                  refine .z zeql (.z zpT (.z zm ?_))
                  refine .bifD (t' := 87) rfl (fun hb87 => ?_) (fun hb87 => ?_)
                  · refine .gT rfl rfl ?_
                    refine .z zm ?_
                    refine .gT rfl rfl ?_
                    refine .z zeql (.z zpT (.z zm ?_))
                    refine .bifD (t' := 91) rfl (fun hb91 => ?_) (fun hb91 => ?_)
                    · refine .gT rfl rfl ?_
                      refine .z zm ?_
                      refine .gT rfl rfl ?_
                      refine .z zeql (.z zpT (.z zm ?_))
                      refine .bifD (t' := 95) rfl (fun hb95 => ?_) (fun hb95 => ?_)
                      · refine .gT rfl rfl ?_
                        refine .z (zfa fa_api_Pick_1) ?_
                        refine .gT rfl rfl ?_
                        refine .y hs (zld Tryz.isAgg3) ?_
                        refine .gT rfl rfl ?_
                        refine .z zeql (.z zpT (.z zm ?_))
                        refine .bifD (t' := 100) rfl (fun hb100 => ?_) (fun hb100 => ?_)
                        · refine .gT rfl rfl ?_
                          refine .z (zfa fa_api_Pick_0) ?_
                          refine .gT rfl rfl ?_
                          refine .y hs (zld Tryz.isAgg25) ?_
                          refine .gT rfl rfl ?_
                          refine .o (.buildSlice (cells := [_]) hs bls_sl_int_1 rfl rfl ?_); intro b103 w hs
                          refine .gT rfl rfl ?_
                          obtain ⟨H13, hle13, r13, hs⟩ := OwnS.publishI (v := .slice (some ⟨b103, 0, none⟩) 1 1) (xs := [0]) (.full rfl) (by decide) hs (by repeat constructor)
                          refine .o (.call Tryz.call20 rfl (ref02_Same_spec hs (hk1.mono (hle612.trans hle13)) r13) ?_); rintro _ w ⟨rfl, hs⟩
                          refine .z zpT (.z zm ?_)
                          refine .bif (t' := 106) rfl (fun hb106 => ?_) (fun hb106 => ?_)
                          · refine .gT rfl rfl ?_
                            refine .z (zfa fa_api_Outcome_0) ?_
                            refine .gT rfl rfl ?_
                            refine .y hs (zld Tryz.isAgg25) ?_
                            refine .gT rfl rfl ?_
                            refine .o (.buildSlice (cells := [_]) hs bls_sl_int_1 rfl rfl ?_); intro b109 w hs
                            refine .gT rfl rfl ?_
                            obtain ⟨H14, hle14, r14, hs⟩ := OwnS.publishI (v := .slice (some ⟨b109, 0, none⟩) 1 1) (xs := [5]) (.full rfl) (by decide) hs (by repeat constructor)
                            refine .o (.call Tryz.call20 rfl (ref02_Same_spec hs (hV.mono ((hle11.trans hle12).trans (hle13.trans hle14))) r14) ?_); rintro _ w ⟨rfl, hs⟩
                            refine .z zpT (.z zm ?_)
                            refine .bif (t' := 112) rfl (fun hb112 => ?_) (fun hb112 => ?_)
                            · refine .gT rfl rfl ?_
                              refine .z zm ?_
                              refine .gT rfl rfl ?_
                              refine .z zeql (.z zpT (.z zg (.nil ?_)))
                              refine .ret (Fin.ret1 Tryz.results15 rfl ?_)
                              first | (exfalso; first | omega | simp_all; done) | exact ⟨rfl, H14, ((hle1.trans hle2).trans (hle3.trans (hle4.trans hle5))).trans (hle6.trans (hle612.trans (hle13.trans hle14))), hs.out⟩
                            · refine .gFs 2 30 true rfl rfl rfl ?_
                              refine .z zpF (.z zg (.nil ?_))
                              refine .ret (Fin.ret1 Tryz.results15 rfl ?_)
                              first | (exfalso; first | omega | simp_all; done) | exact ⟨rfl, H14, ((hle1.trans hle2).trans (hle3.trans (hle4.trans hle5))).trans (hle6.trans (hle612.trans (hle13.trans hle14))), hs.out⟩
                          · refine .gFs 4 24 true rfl rfl rfl ?_
                            refine .z zpF (.z zm ?_)
                            refine .gFs 2 30 true rfl rfl rfl ?_
                            refine .z zpF (.z zg (.nil ?_))
                            refine .ret (Fin.ret1 Tryz.results15 rfl ?_)
                            first | (exfalso; first | omega | simp_all; done) | exact ⟨rfl, H14, ((hle1.trans hle2).trans (hle3.trans (hle4.trans hle5))).trans (hle6.trans (hle612.trans (hle13.trans hle14))), hs.out⟩
                        · refine .gFs 4 18 true rfl rfl rfl ?_
                          refine .z zpF (.z zm ?_)
                          refine .gFs 4 24 true rfl rfl rfl ?_
                          refine .z zpF (.z zm ?_)
                          refine .gFs 2 30 true rfl rfl rfl ?_
                          refine .z zpF (.z zg (.nil ?_))
                          refine .ret (Fin.ret1 Tryz.results15 rfl ?_)
                          first | (exfalso; first | omega | simp_all; done) | exact ⟨rfl, H14, ((hle1.trans hle2).trans (hle3.trans (hle4.trans hle5))).trans (hle6.trans (hle612.trans (hle13.trans hle14))), hs.out⟩
                      · refine .gFs 3 13 true rfl rfl rfl ?_
                        refine .z zpF (.z zm ?_)
                        refine .gFs 4 18 true rfl rfl rfl ?_
                        refine .z zpF (.z zm ?_)
                        refine .gFs 4 24 true rfl rfl rfl ?_
                        refine .z zpF (.z zm ?_)
                        refine .gFs 2 30 true rfl rfl rfl ?_
                        refine .z zpF (.z zg (.nil ?_))
                        refine .ret (Fin.ret1 Tryz.results15 rfl ?_)
                        first | (exfalso; first | omega | simp_all; done) | exact ⟨rfl, H14, ((hle1.trans hle2).trans (hle3.trans (hle4.trans hle5))).trans (hle6.trans (hle612.trans (hle13.trans hle14))), hs.out⟩
                    · refine .gFs 2 9 true rfl rfl rfl ?_
                      refine .z zpF (.z zm ?_)
                      refine .gFs 3 13 true rfl rfl rfl ?_
                      refine .z zpF (.z zm ?_)
                      refine .gFs 4 18 true rfl rfl rfl ?_
                      refine .z zpF (.z zm ?_)
                      refine .gFs 4 24 true rfl rfl rfl ?_
                      refine .z zpF (.z zm ?_)
                      refine .gFs 2 30 true rfl rfl rfl ?_
                      refine .z zpF (.z zg (.nil ?_))
                      refine .ret (Fin.ret1 Tryz.results15 rfl ?_)
                      first | (exfalso; first | omega | simp_all; done) | exact ⟨rfl, H14, ((hle1.trans hle2).trans (hle3.trans (hle4.trans hle5))).trans (hle6.trans (hle612.trans (hle13.trans hle14))), hs.out⟩
                  · refine .gFs 2 5 true rfl rfl rfl ?_
                    refine .z zpF (.z zm ?_)
                    refine .gFs 2 9 true rfl rfl rfl ?_
                    refine .z zpF (.z zm ?_)
                    refine .gFs 3 13 true rfl rfl rfl ?_
                    refine .z zpF (.z zm ?_)
                    refine .gFs 4 18 true rfl rfl rfl ?_
                    refine .z zpF (.z zm ?_)
                    refine .gFs 4 24 true rfl rfl rfl ?_
                    refine .z zpF (.z zm ?_)
                    refine .gFs 2 30 true rfl rfl rfl ?_
                    refine .z zpF (.z zg (.nil ?_))
                    refine .ret (Fin.ret1 Tryz.results15 rfl ?_)
                    first | (exfalso; first | omega | simp_all; done) | exact ⟨rfl, H14, ((hle1.trans hle2).trans (hle3.trans (hle4.trans hle5))).trans (hle6.trans (hle612.trans (hle13.trans hle14))), hs.out⟩
                · refine .gFs 2 1 true rfl rfl rfl ?_
                  refine .z zpF (.z zm ?_)
                  refine .gFs 2 5 true rfl rfl rfl ?_
                  refine .z zpF (.z zm ?_)
                  refine .gFs 2 9 true rfl rfl rfl ?_
                  refine .z zpF (.z zm ?_)
                  refine .gFs 3 13 true rfl rfl rfl ?_
                  refine .z zpF (.z zm ?_)
                  refine .gFs 4 18 true rfl rfl rfl ?_
                  refine .z zpF (.z zm ?_)
                  refine .gFs 4 24 true rfl rfl rfl ?_
                  refine .z zpF (.z zm ?_)
                  refine .gFs 2 30 true rfl rfl rfl ?_
                  refine .z zpF (.z zg (.nil ?_))
                  refine .ret (Fin.ret1 Tryz.results15 rfl ?_)
                  first | (exfalso; first | omega | simp_all; done) | exact ⟨rfl, H14, ((hle1.trans hle2).trans (hle3.trans (hle4.trans hle5))).trans (hle6.trans (hle612.trans (hle13.trans hle14))), hs.out⟩
              · refine .gFs 2 18 true rfl rfl rfl ?_
                refine .z zpF (.z zg (.nil (.regSeq (.z zm (.z zm ?_)))))
                refine .gFs 2 1 true rfl rfl rfl ?_
                refine .z zpF (.z zm ?_)
                refine .gFs 2 5 true rfl rfl rfl ?_
                refine .z zpF (.z zm ?_)
                refine .gFs 2 9 true rfl rfl rfl ?_
                refine .z zpF (.z zm ?_)
                refine .gFs 3 13 true rfl rfl rfl ?_
                refine .z zpF (.z zm ?_)
                refine .gFs 4 18 true rfl rfl rfl ?_
                refine .z zpF (.z zm ?_)
                refine .gFs 4 24 true rfl rfl rfl ?_
                refine .z zpF (.z zm ?_)
                refine .gFs 2 30 true rfl rfl rfl ?_
                refine .z zpF (.z zg (.nil ?_))
                refine .ret (Fin.ret1 Tryz.results15 rfl ?_)
                first | (exfalso; first | omega | simp_all; done) | exact ⟨rfl, H14, ((hle1.trans hle2).trans (hle3.trans (hle4.trans hle5))).trans (hle6.trans (hle612.trans (hle13.trans hle14))), hs.out⟩
            · refine .gFs 2 14 true rfl rfl rfl ?_
              refine .z zpF (.z zm ?_)
              refine .gFs 2 18 true rfl rfl rfl ?_
              refine .z zpF (.z zg (.nil (.regSeq (.z zm (.z zm ?_)))))
              refine .gFs 2 1 true rfl rfl rfl ?_
              refine .z zpF (.z zm ?_)
              refine .gFs 2 5 true rfl rfl rfl ?_
              refine .z zpF (.z zm ?_)
              refine .gFs 2 9 true rfl rfl rfl ?_
              refine .z zpF (.z zm ?_)
              refine .gFs 3 13 true rfl rfl rfl ?_
              refine .z zpF (.z zm ?_)
              refine .gFs 4 18 true rfl rfl rfl ?_
              refine .z zpF (.z zm ?_)
              refine .gFs 4 24 true rfl rfl rfl ?_
              refine .z zpF (.z zm ?_)
              refine .gFs 2 30 true rfl rfl rfl ?_
              refine .z zpF (.z zg (.nil ?_))
              refine .ret (Fin.ret1 Tryz.results15 rfl ?_)
              first | (exfalso; first | omega | simp_all; done) | exact ⟨rfl, H14, ((hle1.trans hle2).trans (hle3.trans (hle4.trans hle5))).trans (hle6.trans (hle612.trans (hle13.trans hle14))), hs.out⟩
          · refine .gFs 2 10 true rfl rfl rfl ?_
            refine .z zpF (.z zm ?_)
            refine .gFs 2 14 true rfl rfl rfl ?_
            refine .z zpF (.z zm ?_)
            refine .gFs 2 18 true rfl rfl rfl ?_
            refine .z zpF (.z zg (.nil (.regSeq (.z zm (.z zm ?_)))))
            refine .gFs 2 1 true rfl rfl rfl ?_
            refine .z zpF (.z zm ?_)
            refine .gFs 2 5 true rfl rfl rfl ?_
            refine .z zpF (.z zm ?_)
            refine .gFs 2 9 true rfl rfl rfl ?_
            refine .z zpF (.z zm ?_)
            refine .gFs 3 13 true rfl rfl rfl ?_
            refine .z zpF (.z zm ?_)
            refine .gFs 4 18 true rfl rfl rfl ?_
            refine .z zpF (.z zm ?_)
            refine .gFs 4 24 true rfl rfl rfl ?_
            refine .z zpF (.z zm ?_)
            refine .gFs 2 30 true rfl rfl rfl ?_
            refine .z zpF (.z zg (.nil ?_))
            refine .ret (Fin.ret1 Tryz.results15 rfl ?_)
            first | (exfalso; first | omega | simp_all; done) | exact ⟨rfl, H14, ((hle1.trans hle2).trans (hle3.trans (hle4.trans hle5))).trans (hle6.trans (hle612.trans (hle13.trans hle14))), hs.out⟩
        · refine .gFs 2 6 true rfl rfl rfl ?_
          refine .z zpF (.z zm ?_)
          refine .gFs 2 10 true rfl rfl rfl ?_
          refine .z zpF (.z zm ?_)
          refine .gFs 2 14 true rfl rfl rfl ?_
          refine .z zpF (.z zm ?_)
          refine .gFs 2 18 true rfl rfl rfl ?_
          refine .z zpF (.z zg (.nil (.regSeq (.z zm (.z zm ?_)))))
          refine .gFs 2 1 true rfl rfl rfl ?_
          refine .z zpF (.z zm ?_)
          refine .gFs 2 5 true rfl rfl rfl ?_
          refine .z zpF (.z zm ?_)
          refine .gFs 2 9 true rfl rfl rfl ?_
          refine .z zpF (.z zm ?_)
          refine .gFs 3 13 true rfl rfl rfl ?_
          refine .z zpF (.z zm ?_)
          refine .gFs 4 18 true rfl rfl rfl ?_
          refine .z zpF (.z zm ?_)
          refine .gFs 4 24 true rfl rfl rfl ?_
          refine .z zpF (.z zm ?_)
          refine .gFs 2 30 true rfl rfl rfl ?_
          refine .z zpF (.z zg (.nil ?_))
          refine .ret (Fin.ret1 Tryz.results15 rfl ?_)
          first | (exfalso; first | omega | simp_all; done) | exact ⟨rfl, H14, ((hle1.trans hle2).trans (hle3.trans (hle4.trans hle5))).trans (hle6.trans (hle612.trans (hle13.trans hle14))), hs.out⟩
      · refine .gFs 2 2 true rfl rfl rfl ?_
        refine .z zpF (.z zm ?_)
        refine .gFs 2 6 true rfl rfl rfl ?_
        refine .z zpF (.z zm ?_)
        refine .gFs 2 10 true rfl rfl rfl ?_
        refine .z zpF (.z zm ?_)
        refine .gFs 2 14 true rfl rfl rfl ?_
        refine .z zpF (.z zm ?_)
        refine .gFs 2 18 true rfl rfl rfl ?_
        refine .z zpF (.z zg (.nil (.regSeq (.z zm (.z zm ?_)))))
        refine .gFs 2 1 true rfl rfl rfl ?_
        refine .z zpF (.z zm ?_)
        refine .gFs 2 5 true rfl rfl rfl ?_
        refine .z zpF (.z zm ?_)
        refine .gFs 2 9 true rfl rfl rfl ?_
        refine .z zpF (.z zm ?_)
        refine .gFs 3 13 true rfl rfl rfl ?_
        refine .z zpF (.z zm ?_)
        refine .gFs 4 18 true rfl rfl rfl ?_
        refine .z zpF (.z zm ?_)
        refine .gFs 4 24 true rfl rfl rfl ?_
        refine .z zpF (.z zm ?_)
        refine .gFs 2 30 true rfl rfl rfl ?_
        refine .z zpF (.z zg (.nil ?_))
        refine .ret (Fin.ret1 Tryz.results15 rfl ?_)
        first | (exfalso; first | omega | simp_all; done) | exact ⟨rfl, H14, ((hle1.trans hle2).trans (hle3.trans (hle4.trans hle5))).trans (hle6.trans (hle612.trans (hle13.trans hle14))), hs.out⟩
end Go.Proofs.YtiiokdeehlfeeaaGreat

namespace Go.Proofs.YtiiokdeehlfeeaaGreat
open Go.MW
def ways0 (i j : Nat) : Int := if i = j then 0 else free
theorem ways0_B {n : Nat} (es : List Arc) {T : Nat → Nat → Int} (h : ∀ i j, i < n → j < n → T i j = ways0 i j) : WayB n es 0 T :=
  ⟨fun i hi => by rw [h i i hi hi]; simp [ways0], fun _ _ h => by omega, fun i j hi hj hij => .inl (by rw [h i j hi hj]; simp [ways0, hij])⟩
set_option maxHeartbeats 4000000 in
theorem ref02_Ways_spec {H : Heap} {w : World} {σ : List Ent} {v : Value} {s : Syst} (hs : St H w σ) (hr : RSy H v s) (hok : s.Ok) :
    Cl Tryz.prog 126 [v] w fun u w' => ∃ H1 rs, HLe H H1 ∧ RT H1 u rs ∧ Sq s.n rs ∧ WaysT s.n s.arcs (gt rs) ∧ St H1 w' σ := by
  obtain ⟨ul, rfl, hl⟩ := hr
  obtain ⟨al, cl, rfl⟩ := RL.shape hl
  have hm0 := hok.m0
  have hm1 := hok.m1
  have hlen := hok.len
  have hnp := s.n_pos
  have hn65 := hok.n65
  have hinn := hok.inn
  have hmn : s.many + 1 = (s.n : Int) := by simp only [Syst.n]; omega
  generalize hn : s.n = n at hnp hn65 hinn hmn ⊢
  refine Cl.of Tryz.func126 rfl Tryz.ntmps126 (by simp) (args_cons (k := 0) rfl (args0)) ?_
  refine .regSeq ?_
  refine .o (.box hs rfl rfl ?_); intro b1 w hs
  refine .z zg (.nil (.regSeq (.z (zfa fa_api_System_0) ?_)))
  first | refine .q hs (q_load rfl Tryz.isAgg3 (hm := by repeat (first | exact .here | assumption | exact Mem.row (by omega) (by omega) | refine .there ?_ | refine Mem.app2 ?_)) (hv := by first | rfl | exact ptr_get (by omega) | exact Is_gt (by assumption) (by omega) (by omega) | exact Is_gi (by first | assumption | omega))) ?_ | refine .q hs (q_loadR rfl Tryz.isAgg3 (by assumption)) ?_
  refine .z zadd ?_
  rw [hmn]
  refine .z zg (.nil (.regSeq (.z zm ?_)))
  refine .o (.makeP n hs rfl rfl Tryz.runUnderlying29 Tryz.typeInfo25 rfl Tryz.sizeOf25 Tryz.zeroValue25 (by omega) ?_); intro b16 w hs
  refine .z zg (.nil (.seq (.regSeq (.z zm (.z (zlen Tryz.runUnderlying29) (.z zm (.nil ?_)))))))
  refine .for (N := n) (J := fun k fr w => fr = [(3, I (n : Int)), (4, .slice (some ⟨b16, 0, none⟩) n n), (1, .pointer (some ⟨b1, 0, none⟩))] ∧ ∃ bs : List Nat, bs.length = k ∧ St H w (.blk b16 (bs.map (ptr n) ++ List.replicate (n - k) (.slice none 0 0)) :: (rowsE bs (tabR ways0 n k) ++ (.blk b1 [I s.many, .slice al s.lims.length cl] :: σ)))) (by omega) ?_ ?_ ?_
  · exact .mk ⟨rfl, [], rfl, hs⟩
  · rintro k fr w hk ⟨rfl, bs, hbl, hs⟩
    refine .block (.regSeq (.z zm (.z zg (.nil (.regSeq (.z zm (.z zm (.z zm ?_))))))))
    refine .o (.makeI n hs rfl rfl Tryz.runUnderlying25 Tryz.typeInfo3 rfl Tryz.sizeOf3 Tryz.zeroValue3 (by omega) ?_); intro b25 w hs
    first | (refine .ixw hs Tryz.runUnderlying29 Tryz.sizeOf25 ?_; intro b26 o26 hc26) | refine .z (zix Tryz.runUnderlying29 Tryz.sizeOf25) ?_
    refine .o (.store hs rfl rfl Tryz.sizeOf25 ?_ (by repeat constructor) (by simp [hbl]; omega) (ptr_set hbl hk)); intro w hs
    refine .nil (.regSeq (.z zm (.z zm ?_)))
    first | (refine .ixw hs Tryz.runUnderlying29 Tryz.sizeOf25 ?_; intro b29 o29 hc29) | refine .z (zix Tryz.runUnderlying29 Tryz.sizeOf25) ?_
    refine .q hs (q_load rfl Tryz.isAgg25 (hv := ptr_last hbl)) ?_
    refine .z (zlen Tryz.runUnderlying25) (.z zm (.nil ?_))
    refine .for (N := n) (J := fun j fr w => fr = [(5, I (k : Int)), (19, I (k : Int)), (18, I (n : Int)), (3, I (n : Int)), (4, .slice (some ⟨b16, 0, none⟩) n n), (1, .pointer (some ⟨b1, 0, none⟩))] ∧ St H w (.blk b25 (Is ((List.range n).map fun c => if c < j ∧ k ≠ c then free else 0)) :: .blk b16 ((bs ++ [b25]).map (ptr n) ++ List.replicate (n - (k + 1)) (.slice none 0 0)) :: (rowsE bs (tabR ways0 n k) ++ (.blk b1 [I s.many, .slice al s.lims.length cl] :: σ)))) (by omega) ?_ ?_ ?_
    · rw [range_const (fun c => if c < 0 ∧ k ≠ c then free else 0) n 0 (fun j _ => by simp)] at hs
      exact .mk ⟨rfl, hs⟩
    · rintro j fr w hj ⟨rfl, hs⟩
      refine .block (.regSeq (.z zm (.z zg (.nil (.regSeq (.z zm (.z zm (.z zneq (.nil ?_)))))))))
      refine (.condN rfl (fun hc37 => ?_) (fun hc37 => ?_))
      · refine .region (.z zm (.z zm ?_))
        first | (refine .ixw hs Tryz.runUnderlying29 Tryz.sizeOf25 ?_; intro b40 o40 hc40) | refine .z (zix Tryz.runUnderlying29 Tryz.sizeOf25) ?_
        refine .q hs (q_load rfl Tryz.isAgg25 (hv := ptr_last hbl)) ?_
        refine .z zm ?_
        first | (refine .ixv hs Tryz.runUnderlying25 Tryz.sizeOf3 ?_; intro b43 o43 hc43) | refine .z (zix Tryz.runUnderlying25 Tryz.sizeOf3) ?_
        refine .o (.store hs rfl rfl Tryz.sizeOf3 ?_ (by repeat constructor) (blt_Is (by simp; omega)) (Is_set _ _ _)); intro w hs
        refine .nil ?_
        refine nB (nT ?_)
        rw [range_set _ (fun c => if c < j + 1 ∧ k ≠ c then free else 0) hj 1000000000 (fun c _ => by
          by_cases e : c = j
          · subst e; rw [if_pos rfl, if_pos ⟨by omega, by omega⟩]
          · rw [if_neg e]; congr 1; apply propext; omega)] at hs
        exact .mk ⟨rfl, hs⟩
      · refine .skip ?_
        refine nB (nT ?_)
        rw [range_congr (g := fun c => if c < j + 1 ∧ k ≠ c then free else 0) (fun c _ => by
          by_cases e : c = j
          · subst e; rw [if_neg (by omega), if_neg (by omega)]
          · congr 1; apply propext; omega)] at hs
        exact .mk ⟨rfl, hs⟩
    · rintro fr w ⟨rfl, hs⟩
      rw [range_congr (g := ways0 k) (fun c hc => by
        unfold ways0
        by_cases e : k = c
        · rw [if_neg (by omega), if_pos e]
        · rw [if_pos ⟨hc, e⟩, if_neg e])] at hs
      replace hs := hs.rowIn (by rw [hbl, tabR_length])
      rw [← tabR_succ] at hs
      refine nB (nT ?_)
      exact .mk ⟨rfl, bs ++ [b25], by simp [hbl], hs⟩
  · rintro fr w ⟨rfl, bs, hbl, hs⟩
    rw [Nat.sub_self, List.replicate_zero, List.append_nil] at hs
    refine nT ?_
    refine .seq (.regSeq (.z (zfa fa_api_System_1) ?_))
    first | refine .q hs (q_load rfl Tryz.isAgg22 (hm := by repeat (first | exact .here | assumption | exact Mem.row (by omega) (by omega) | refine .there ?_ | refine Mem.app2 ?_)) (hv := by first | rfl | exact ptr_get (by omega) | exact Is_gt (by assumption) (by omega) (by omega) | exact Is_gi (by first | assumption | omega))) ?_ | refine .q hs (q_loadR rfl Tryz.isAgg22 (by assumption)) ?_
    refine .z (zlen Tryz.runUnderlying22) (.z zm (.nil ?_))
    refine .for (N := s.lims.length) (J := fun k fr w => fr = [(47, .slice al s.lims.length cl), (4, .slice (some ⟨b16, 0, none⟩) n n)] ∧ ∃ rs, Sq n rs ∧ WayB n s.arcs k (gt rs) ∧ St H w (.blk b16 (bs.map (ptr n)) :: (rowsE bs rs ++ (.blk b1 [I s.many, .slice al s.lims.length cl] :: σ)))) (by omega) ?_ ?_ ?_
    · exact .mk ⟨rfl, _, tabR_sq ways0 n, ways0_B s.arcs (fun i j hi hj => tabR_gt ways0 hi hj), hs⟩
    · rintro k fr w hk ⟨rfl, rs, hq, hB, hs⟩
      obtain ⟨x, hx⟩ := nth (l := s.lims) hk
      have hrl := hq.1
      obtain ⟨⟨xa0, xa1⟩, ⟨xb0, xb1⟩, xne, xM, -⟩ := hok.lim x (List.mem_of_getElem? hx)
      have ha : x.A.toNat < n := by omega
      have hb : x.B.toNat < n := by omega
      have hga := arcsOf_get hx
      refine .block (.regSeq ?_)
      refine .ixX (enc := Lim.c) hs hl rfl rfl Tryz.runUnderlying22 Tryz.sizeOf157 hx rfl ?_; intro b51 o51 hc51
      refine .q hs (q_loadsR (vs := x.c) rfl Tryz.isAgg157 Tryz.sizeOf157 hc51) ?_
      refine .o (.alloc hs Tryz.zeroValue157 rfl ?_); intro b8 w hs
      refine .o (.stores (vs := x.c) hs rfl rfl Tryz.sizeOf157 ?_); intro w hs
      refine .nil ?_
      refine .draw mix rfl hs ?_; intro w hs
      refine .z 0 rfl zm ?_; refine .z 1 rfl (zfa fa_api_Limit_0) ?_
      first | refine .load (i := 2) hs rfl (by kernel_rfl) .none rfl Tryz.isAgg3 ?_ (by repeat (first | exact .here | assumption | exact Mem.row (by omega) (by omega) | refine .there ?_ | refine Mem.app2 ?_)) (by first | rfl | exact ptr_get (by omega) | exact Is_gt (by assumption) (by omega) (by omega) | exact Is_gi (by first | assumption | omega)) | refine .r (i := 2) hs rfl (by kernel_rfl) .none (q_loadR rfl Tryz.isAgg3 (by assumption)) ?_
      refine .p (i := 3) rfl (by kernel_rfl) .none (q_ixO (k := x.A.toNat) rfl rfl Tryz.runUnderlying29 Tryz.sizeOf25 (by omega) ha) ?_
      first | refine .load (i := 4) hs rfl (by kernel_rfl) .none rfl Tryz.isAgg25 ?_ (by repeat (first | exact .here | assumption | exact Mem.row (by omega) (by omega) | refine .there ?_ | refine Mem.app2 ?_)) (by first | rfl | exact ptr_get (by omega) | exact Is_gt (by assumption) (by omega) (by omega) | exact Is_gi (by first | assumption | omega)) | refine .r (i := 4) hs rfl (by kernel_rfl) .none (q_loadR rfl Tryz.isAgg25 (by assumption)) ?_
      refine .z 5 rfl (zfa fa_api_Limit_1) ?_
      first | refine .load (i := 6) hs rfl (by kernel_rfl) .none rfl Tryz.isAgg3 ?_ (by repeat (first | exact .here | assumption | exact Mem.row (by omega) (by omega) | refine .there ?_ | refine Mem.app2 ?_)) (by first | rfl | exact ptr_get (by omega) | exact Is_gt (by assumption) (by omega) (by omega) | exact Is_gi (by first | assumption | omega)) | refine .r (i := 6) hs rfl (by kernel_rfl) .none (q_loadR rfl Tryz.isAgg3 (by assumption)) ?_
      refine .z 7 rfl zm ?_; refine .z 8 rfl (zfa fa_api_Limit_0) ?_
      first | refine .load (i := 9) hs rfl (by kernel_rfl) .none rfl Tryz.isAgg3 ?_ (by repeat (first | exact .here | assumption | exact Mem.row (by omega) (by omega) | refine .there ?_ | refine Mem.app2 ?_)) (by first | rfl | exact ptr_get (by omega) | exact Is_gt (by assumption) (by omega) (by omega) | exact Is_gi (by first | assumption | omega)) | refine .r (i := 9) hs rfl (by kernel_rfl) .none (q_loadR rfl Tryz.isAgg3 (by assumption)) ?_
      refine .p (i := 10) rfl (by kernel_rfl) .none (q_ixO (k := x.A.toNat) rfl rfl Tryz.runUnderlying29 Tryz.sizeOf25 (by omega) ha) ?_
      first | refine .load (i := 11) hs rfl (by kernel_rfl) .none rfl Tryz.isAgg25 ?_ (by repeat (first | exact .here | assumption | exact Mem.row (by omega) (by omega) | refine .there ?_ | refine Mem.app2 ?_)) (by first | rfl | exact ptr_get (by omega) | exact Is_gt (by assumption) (by omega) (by omega) | exact Is_gi (by first | assumption | omega)) | refine .r (i := 11) hs rfl (by kernel_rfl) .none (q_loadR rfl Tryz.isAgg25 (by assumption)) ?_
      refine .z 12 rfl (zfa fa_api_Limit_1) ?_
      first | refine .load (i := 13) hs rfl (by kernel_rfl) .none rfl Tryz.isAgg3 ?_ (by repeat (first | exact .here | assumption | exact Mem.row (by omega) (by omega) | refine .there ?_ | refine Mem.app2 ?_)) (by first | rfl | exact ptr_get (by omega) | exact Is_gt (by assumption) (by omega) (by omega) | exact Is_gi (by first | assumption | omega)) | refine .r (i := 13) hs rfl (by kernel_rfl) .none (q_loadR rfl Tryz.isAgg3 (by assumption)) ?_
      refine .p (i := 14) rfl (by kernel_rfl) .none (q_ixO (k := x.B.toNat) rfl rfl Tryz.runUnderlying25 Tryz.sizeOf3 (by omega) hb) ?_
      first | refine .load (i := 15) hs rfl (by kernel_rfl) .none rfl Tryz.isAgg3 ?_ (by repeat (first | exact .here | assumption | exact Mem.row (by omega) (by omega) | refine .there ?_ | refine Mem.app2 ?_)) (by first | rfl | exact ptr_get (by omega) | exact Is_gt (by assumption) (by omega) (by omega) | exact Is_gi (by first | assumption | omega)) | refine .r (i := 15) hs rfl (by kernel_rfl) .none (q_loadR rfl Tryz.isAgg3 (by assumption)) ?_
      refine .z 16 rfl (zfa fa_api_Limit_2) ?_
      first | refine .load (i := 17) hs rfl (by kernel_rfl) .none rfl Tryz.isAgg3 ?_ (by repeat (first | exact .here | assumption | exact Mem.row (by omega) (by omega) | refine .there ?_ | refine Mem.app2 ?_)) (by first | rfl | exact ptr_get (by omega) | exact Is_gt (by assumption) (by omega) (by omega) | exact Is_gi (by first | assumption | omega)) | refine .r (i := 17) hs rfl (by kernel_rfl) .none (q_loadR rfl Tryz.isAgg3 (by assumption)) ?_
      refine .z 18 rfl zmin ?_
      refine .p (i := 19) rfl (by kernel_rfl) .none (q_ixO (k := x.B.toNat) rfl rfl Tryz.runUnderlying25 Tryz.sizeOf3 (by omega) hb) ?_
      refine .e1 (i := 20) (by kernel_rfl) rfl rfl .none hs ?_ (hp := by repeat (first | exact .nil | refine .cons (by first | exact HLe.bot _ | exact HLe.refl _ | assumption) (by first | exact .nil | (refine Sub.one ?_; repeat (first | exact .here | assumption | exact Mem.row (by omega) (by omega) | refine .there ?_ | refine Mem.app2 ?_))) ?_))
      refine .store hs rfl rfl Tryz.sizeOf3 ?_ (.there (.there (Upd.row _ (by omega) (by omega)))) (blt_Is (by rw [hq.2 _ ha]; exact hb)) (Is_set _ _ _); intro w hs
      refine .go ?_
      refine .done (by kernel_rfl) hs ?_ (hp := by repeat (first | exact .nil | refine .cons (by first | exact HLe.bot _ | exact HLe.refl _ | assumption) (by first | exact .nil | (refine Sub.one ?_; repeat (first | exact .here | assumption | exact Mem.row (by omega) (by omega) | refine .there ?_ | refine Mem.app2 ?_))) ?_))
      refine nB (nT ?_)
      exact .mk ⟨rfl, _, hq.set ha _, by rw [gt_set hq ha hb]; exact hB.step hinn hga, hs.tail⟩
    · rintro fr w ⟨rfl, rs, hq, hB, hs⟩
      rw [← arcsOf_length] at hB
      have hI := hB.go hinn hnp
      have hcb : ∀ x ∈ s.arcs, -20000 ≤ x.c ∧ x.c ≤ 20000 := fun x hx => by have := hinn x hx; omega
      refine nT ?_
      refine .seq (.regSeq (.z zm (.z (zlen Tryz.runUnderlying29) (.z zm (.nil ?_)))))
      refine .for (N := n) (J := fun m fr w => fr = [(4, .slice (some ⟨b16, 0, none⟩) n n)] ∧ ∃ rs, Sq n rs ∧ (m < n → WayI n s.arcs m (fun _ _ => False) (gt rs)) ∧ (m = n → WaysT n s.arcs (gt rs)) ∧ St H w (.blk b16 (bs.map (ptr n)) :: (rowsE bs rs ++ (.blk b1 [I s.many, .slice al s.lims.length cl] :: σ)))) (by omega) ?_ ?_ ?_
      · exact .mk ⟨rfl, rs, hq, fun _ => hI, fun e => by omega, hs⟩
      · clear hI hB hq
        rintro m fr w hm ⟨rfl, rs, hq, hI, -, hs⟩
        replace hI := hI hm
        refine .block (.regSeq (.z zm (.z zg (.nil (.regSeq (.z zm (.z (zlen Tryz.runUnderlying29) (.z zm (.nil ?_)))))))))
        refine .for (N := n) (J := fun i fr w => fr = [(9, I (m : Int)), (76, I (m : Int)), (75, I (n : Int)), (4, .slice (some ⟨b16, 0, none⟩) n n)] ∧ ∃ rs, Sq n rs ∧ WayI n s.arcs m (fun a _ => a < i) (gt rs) ∧ St H w (.blk b16 (bs.map (ptr n)) :: (rowsE bs rs ++ (.blk b1 [I s.many, .slice al s.lims.length cl] :: σ)))) (by omega) ?_ ?_ ?_
        · exact .mk ⟨rfl, rs, hq, hI.skip hcb hm (P := fun _ _ => False) (fun i j h => by omega) (fun _ _ _ _ h => h.elim), hs⟩
        · clear hI hq
          rintro i fr w hi ⟨rfl, rs, hq, hI, hs⟩
          refine .block (.regSeq (.z zm (.z zg (.nil (.regSeq (.z zm (.z (zlen Tryz.runUnderlying29) (.z zm (.nil ?_)))))))))
          refine .for (N := n) (J := fun k fr w => fr = [(10, I (i : Int)), (81, I (i : Int)), (80, I (n : Int)), (9, I (m : Int)), (76, I (m : Int)), (75, I (n : Int)), (4, .slice (some ⟨b16, 0, none⟩) n n)] ∧ ∃ rs, Sq n rs ∧ WayI n s.arcs m (fun a b => a < i ∨ (a = i ∧ b < k)) (gt rs) ∧ St H w (.blk b16 (bs.map (ptr n)) :: (rowsE bs rs ++ (.blk b1 [I s.many, .slice al s.lims.length cl] :: σ)))) (by omega) ?_ ?_ ?_
          · exact .mk ⟨rfl, rs, hq, hI.skip hcb hm (P := fun _ _ => False) (fun a b h => by omega) (fun _ _ _ _ h => h.elim), hs⟩
          · clear hI hq
            rintro k fr w hk ⟨rfl, rs, hq, hI, hs⟩
            have hrl := hq.1
            have c1 := hI.cl i m hi hm; have c2 := hI.cl m k hm hk
            have u1 := hI.up i m hi hm; have u2 := hI.up m k hm hk
            refine .block (.regSeq (.z zm (.z zg (.nil (.regSeq (.z zm (.z zm ?_)))))))
            first | (refine .ixw hs Tryz.runUnderlying29 Tryz.sizeOf25 ?_; intro b91 o91 hc91) | refine .z (zix Tryz.runUnderlying29 Tryz.sizeOf25) ?_
            first | refine .q hs (q_load rfl Tryz.isAgg25 (hm := by repeat (first | exact .here | assumption | exact Mem.row (by omega) (by omega) | refine .there ?_ | refine Mem.app2 ?_)) (hv := by first | rfl | exact ptr_get (by omega) | exact Is_gt (by assumption) (by omega) (by omega) | exact Is_gi (by first | assumption | omega))) ?_ | refine .q hs (q_loadR rfl Tryz.isAgg25 (by assumption)) ?_
            refine .z zm ?_
            first | (refine .ixv hs Tryz.runUnderlying25 Tryz.sizeOf3 ?_; intro b94 o94 hc94) | refine .z (zix Tryz.runUnderlying25 Tryz.sizeOf3) ?_
            first | refine .q hs (q_load rfl Tryz.isAgg3 (hm := by repeat (first | exact .here | assumption | exact Mem.row (by omega) (by omega) | refine .there ?_ | refine Mem.app2 ?_)) (hv := by first | rfl | exact ptr_get (by omega) | exact Is_gt (by assumption) (by omega) (by omega) | exact Is_gi (by first | assumption | omega))) ?_ | refine .q hs (q_loadR rfl Tryz.isAgg3 (by assumption)) ?_
            refine .z zneq (.z zm ?_)
            refine .bifN (t' := 97) rfl (fun hb97 => ?_) (fun hb97 => ?_)
            · refine .gT rfl rfl ?_
              refine .z zm ?_
              refine .gT rfl rfl ?_
              refine .z zm ?_
              refine .gT rfl rfl ?_
              first | (refine .ixw hs Tryz.runUnderlying29 Tryz.sizeOf25 ?_; intro b100 o100 hc100) | refine .z (zix Tryz.runUnderlying29 Tryz.sizeOf25) ?_
              refine .gT rfl rfl ?_
              first | refine .q hs (q_load rfl Tryz.isAgg25 (hm := by repeat (first | exact .here | assumption | exact Mem.row (by omega) (by omega) | refine .there ?_ | refine Mem.app2 ?_)) (hv := by first | rfl | exact ptr_get (by omega) | exact Is_gt (by assumption) (by omega) (by omega) | exact Is_gi (by first | assumption | omega))) ?_ | refine .q hs (q_loadR rfl Tryz.isAgg25 (by assumption)) ?_
              refine .gT rfl rfl ?_
              refine .z zm ?_
              refine .gT rfl rfl ?_
              first | (refine .ixv hs Tryz.runUnderlying25 Tryz.sizeOf3 ?_; intro b103 o103 hc103) | refine .z (zix Tryz.runUnderlying25 Tryz.sizeOf3) ?_
              refine .gT rfl rfl ?_
              first | refine .q hs (q_load rfl Tryz.isAgg3 (hm := by repeat (first | exact .here | assumption | exact Mem.row (by omega) (by omega) | refine .there ?_ | refine Mem.app2 ?_)) (hv := by first | rfl | exact ptr_get (by omega) | exact Is_gt (by assumption) (by omega) (by omega) | exact Is_gi (by first | assumption | omega))) ?_ | refine .q hs (q_loadR rfl Tryz.isAgg3 (by assumption)) ?_
              refine .gT rfl rfl ?_
              refine .z zneq (.z zpT (.nil ?_))
              refine (.condN rfl (fun hc106 => ?_) (fun hc106 => ?_))
              · refine .draw mix rfl hs ?_; intro w hs
                replace u1 := u1 hb97; replace u2 := u2 hc106
                refine .z 0 rfl zm ?_; refine .z 1 rfl zm ?_
                first | (refine .ixw 2 rfl hs Tryz.runUnderlying29 Tryz.sizeOf25 ?_; intro b109 o109 hc109) | refine .z 2 rfl (zix Tryz.runUnderlying29 Tryz.sizeOf25) ?_
                first | refine .load (i := 3) hs rfl (by kernel_rfl) .none rfl Tryz.isAgg25 ?_ (by repeat (first | exact .here | assumption | exact Mem.row (by omega) (by omega) | refine .there ?_ | refine Mem.app2 ?_)) (by first | rfl | exact ptr_get (by omega) | exact Is_gt (by assumption) (by omega) (by omega) | exact Is_gi (by first | assumption | omega)) | refine .r (i := 3) hs rfl (by kernel_rfl) .none (q_loadR rfl Tryz.isAgg25 (by assumption)) ?_
                refine .z 4 rfl zm ?_; refine .z 5 rfl zm ?_; refine .z 6 rfl zm ?_
                first | (refine .ixw 7 rfl hs Tryz.runUnderlying29 Tryz.sizeOf25 ?_; intro b114 o114 hc114) | refine .z 7 rfl (zix Tryz.runUnderlying29 Tryz.sizeOf25) ?_
                first | refine .load (i := 8) hs rfl (by kernel_rfl) .none rfl Tryz.isAgg25 ?_ (by repeat (first | exact .here | assumption | exact Mem.row (by omega) (by omega) | refine .there ?_ | refine Mem.app2 ?_)) (by first | rfl | exact ptr_get (by omega) | exact Is_gt (by assumption) (by omega) (by omega) | exact Is_gi (by first | assumption | omega)) | refine .r (i := 8) hs rfl (by kernel_rfl) .none (q_loadR rfl Tryz.isAgg25 (by assumption)) ?_
                refine .z 9 rfl zm ?_
                first | (refine .ixv 10 rfl hs Tryz.runUnderlying25 Tryz.sizeOf3 ?_; intro b117 o117 hc117) | refine .z 10 rfl (zix Tryz.runUnderlying25 Tryz.sizeOf3) ?_
                first | refine .load (i := 11) hs rfl (by kernel_rfl) .none rfl Tryz.isAgg3 ?_ (by repeat (first | exact .here | assumption | exact Mem.row (by omega) (by omega) | refine .there ?_ | refine Mem.app2 ?_)) (by first | rfl | exact ptr_get (by omega) | exact Is_gt (by assumption) (by omega) (by omega) | exact Is_gi (by first | assumption | omega)) | refine .r (i := 11) hs rfl (by kernel_rfl) .none (q_loadR rfl Tryz.isAgg3 (by assumption)) ?_
                refine .z 12 rfl zm ?_; refine .z 13 rfl zm ?_
                first | (refine .ixw 14 rfl hs Tryz.runUnderlying29 Tryz.sizeOf25 ?_; intro b121 o121 hc121) | refine .z 14 rfl (zix Tryz.runUnderlying29 Tryz.sizeOf25) ?_
                first | refine .load (i := 15) hs rfl (by kernel_rfl) .none rfl Tryz.isAgg25 ?_ (by repeat (first | exact .here | assumption | exact Mem.row (by omega) (by omega) | refine .there ?_ | refine Mem.app2 ?_)) (by first | rfl | exact ptr_get (by omega) | exact Is_gt (by assumption) (by omega) (by omega) | exact Is_gi (by first | assumption | omega)) | refine .r (i := 15) hs rfl (by kernel_rfl) .none (q_loadR rfl Tryz.isAgg25 (by assumption)) ?_
                refine .z 16 rfl zm ?_
                first | (refine .ixv 17 rfl hs Tryz.runUnderlying25 Tryz.sizeOf3 ?_; intro b124 o124 hc124) | refine .z 17 rfl (zix Tryz.runUnderlying25 Tryz.sizeOf3) ?_
                first | refine .load (i := 18) hs rfl (by kernel_rfl) .none rfl Tryz.isAgg3 ?_ (by repeat (first | exact .here | assumption | exact Mem.row (by omega) (by omega) | refine .there ?_ | refine Mem.app2 ?_)) (by first | rfl | exact ptr_get (by omega) | exact Is_gt (by assumption) (by omega) (by omega) | exact Is_gi (by first | assumption | omega)) | refine .r (i := 18) hs rfl (by kernel_rfl) .none (q_loadR rfl Tryz.isAgg3 (by assumption)) ?_
                refine .z 19 rfl zm ?_; refine .z 20 rfl zm ?_
                first | (refine .ixw 21 rfl hs Tryz.runUnderlying29 Tryz.sizeOf25 ?_; intro b128 o128 hc128) | refine .z 21 rfl (zix Tryz.runUnderlying29 Tryz.sizeOf25) ?_
                first | refine .load (i := 22) hs rfl (by kernel_rfl) .none rfl Tryz.isAgg25 ?_ (by repeat (first | exact .here | assumption | exact Mem.row (by omega) (by omega) | refine .there ?_ | refine Mem.app2 ?_)) (by first | rfl | exact ptr_get (by omega) | exact Is_gt (by assumption) (by omega) (by omega) | exact Is_gi (by first | assumption | omega)) | refine .r (i := 22) hs rfl (by kernel_rfl) .none (q_loadR rfl Tryz.isAgg25 (by assumption)) ?_
                refine .z 23 rfl zm ?_
                first | (refine .ixv 24 rfl hs Tryz.runUnderlying25 Tryz.sizeOf3 ?_; intro b131 o131 hc131) | refine .z 24 rfl (zix Tryz.runUnderlying25 Tryz.sizeOf3) ?_
                first | refine .load (i := 25) hs rfl (by kernel_rfl) .none rfl Tryz.isAgg3 ?_ (by repeat (first | exact .here | assumption | exact Mem.row (by omega) (by omega) | refine .there ?_ | refine Mem.app2 ?_)) (by first | rfl | exact ptr_get (by omega) | exact Is_gt (by assumption) (by omega) (by omega) | exact Is_gi (by first | assumption | omega)) | refine .r (i := 25) hs rfl (by kernel_rfl) .none (q_loadR rfl Tryz.isAgg3 (by assumption)) ?_
                refine .z 26 rfl zadd ?_; refine .z 27 rfl zmin ?_; refine .z 28 rfl zmax ?_
                first | (refine .ixv 29 rfl hs Tryz.runUnderlying25 Tryz.sizeOf3 ?_; intro b136 o136 hc136) | refine .z 29 rfl (zix Tryz.runUnderlying25 Tryz.sizeOf3) ?_
                refine .e1 (i := 30) (by kernel_rfl) rfl rfl .none hs ?_ (hp := by repeat (first | exact .nil | refine .cons (by first | exact HLe.bot _ | exact HLe.refl _ | assumption) (by first | exact .nil | (refine Sub.one ?_; repeat (first | exact .here | assumption | exact Mem.row (by omega) (by omega) | refine .there ?_ | refine Mem.app2 ?_))) ?_))
                refine .store hs rfl rfl Tryz.sizeOf3 ?_ (.there (Upd.row _ (by omega) (by omega))) (blt_Is (by rw [hq.2 _ hi]; exact hk)) (Is_set _ _ _); intro w hs
                refine .go ?_
                refine .done (by kernel_rfl) hs ?_ (hp := by repeat (first | exact .nil | refine .cons (by first | exact HLe.bot _ | exact HLe.refl _ | assumption) (by first | exact .nil | (refine Sub.one ?_; repeat (first | exact .here | assumption | exact Mem.row (by omega) (by omega) | refine .there ?_ | refine Mem.app2 ?_))) ?_))
                refine nB (nT ?_)
                exact .mk ⟨rfl, _, hq.set hi _, by rw [gt_set hq hi hk]; exact hI.step hcb hm hi hk (fun a b h => by omega) hb97 hc106, hs⟩
              · refine .skip ?_
                refine nB (nT ?_)
                exact .mk ⟨rfl, rs, hq, hI.skip hcb hm (P := fun a b => a = i ∧ b = k) (fun a b h => by omega) (fun a b _ _ h => by obtain ⟨rfl, rfl⟩ := h; exact .inr hc106), hs⟩
            · refine .gFs 8 8 true rfl rfl rfl ?_
              refine .z zpF (.nil ?_)
              refine (.condF rfl rfl ?_)
              refine .skip ?_
              refine nB (nT ?_)
              exact .mk ⟨rfl, rs, hq, hI.skip hcb hm (P := fun a b => a = i ∧ b = k) (fun a b h => by omega) (fun a b _ _ h => by obtain ⟨rfl, rfl⟩ := h; exact .inl hb97), hs⟩
          · rintro fr w ⟨rfl, rs, hq, hI, hs⟩
            refine nB (nT ?_)
            exact .mk ⟨rfl, rs, hq, hI.skip hcb hm (P := fun a b => a = i ∧ n ≤ b) (fun a b h => by omega) (fun a b _ hb h => by omega), hs⟩
        · rintro fr w ⟨rfl, rs, hq, hI, hs⟩
          replace hI : WayI n s.arcs m (fun _ _ => True) (gt rs) := hI.skip hcb hm (P := fun a _ => n ≤ a) (fun a b h => by omega) (fun a b ha _ h => by omega)
          refine nB (nT ?_)
          exact .mk ⟨rfl, rs, hq, fun h => hI.next hcb h hn65, fun h => hI.done hcb h.symm hn65, hs⟩
      · rintro fr w ⟨rfl, rs, hq, -, hT, hs⟩
        replace hT := hT rfl
        refine nT ?_
        refine .regSeq (.z zm (.z zg (.nil ?_)))
        refine .ret (Fin.ret1 Tryz.results126 rfl ?_)
        obtain ⟨H1, g1, g2, hs⟩ := table_publish hq hbl (by omega) hs
        exact ⟨H1, rs, g1, g2, hq, hT, hs.tail⟩
end Go.Proofs.YtiiokdeehlfeeaaGreat

namespace Go.Proofs.YtiiokdeehlfeeaaGreat
open Go.MW
theorem ref02_Sound_spec {H : Heap} {w : World} {σ : List Ent} {vm : Value} {rs : List (List Int)} {n : Nat} (hs : St H w σ) (hM : RT H vm rs) (hq : Sq n rs) (hn : n ≤ 1000) :
    Cl Tryz.prog 154 [vm] w fun v w' => ∃ b, v = .bool b ∧ (b = true ↔ ∀ i, i < n → ¬ gt rs i i < 0) ∧ St H w' σ := by
  obtain ⟨a, c, rfl⟩ := hM.shape
  have hrl := hq.1
  refine Cl.of Tryz.func154 rfl Tryz.ntmps154 (by simp) (args_cons (k := 0) rfl (args0)) ?_
  refine .regSeq (.z zg (.nil (.seq (.regSeq (.z zm (.z (zlen Tryz.runUnderlying29) (.z zm (.nil ?_))))))))
  refine .for (N := rs.length) (J := fun k fr w => fr = [(0, .slice a rs.length c)] ∧ (∀ i, i < k → ¬ gt rs i i < 0) ∧ St H w σ) (by omega) ?_ ?_ ?_
  · exact .mk ⟨rfl, fun i h => by omega, hs⟩
  · rintro k fr w hk ⟨rfl, h0, hs⟩
    refine .block (.regSeq (.z zm (.z zg (.nil (.regSeq (.z zm (.z zm ?_)))))))
    refine .ixT hs hM rfl rfl Tryz.runUnderlying29 Tryz.sizeOf25 hk rfl ?_; intro b11 o11 a11 c11 hc11 hR11
    refine .q hs (q_loadR rfl Tryz.isAgg25 hc11) ?_
    refine .z zm ?_
    refine .ixY hs hR11 rfl rfl Tryz.runUnderlying25 Tryz.sizeOf3 (gi_get (l := gr rs k) (i := k) (by rw [hq.2 k (by omega)]; omega)) rfl ?_; intro b14 o14 hc14
    refine .q hs (q_loadR rfl Tryz.isAgg3 hc14) ?_
    refine .z zlss (.nil ?_)
    refine (.condD rfl (fun hc16 => ?_) (fun hc16 => ?_))
    · refine .regSeq (.z zg (.nil ?_))
      refine .ret (rB (rT (rB (rT (Fin.ret1 Tryz.results154 rfl ?_)))))
      exact ⟨false, rfl, ⟨fun h => (by cases h), fun h => (h k (by omega) hc16).elim⟩, hs⟩
    · refine .skip ?_
      refine nB (nT ?_)
      exact .mk ⟨rfl, fun i hi => by
        by_cases e : i = k
        · subst e; exact hc16
        · exact h0 i (by omega), hs⟩
  · rintro fr w ⟨rfl, h0, hs⟩
    refine nT ?_
    refine .regSeq (.z zg (.nil ?_))
    refine .ret (Fin.ret1 Tryz.results154 rfl ?_)
    exact ⟨true, rfl, ⟨fun _ i hi => h0 i (by omega), fun _ => rfl⟩, hs⟩
theorem ref02_balance_spec {H : Heap} {w : World} {σ : List Ent} {v : Value} {ws : List Int} {n : Nat} (hs : St H w σ) (hr : RI H v ws) (hl : ws.length = n + 1) (hn : n ≤ 1000) (hz : sizesTo ws (n + 1) ≤ FF) :
    Cl Tryz.prog 206 [v] w fun u w' => ∃ b cap sp lf, u = .slice (some ⟨b, 0, none⟩) (n + 1) cap ∧ lf.length = n + 1 ∧ (∀ v < n + 1, gi lf v = wtOf ws (n + 1) v) ∧ St H w' (.blk b (Is lf ++ sp) :: σ) := by
  obtain ⟨a, c, rfl⟩ := RI.shape hr
  have hFF : FF = 3600000000000 := rfl
  refine Cl.of Tryz.func206 rfl Tryz.ntmps206 (by simp) (args_cons (k := 0) rfl (args0)) ?_
  refine .regSeq (.z zg (.nil (.regSeq ?_)))
  refine .o (.buildSlice (cells := []) hs bls_sl_int_0 rfl rfl ?_); intro b6 w hs
  refine .z zm ?_
  refine .o (.append (xs := []) hs app_sl_int_int rfl rfl (.full (len := 0) rfl) (.ints hr) (Is_cell ws) (fun l' h => by simp at h; obtain rfl : l' = 0 := (by omega); omega) ?_); intro v8 en8 w hO hs
  rw [List.nil_append] at hO
  rcases hO with ⟨_, _, h0, _⟩ | ⟨b8, l8, c8, sp, rfl, rfl, h5, h6, h7⟩
  · exfalso
    have h1 : ws.length = 0 := by simpa using congrArg List.length h0
    omega
  obtain rfl : l8 = n + 1 := by simp at h5; omega
  refine .z zg (.nil (.regSeq (.z zm ?_)))
  refine .q hs (q_ixO (k := 0) rfl rfl Tryz.runUnderlying25 Tryz.sizeOf3 rfl (by omega)) ?_
  refine .o (.store hs rfl rfl Tryz.sizeOf3 ?_ (by repeat constructor) (by simp; omega) (set_sp (by omega) 0 sp)); intro w hs
  refine .nil (.seq (.regSeq (.z zm ?_)))
  refine .q hs (q_sliceLX (k := 1) rfl rfl Tryz.runUnderlying25 Tryz.sizeOf3 rfl (by omega)) ?_
  have hT := RI.tail hr (k := 1) (by omega)
  have hTl : (ws.drop 1).length = n := by rw [List.length_drop]; omega
  refine .z (zlen Tryz.runUnderlying25) (.z zm (.nil ?_))
  refine .for (N := n) (J := fun k fr w => fr = [(12, .slice (if c = 1 then a else a.map (·.add (1 * 1))) (ws.length - 1) (c - 1)), (3, .slice (some ⟨b8, 0, none⟩) (n + 1) c8)] ∧ ∃ lf, (lf.length = n + 1 ∧ gi lf 0 = -tailTo ws k ∧ ∀ v, 0 < v → gi lf v = gi ws v) ∧ St H w (.blk b8 (Is lf ++ sp) :: σ)) (by omega) ?_ ?_ ?_
  · exact .mk ⟨rfl, _, ⟨by simp [hl], by rw [gi_set (by omega), if_pos rfl]; rfl, fun v hv => by rw [gi_set (by omega), if_neg (by omega)]⟩, hs⟩ (hs := .consI rfl rfl (.consI rfl (by omega) (by repeat (first | exact .nil rfl rfl | refine .cons rfl ?_))))
  · rintro k fr w hk ⟨rfl, lf, ⟨h8, h9, h10⟩, hs⟩
    have hx := gi_get (l := ws.drop 1) (i := k) (by omega)
    have e1 : gi (ws.drop 1) k = gi ws (k + 1) := by simp [gi, List.getD]
    have hb1 := tail_bound ws k
    have hb2 := sizes_at ws (v := k + 1) (n := n + 1) (by omega)
    have hb3 := sumTo_mono (f := fun v => max (gi ws v) (-gi ws v)) (fun v => by omega) (k := k + 1) (n := n + 1) (by omega)
    change sizesTo ws (k + 1) ≤ sizesTo ws (n + 1) at hb3
    refine .block (.regSeq ?_)
    refine .ixY hs hT rfl rfl Tryz.runUnderlying25 Tryz.sizeOf3 hx rfl ?_; intro b16 o16 hc16
    refine .q hs (q_loadR rfl Tryz.isAgg3 hc16) ?_
    rw [e1]
    refine .z zg (.nil (.region (.z zm ?_)))
    refine .q hs (q_ixO (k := 0) rfl rfl Tryz.runUnderlying25 Tryz.sizeOf3 rfl (by omega)) ?_
    refine .q hs (q_load rfl Tryz.isAgg3 (hv := Is_get (gi_get (l := lf) (i := 0) (by omega)) sp)) ?_
    refine .z zm (.z zsub ?_)
    refine .q hs (q_ixO (k := 0) rfl rfl Tryz.runUnderlying25 Tryz.sizeOf3 rfl (by omega)) ?_
    refine .o (.store hs rfl rfl Tryz.sizeOf3 ?_ (by repeat constructor) (by simp; omega) (set_sp (by omega) _ sp)); intro w hs
    refine .nil ?_
    refine nB (nT ?_)
    exact .mk ⟨rfl, _, ⟨by simp [h8], by rw [gi_set (by omega), if_pos rfl, h9]; simp only [tailTo, sumTo]; omega, fun v hv => by rw [gi_set (by omega), if_neg (by omega)]; exact h10 v hv⟩, hs⟩
  · rintro fr w ⟨rfl, lf, ⟨h8, h9, h10⟩, hs⟩
    refine nT ?_
    refine .regSeq (.z zm (.z zg (.nil ?_)))
    refine .ret (Fin.ret1 Tryz.results206 rfl ?_)
    exact ⟨b8, c8, sp, lf, rfl, h8, fun v hv => by
      cases v with
      | zero => rw [h9, wt_zero]
      | succ v => rw [h10 _ (by omega), wt_succ], hs⟩
theorem ref02_cost_spec {H : Heap} {w : World} {σ : List Ent} {vm : Value} {Ms Fs : List (List Int)} {n bF : Nat} {bs : List Nat} (hs : St H w σ) (hM : RT H vm Ms) (hqM : Sq n Ms) (hn : n ≤ 1000) (hF0 : Mem σ (.blk bF (bs.map (ptr n)))) (hbl : bs.length = n) (hqF : Sq n Fs) (hF : ∀ i, i < n → Mem σ (.blk (gb bs i) (Is (gr Fs i)))) :
    Cl Tryz.prog 208 [vm, .slice (some ⟨bF, 0, none⟩) n n] w fun v w' => v = I (IntKind.i64.wrap (sumTo (fun a => sumTo (fun b => cell (gt Ms) (gt Fs) a b) n) n)) ∧ St H w' σ := by
  obtain ⟨am, cm, rfl⟩ := hM.shape
  have hml := hqM.1
  have hfl := hqF.1
  refine Cl.of Tryz.func208 rfl Tryz.ntmps208 (by simp) (args_cons (k := 0) rfl (args_cons (k := 1) rfl (args0))) ?_
  refine .regSeq (.z zg (.nil (.regSeq (.z zg (.nil (.seq (.regSeq (.z zm (.z (zlen Tryz.runUnderlying29) ?_)))))))))
  refine .z zm (.nil ?_)
  refine .for (N := n) (J := fun k fr w => fr = [(5, I (IntKind.i64.wrap (sumTo (fun a => sumTo (fun b => cell (gt Ms) (gt Fs) a b) n) k))), (0, .slice am Ms.length cm), (1, .slice (some ⟨bF, 0, none⟩) n n)] ∧ St H w σ) (by omega) ?_ ?_ ?_
  · exact .mk ⟨rfl, hs⟩ (hs := .consI rfl rfl (.consI rfl (by omega) (.consI rfl (by simp [sumTo, i64wrap_eq]) (by repeat (first | exact .nil rfl rfl | refine .cons rfl ?_)))))
  · rintro i fr w hi ⟨rfl, hs⟩
    have hMi : i < Ms.length := by omega
    refine .block (.regSeq (.z zm (.z zg (.nil (.regSeq (.z zm (.z (zlen Tryz.runUnderlying29) (.z zm (.nil ?_)))))))))
    refine .for (N := n) (J := fun k fr w => fr = [(5, I (IntKind.i64.wrap (sumTo (fun a => sumTo (fun b => cell (gt Ms) (gt Fs) a b) n) i + sumTo (fun b => cell (gt Ms) (gt Fs) i b) k))), (6, I (i : Int)), (10, I (i : Int)), (9, I (n : Int)), (0, .slice am Ms.length cm), (1, .slice (some ⟨bF, 0, none⟩) n n)] ∧ St H w σ) (by omega) ?_ ?_ ?_
    · exact .mk ⟨rfl, hs⟩ (hs := .consI rfl rfl (.consI rfl (by omega) (.consI rfl (by simp [sumTo]) (by repeat (first | exact .nil rfl rfl | refine .cons rfl ?_)))))
    · rintro k fr w hk ⟨rfl, hs⟩
      have hrM : (gr Ms i).length = n := hqM.2 i hi
      have hFi := hF i hi
      have hgi : ∀ z, 0 < gt Fs i k → z = gt Fs i k * gt Ms i k → z = cell (gt Ms) (gt Fs) i k := fun z h e => by unfold cell; rw [if_pos h, e]
      refine .block (.regSeq (.z zm (.z zg (.nil (.regSeq (.z zm (.z zm ?_)))))))
      refine .q hs (q_ixO (k := i) rfl rfl Tryz.runUnderlying29 Tryz.sizeOf25 rfl hi) ?_
      refine .q hs (q_load rfl Tryz.isAgg25 (hm := hF0) (hv := ptr_get (by omega))) ?_
      refine .z zm ?_
      refine .q hs (q_ixO (k := k) rfl rfl Tryz.runUnderlying25 Tryz.sizeOf3 rfl hk) ?_
      refine .q hs (q_load rfl Tryz.isAgg3 (hm := hF i hi) (hv := Is_gt hqF hi hk)) ?_
      refine .z zgtr (.nil ?_)
      refine (.condD rfl (fun hc25 => ?_) (fun hc25 => ?_))
      · refine .draw mix rfl hs ?_; intro w hs
        refine .z 0 rfl zm ?_; refine .z 1 rfl zm ?_; refine .z 2 rfl zm ?_
        refine .p (i := 3) rfl (by kernel_rfl) .none (q_ixO (k := i) rfl rfl Tryz.runUnderlying29 Tryz.sizeOf25 rfl hi) ?_
        refine .load (i := 4) hs rfl (by kernel_rfl) .none rfl Tryz.isAgg25 ?_ hF0 (ptr_get (by omega))
        refine .z 5 rfl zm ?_
        refine .p (i := 6) rfl (by kernel_rfl) .none (q_ixO (k := k) rfl rfl Tryz.runUnderlying25 Tryz.sizeOf3 rfl hk) ?_
        refine .load (i := 7) hs rfl (by kernel_rfl) .none rfl Tryz.isAgg3 ?_ (hF i hi) (Is_gt hqF hi hk)
        refine .z 8 rfl zm ?_; refine .z 9 rfl zm ?_
        refine .ixT (i := 10) hs rfl (by kernel_rfl) .none hM rfl rfl Tryz.runUnderlying29 Tryz.sizeOf25 hMi rfl ?_; intro b36 o36 a36 c36 hc36 hR36
        refine .r (i := 11) hs rfl (by kernel_rfl) .none (q_loadR rfl Tryz.isAgg25 hc36) ?_
        refine .z 12 rfl zm ?_
        refine .ixX (enc := fun x => [I x]) (i := 13) hs rfl (by kernel_rfl) .none hR36 rfl rfl Tryz.runUnderlying25 Tryz.sizeOf3 (gi_get (l := gr Ms i) (i := k) (by omega)) rfl ?_; intro b39 o39 hc39; replace hc39 := CellsAt.one hc39
        refine .r (i := 14) hs rfl (by kernel_rfl) .none (q_loadR rfl Tryz.isAgg3 hc39) ?_
        refine .p (i := 15) rfl (by kernel_rfl) .none (q_mul rfl rfl) ?_
        refine .p (i := 16) rfl (by kernel_rfl) .none (q_add rfl rfl) ?_
        refine .z 17 rfl zg ?_
        refine .done (by kernel_rfl) hs ?_ (hp := by repeat (first | exact .nil | refine .cons (by first | exact HLe.bot _ | exact HLe.refl _ | assumption) (by first | exact .nil | (refine Sub.one ?_; repeat (first | exact .here | assumption | exact Mem.row (by omega) (by omega) | refine .there ?_ | refine Mem.app2 ?_))) ?_))
        refine nB (nT ?_)
        exact .mk ⟨rfl, hs⟩ (hs := .consI rfl (by omega) (.consI rfl rfl (.consI rfl (by
          rw [i64wrap_add2, i64wrap_add, show gt Fs i k * gi (gr Ms i) k = cell (gt Ms) (gt Fs) i k from hgi _ hc25 rfl]
          simp only [sumTo]
          congr 1; omega) (by repeat (first | exact .nil rfl rfl | refine .cons rfl ?_)))))
      · refine .skip ?_
        refine nB (nT ?_)
        exact .mk ⟨rfl, hs⟩ (hs := .consI rfl (by omega) (.consI rfl rfl (.consI rfl (by
          have : cell (gt Ms) (gt Fs) i k = 0 := by unfold cell; rw [if_neg hc25]
          simp only [sumTo, this]
          congr 1; omega) (by repeat (first | exact .nil rfl rfl | refine .cons rfl ?_)))))
    · rintro fr w ⟨rfl, hs⟩
      refine nB (nT ?_)
      exact .mk ⟨rfl, hs⟩ (hs := .consI rfl (by omega) (.consI rfl rfl (.consI rfl (by simp only [sumTo]) (by repeat (first | exact .nil rfl rfl | refine .cons rfl ?_)))))
  · rintro fr w ⟨rfl, hs⟩
    refine nT ?_
    refine .regSeq (.z zm (.z zg (.nil ?_)))
    refine .ret (Fin.ret1 Tryz.results208 rfl ?_)
    exact ⟨rfl, hs⟩
end Go.Proofs.YtiiokdeehlfeeaaGreat

namespace Go.Proofs.YtiiokdeehlfeeaaGreat
open Go.MW
set_option maxHeartbeats 8000000 in
theorem ref02_reach_spec {H : Heap} {w : World} {σ : List Ent} {vm : Value} {Ms Fs : List (List Int)} {n bF bN capN : Nat} {bs : List Nat} {spN : List Value} {need ts : List Int} {es : List Arc} {D : Nat → Int} (hs : St H w σ) (hM : RT H vm Ms) (hqM : Sq n Ms)
    (hF0 : Mem σ (.blk bF (bs.map (ptr n)))) (hbl : bs.length = n) (hqF : Sq n Fs) (hF : ∀ i, i < n → Mem σ (.blk (gb bs i) (Is (gr Fs i)))) (hN : Mem σ (.blk bN (Is need ++ spN))) (hNl : need.length = n)
    (hT : Tab n (gt Ms) es) (hC : Corr n es ts (gt Fs)) (hg : VG n (resid es ts) D) :
    Cl Tryz.prog 207 [vm, .slice (some ⟨bF, 0, none⟩) n n, .slice (some ⟨bN, 0, none⟩) n capN] w fun u w' => ∃ H1 vd vb s, HLe H H1 ∧ u = .tuple #[vd, vb] ∧ RI H1 vd s.cost ∧ RS H1 2 vb (s.by_.map (stepC es)) ∧ VInv n (resid es ts) (fun v => gi need v < 0) D (fun _ => True) false s ∧ St H1 w' σ := by
  obtain ⟨am, cm, rfl⟩ := hM.shape
  obtain rfl : n = Ms.length := hqM.1.symm
  have hfl := hqF.1
  have hn0 := hg.n0
  have hfree : free = 1000000000 := rfl
  have hn65 := hg.n1
  have hD0 := hg.d0
  have hD1 := hg.d1
  have harc : ∀ x ∈ es, -1400000 ≤ x.c ∧ x.c ≤ 1400000 := fun x hx => by have := hg.ok x ((resid_iff hT hC).2 (.inl hx)); omega
  refine Cl.of Tryz.func207 rfl Tryz.ntmps207 (by simp) (args_cons (k := 0) rfl (args_cons (k := 1) rfl (args_cons (k := 2) rfl (args0)))) ?_
  refine .regSeq (.z zg (.z zg (.nil (.regSeq (.z zm (.z (zlen Tryz.runUnderlying29) ?_))))))
  refine .o (.makeI Ms.length hs rfl rfl Tryz.runUnderlying25 Tryz.typeInfo3 rfl Tryz.sizeOf3 Tryz.zeroValue3 (by omega) ?_); intro b16 w hs
  refine .z zg (.nil (.regSeq (.z zm (.z (zlen Tryz.runUnderlying29) ?_))))
  refine .o (.makeS Ms.length hs rfl rfl Tryz.runUnderlying221 Tryz.typeInfo226 rfl Tryz.sizeOf226 Tryz.zeroValue226 (by omega) ?_); intro b19 w hs
  refine .z zg (.nil (.seq (.regSeq (.z zm (.z (zlen Tryz.runUnderlying25) (.z zm (.nil ?_)))))))
  refine .for (N := Ms.length) (J := fun k fr w => fr = [(8, .slice (some ⟨b16, 0, none⟩) Ms.length Ms.length), (9, .slice (some ⟨b19, 0, none⟩) Ms.length Ms.length), (0, .slice am Ms.length cm), (1, .slice (some ⟨bF, 0, none⟩) Ms.length Ms.length), (2, .slice (some ⟨bN, 0, none⟩) Ms.length capN)] ∧ ∃ C, (C.length = Ms.length ∧ ∀ v < k, gi C v = if gi need v < 0 then 0 else free) ∧ St H w (.blk b19 (List.replicate k [I (-1), Value.bool false] ++ List.replicate (Ms.length - k) [I 0, Value.bool false]).flatten :: .blk b16 (Is C) :: σ)) (by omega) ?_ ?_ ?_
  · exact .mk ⟨rfl, _, ⟨by simp, fun v hv => by omega⟩, hs⟩
  · rintro k fr w hk ⟨rfl, C, ⟨hC1, hC2⟩, hs⟩
    have hstp := rep_set2 Ms.length hk [I (-1), Value.bool false] rfl [I 0, Value.bool false] rfl
    refine .block (.regSeq (.z zm (.z zg (.nil (.regSeq (.z zm (.z zm ?_)))))))
    first | (refine .ixv hs Tryz.runUnderlying25 Tryz.sizeOf3 ?_; intro b27 o27 hc27) | refine .z (zix Tryz.runUnderlying25 Tryz.sizeOf3) ?_
    refine .o (.store hs rfl rfl Tryz.sizeOf3 ?_); intro w hs
    refine .nil (.regSeq (.z zm (.z zm (.z (zbd [_, _] bld_moorsomref02_step) ?_))))
    first | (refine .ixw hs Tryz.runUnderlying221 Tryz.sizeOf226 ?_; intro b31 o31 hc31) | refine .z (zixm Tryz.runUnderlying221 Tryz.sizeOf226) ?_
    refine .o (.stores (vs := [I (-1), Value.bool false]) hs rfl rfl Tryz.sizeOf226 ?_ (by repeat constructor) (by simp; omega) hstp); intro w hs
    refine .nil (.regSeq (.z zm (.z zm ?_)))
    first | (refine .ixv hs Tryz.runUnderlying25 Tryz.sizeOf3 ?_; intro b34 o34 hc34) | refine .z (zix Tryz.runUnderlying25 Tryz.sizeOf3) ?_
    refine .q hs (q_load rfl Tryz.isAgg3 (hm := .there (.there hN)) (hv := Is_get (gi_get (l := need) (i := k) (by omega)) spN)) ?_
    refine .z zlss (.nil ?_)
    refine (.condD rfl (fun hc36 => ?_) (fun hc36 => ?_))
    · refine .region (.z zm (.z zm ?_))
      first | (refine .ixv hs Tryz.runUnderlying25 Tryz.sizeOf3 ?_; intro b39 o39 hc39) | refine .z (zix Tryz.runUnderlying25 Tryz.sizeOf3) ?_
      refine .o (.store hs rfl rfl Tryz.sizeOf3 ?_ (by repeat constructor) (blt_Is (by rw [List.length_set]; omega)) (Is_set _ _ _)); intro w hs
      refine .nil ?_
      refine nB (nT ?_)
      exact .mk ⟨rfl, _, ⟨by simp [hC1], fun v hv => by
        rw [gi_set (by rw [List.length_set]; omega)]
        by_cases e : v = k
        · subst e; rw [if_pos rfl, if_pos hc36]
        · rw [if_neg e, gi_set (by omega), if_neg e]; exact hC2 v (by omega)⟩, hs⟩
    · refine .skip ?_
      refine nB (nT ?_)
      exact .mk ⟨rfl, _, ⟨by simp [hC1], fun v hv => by
        rw [gi_set (by omega)]
        by_cases e : v = k
        · subst e; rw [if_pos rfl, if_neg hc36]
        · rw [if_neg e]; exact hC2 v (by omega)⟩, hs⟩
  · rintro fr w ⟨rfl, C, ⟨hC1, hC2⟩, hs⟩
    rw [Nat.sub_self, List.replicate_zero, List.append_nil, StepsC_rep es] at hs
    have hI : VInit Ms.length need Ms.length ⟨C, List.replicate Ms.length ⟨0, 0, 0, -1⟩⟩ := ⟨hC1, by simp, hC2, fun v hv => ga_replicate _ _ hv⟩
    have hV0 := hI.inv (Dn := fun _ => True) hg
    refine nT ?_
    refine .seq (.regSeq (.z zg (.nil (.block ?_))))
    refine .loop (fun p : Bool × BS => ⟨160, [], [(11, .bool p.1), (8, .slice (some ⟨b16, 0, none⟩) Ms.length Ms.length), (9, .slice (some ⟨b19, 0, none⟩) Ms.length Ms.length), (0, .slice am Ms.length cm), (1, .slice (some ⟨bF, 0, none⟩) Ms.length Ms.length), (2, .slice (some ⟨bN, 0, none⟩) Ms.length capN)]⟩) (fun p w => VInv Ms.length (resid es ts) (fun v => gi need v < 0) D (fun _ => True) p.1 p.2 ∧ St H w (.blk b19 (StepsC es p.2.by_) :: .blk b16 (Is p.2.cost) :: σ)) (fun p => 2 * WMv Ms.length D p.2 + (if p.1 then 1 else 0)) (true, ⟨C, List.replicate Ms.length ⟨0, 0, 0, -1⟩⟩) (by repeat (first | exact .nil rfl rfl | refine .cons rfl ?_)) ⟨hV0, hs⟩ ?_
    rintro ⟨ag, s⟩ w ⟨hV, hs⟩
    dsimp only at hV hs ⊢
    refine .seq (.regSeq (.z zm (.nil ?_)))
    refine (.cond rfl (fun hc41 => ?_) (fun hc41 => ?_))
    · refine .skip ?_
      refine nT ?_
      refine .block (.regSeq (.z zg (.nil (.regSeq (.z zm (.z (zlen Tryz.runUnderlying29) (.z zm (.nil ?_))))))))
      refine .for (N := Ms.length) (J := fun a fr w => ∃ ag s', fr = [(11, .bool ag), (8, .slice (some ⟨b16, 0, none⟩) Ms.length Ms.length), (9, .slice (some ⟨b19, 0, none⟩) Ms.length Ms.length), (0, .slice am Ms.length cm), (1, .slice (some ⟨bF, 0, none⟩) Ms.length Ms.length), (2, .slice (some ⟨bN, 0, none⟩) Ms.length capN)] ∧ VInv Ms.length (resid es ts) (fun v => gi need v < 0) D (Upto a 0) ag s' ∧ (WMv Ms.length D s' ≤ WMv Ms.length D s ∧ (ag = true → WMv Ms.length D s' < WMv Ms.length D s)) ∧ St H w (.blk b19 (StepsC es s'.by_) :: .blk b16 (Is s'.cost) :: σ)) (by omega) ?_ ?_ ?_
      · exact .mk ⟨false, s, rfl, hV.next.zero, ⟨Nat.le_refl _, fun h => by cases h⟩, hs⟩
      · rintro a fr w ha ⟨ag', s', rfl, hV', hW, hs⟩
        have hlc := hV'.lc
        have htop := hV'.top a ha
        refine .block (.regSeq (.z zm (.z zg (.nil (.seq (.regSeq (.z zm (.z zm ?_))))))))
        first | (refine .ixv hs Tryz.runUnderlying25 Tryz.sizeOf3 ?_; intro b49 o49 hc49) | refine .z (zix Tryz.runUnderlying25 Tryz.sizeOf3) ?_
        first | refine .q hs (q_load rfl Tryz.isAgg3 (hm := by repeat (first | exact .here | assumption | exact Mem.row (by omega) (by omega) | refine .there ?_ | refine Mem.app2 ?_)) (hv := by first | rfl | exact ptr_get (by omega) | exact Is_gt (by assumption) (by omega) (by omega) | exact Is_gi (by first | assumption | omega))) ?_ | refine .q hs (q_loadR rfl Tryz.isAgg3 (by assumption)) ?_
        refine .z zeql (.nil ?_)
        refine (.condD rfl (fun hc51 => ?_) (fun hc51 => ?_))
        · refine .exit ?_
          refine xT (xB (nT ?_))
          exact .mk ⟨ag', s', rfl, hV'.far hc51, hW, hs⟩
        · refine .skip ?_
          refine nT ?_
          refine .regSeq (.z zm (.z (zlen Tryz.runUnderlying29) (.z zm (.nil ?_))))
          refine .for (N := Ms.length) (J := fun b fr w => ∃ ag s', fr = [(11, .bool ag), (12, I (a : Int)), (44, I (a : Int)), (43, I (Ms.length : Int)), (8, .slice (some ⟨b16, 0, none⟩) Ms.length Ms.length), (9, .slice (some ⟨b19, 0, none⟩) Ms.length Ms.length), (0, .slice am Ms.length cm), (1, .slice (some ⟨bF, 0, none⟩) Ms.length Ms.length), (2, .slice (some ⟨bN, 0, none⟩) Ms.length capN)] ∧ VInv Ms.length (resid es ts) (fun v => gi need v < 0) D (Upto a b) ag s' ∧ (WMv Ms.length D s' ≤ WMv Ms.length D s ∧ (ag = true → WMv Ms.length D s' < WMv Ms.length D s)) ∧ gi s'.cost a < free ∧ St H w (.blk b19 (StepsC es s'.by_) :: .blk b16 (Is s'.cost) :: σ)) (by omega) ?_ ?_ ?_
          · exact .mk ⟨ag', s', rfl, hV', hW, by simp only [free]; omega, hs⟩
          · clear hV' hlc htop hW
            rintro b fr w hb ⟨ag', s', rfl, hV', hW, hfa, hs⟩
            have hlc := hV'.lc
            have hlow := hV'.low hg ha hfa
            have hlo := hV'.lo a ha
            have hDa := hD1 a ha
            have htop := hV'.top b hb
            have hrowA : (gr Ms a).length = Ms.length := hqM.2 a ha
            have hrowB : (gr Ms b).length = Ms.length := hqM.2 b hb
            have hFb := hF b hb
            refine .block (.regSeq (.z zm (.z zg (.nil ?_))))
            refine .cut (fun fs w => ∃ ag s', FSub fs ⟨160, [], [(11, .bool ag), (13, I (b : Int)), (54, I (b : Int)), (53, I (Ms.length : Int)), (12, I (a : Int)), (44, I (a : Int)), (43, I (Ms.length : Int)), (8, .slice (some ⟨b16, 0, none⟩) Ms.length Ms.length), (9, .slice (some ⟨b19, 0, none⟩) Ms.length Ms.length), (0, .slice am Ms.length cm), (1, .slice (some ⟨bF, 0, none⟩) Ms.length Ms.length), (2, .slice (some ⟨bN, 0, none⟩) Ms.length capN)]⟩ ∧ VInv Ms.length (resid es ts) (fun v => gi need v < 0) D (UptoF es a b) ag s' ∧ (WMv Ms.length D s' ≤ WMv Ms.length D s ∧ (ag = true → WMv Ms.length D s' < WMv Ms.length D s)) ∧ gi s'.cost a < free ∧ St H w (.blk b19 (StepsC es s'.by_) :: .blk b16 (Is s'.cost) :: σ)) ?_ ?_
            · refine .cut (fun fs w => ∃ p, FSub fs ⟨160, [], [(88, .bool p), (11, .bool ag'), (13, I (b : Int)), (54, I (b : Int)), (53, I (Ms.length : Int)), (12, I (a : Int)), (44, I (a : Int)), (43, I (Ms.length : Int)), (8, .slice (some ⟨b16, 0, none⟩) Ms.length Ms.length), (9, .slice (some ⟨b19, 0, none⟩) Ms.length Ms.length), (0, .slice am Ms.length cm), (1, .slice (some ⟨bF, 0, none⟩) Ms.length Ms.length), (2, .slice (some ⟨bN, 0, none⟩) Ms.length capN)]⟩ ∧ (p = true → a ≠ b ∧ gt Ms a b ≠ free ∧ gi s'.cost a + gt Ms a b < gi s'.cost b) ∧ (p = false → a = b ∨ gt Ms a b = free ∨ ¬ gi s'.cost a + gt Ms a b < gi s'.cost b) ∧ St H w (.blk b19 (StepsC es s'.by_) :: .blk b16 (Is s'.cost) :: σ)) ?_ ?_
              · refine .draw mix rfl hs ?_; intro w hs
                refine .z 0 rfl zm ?_; refine .z 1 rfl zm ?_; refine .z 2 rfl zneq ?_; refine .z 3 rfl zm ?_
                refine .bifN (t' := 60) rfl (fun hb60 => ?_) (fun hb60 => ?_)
                · refine .z 4 rfl zm ?_; refine .z 5 rfl zm ?_
                  refine .ixT (i := 6) hs rfl (by kernel_rfl) (.some rfl rfl) hM rfl rfl Tryz.runUnderlying29 Tryz.sizeOf25 ha rfl ?_; intro b63 o63 a63 c63 hc63 hR63
                  refine .r (i := 7) hs rfl (by kernel_rfl) (.some rfl rfl) (q_loadR rfl Tryz.isAgg25 hc63) ?_
                  refine .z 8 rfl zm ?_
                  refine .ixX (enc := fun x => [I x]) (i := 9) hs rfl (by kernel_rfl) (.some rfl rfl) hR63 rfl rfl Tryz.runUnderlying25 Tryz.sizeOf3 (gi_get (l := _) (i := b) (by omega)) rfl ?_; intro b66 o66 hc66; replace hc66 := CellsAt.one hc66
                  refine .r (i := 10) hs rfl (by kernel_rfl) (.some rfl rfl) (q_loadR rfl Tryz.isAgg3 hc66) ?_
                  refine .z 11 rfl zneq ?_; refine .z 12 rfl zpT ?_; refine .z 13 rfl zm ?_
                  refine .bifN (t' := 70) rfl (fun hb70 => ?_) (fun hb70 => ?_)
                  · refine .z 14 rfl zm ?_; refine .z 15 rfl zm ?_
                    have hfin : gt Ms a b ≠ free := hb70
                    have hMb : -1400000 ≤ gi (gr Ms a) b ∧ gi (gr Ms a) b ≤ 1400000 := by
                      obtain ⟨x, hx, e1, e2⟩ := hT.all a b ha hb (fun e => hb60 (by rw [e])) hfin
                      have h1 := harc x hx
                      have h2 := (hT.ok x hx).2.2.2.1
                      rw [e1, e2] at h2
                      change gi (gr Ms a) b = x.c at h2
                      omega
                    first | (refine .ixv 16 rfl hs Tryz.runUnderlying25 Tryz.sizeOf3 ?_; intro b73 o73 hc73) | refine .z 16 rfl (zix Tryz.runUnderlying25 Tryz.sizeOf3) ?_
                    first | refine .load (i := 17) hs rfl (by kernel_rfl) (.some rfl rfl) rfl Tryz.isAgg3 ?_ (by repeat (first | exact .here | assumption | exact Mem.row (by omega) (by omega) | refine .there ?_ | refine Mem.app2 ?_)) (by first | rfl | exact ptr_get (by omega) | exact Is_gt (by assumption) (by omega) (by omega) | exact Is_gi (by first | assumption | omega)) | refine .r (i := 17) hs rfl (by kernel_rfl) (.some rfl rfl) (q_loadR rfl Tryz.isAgg3 (by assumption)) ?_
                    refine .z 18 rfl zm ?_; refine .z 19 rfl zm ?_
                    refine .ixT (i := 20) hs rfl (by kernel_rfl) (.some rfl rfl) hM rfl rfl Tryz.runUnderlying29 Tryz.sizeOf25 ha rfl ?_; intro b77 o77 a77 c77 hc77 hR77
                    refine .r (i := 21) hs rfl (by kernel_rfl) (.some rfl rfl) (q_loadR rfl Tryz.isAgg25 hc77) ?_
                    refine .z 22 rfl zm ?_
                    refine .ixX (enc := fun x => [I x]) (i := 23) hs rfl (by kernel_rfl) (.some rfl rfl) hR77 rfl rfl Tryz.runUnderlying25 Tryz.sizeOf3 (gi_get (l := _) (i := b) (by omega)) rfl ?_; intro b80 o80 hc80; replace hc80 := CellsAt.one hc80
                    refine .r (i := 24) hs rfl (by kernel_rfl) (.some rfl rfl) (q_loadR rfl Tryz.isAgg3 hc80) ?_
                    refine .z 25 rfl zadd ?_; refine .z 26 rfl zm ?_; refine .z 27 rfl zm ?_
                    first | (refine .ixv 28 rfl hs Tryz.runUnderlying25 Tryz.sizeOf3 ?_; intro b85 o85 hc85) | refine .z 28 rfl (zix Tryz.runUnderlying25 Tryz.sizeOf3) ?_
                    first | refine .load (i := 29) hs rfl (by kernel_rfl) (.some rfl rfl) rfl Tryz.isAgg3 ?_ (by repeat (first | exact .here | assumption | exact Mem.row (by omega) (by omega) | refine .there ?_ | refine Mem.app2 ?_)) (by first | rfl | exact ptr_get (by omega) | exact Is_gt (by assumption) (by omega) (by omega) | exact Is_gi (by first | assumption | omega)) | refine .r (i := 29) hs rfl (by kernel_rfl) (.some rfl rfl) (q_loadR rfl Tryz.isAgg3 (by assumption)) ?_
                    refine .z 30 rfl zlss ?_; refine .z 31 rfl zpT ?_
                    refine .done (by kernel_rfl) hs ?_ (hp := by repeat (first | exact .nil | refine .cons (by first | exact HLe.bot _ | exact HLe.refl _ | assumption) (by first | exact .nil | (refine Sub.one ?_; repeat (first | exact .here | assumption | exact Mem.row (by omega) (by omega) | refine .there ?_ | refine Mem.app2 ?_))) ?_))
                    exact nT ⟨_, by repeat (first | exact .nil rfl rfl | refine .cons rfl ?_), by
                      intro hp
                      first
                        | (cases hp; done)
                        | exact ⟨fun e => hb60 (by rw [e]), hb70, of_decide_eq_true hp⟩, by
                      intro hp
                      first
                        | (cases hp; done)
                        | exact .inl (by omega)
                        | exact .inr (.inl hb70)
                        | exact .inr (.inr (of_decide_eq_false hp)), hs⟩
                  · refine .qF (i := 14) rfl (by kernel_rfl) rfl rfl ?_
                    refine .qF (i := 15) rfl (by kernel_rfl) rfl rfl ?_
                    refine .qF (i := 16) rfl (by kernel_rfl) rfl rfl ?_
                    refine .qF (i := 17) rfl (by kernel_rfl) rfl rfl ?_
                    refine .qF (i := 18) rfl (by kernel_rfl) rfl rfl ?_
                    refine .qF (i := 19) rfl (by kernel_rfl) rfl rfl ?_
                    refine .qF (i := 20) rfl (by kernel_rfl) rfl rfl ?_
                    refine .qF (i := 21) rfl (by kernel_rfl) rfl rfl ?_
                    refine .qF (i := 22) rfl (by kernel_rfl) rfl rfl ?_
                    refine .qF (i := 23) rfl (by kernel_rfl) rfl rfl ?_
                    refine .qF (i := 24) rfl (by kernel_rfl) rfl rfl ?_
                    refine .qF (i := 25) rfl (by kernel_rfl) rfl rfl ?_
                    refine .qF (i := 26) rfl (by kernel_rfl) rfl rfl ?_
                    refine .qF (i := 27) rfl (by kernel_rfl) rfl rfl ?_
                    refine .qF (i := 28) rfl (by kernel_rfl) rfl rfl ?_
                    refine .qF (i := 29) rfl (by kernel_rfl) rfl rfl ?_
                    refine .qF (i := 30) rfl (by kernel_rfl) rfl rfl ?_
                    refine .z 31 rfl zpF ?_
                    refine .done (by kernel_rfl) hs ?_ (hp := by repeat (first | exact .nil | refine .cons (by first | exact HLe.bot _ | exact HLe.refl _ | assumption) (by first | exact .nil | (refine Sub.one ?_; repeat (first | exact .here | assumption | exact Mem.row (by omega) (by omega) | refine .there ?_ | refine Mem.app2 ?_))) ?_))
                    exact nT ⟨_, by repeat (first | exact .nil rfl rfl | refine .cons rfl ?_), by
                      intro hp
                      first
                        | (cases hp; done)
                        | exact ⟨fun e => hb60 (by rw [e]), hb70, of_decide_eq_true hp⟩, by
                      intro hp
                      first
                        | (cases hp; done)
                        | exact .inl (by omega)
                        | exact .inr (.inl hb70)
                        | exact .inr (.inr (of_decide_eq_false hp)), hs⟩
                · refine .qF (i := 4) rfl (by kernel_rfl) rfl rfl ?_
                  refine .qF (i := 5) rfl (by kernel_rfl) rfl rfl ?_
                  refine .qF (i := 6) rfl (by kernel_rfl) rfl rfl ?_
                  refine .qF (i := 7) rfl (by kernel_rfl) rfl rfl ?_
                  refine .qF (i := 8) rfl (by kernel_rfl) rfl rfl ?_
                  refine .qF (i := 9) rfl (by kernel_rfl) rfl rfl ?_
                  refine .qF (i := 10) rfl (by kernel_rfl) rfl rfl ?_
                  refine .qF (i := 11) rfl (by kernel_rfl) rfl rfl ?_
                  refine .z 12 rfl zpF ?_; refine .z 13 rfl zm ?_
                  refine .qF (i := 14) rfl (by kernel_rfl) rfl rfl ?_
                  refine .qF (i := 15) rfl (by kernel_rfl) rfl rfl ?_
                  refine .qF (i := 16) rfl (by kernel_rfl) rfl rfl ?_
                  refine .qF (i := 17) rfl (by kernel_rfl) rfl rfl ?_
                  refine .qF (i := 18) rfl (by kernel_rfl) rfl rfl ?_
                  refine .qF (i := 19) rfl (by kernel_rfl) rfl rfl ?_
                  refine .qF (i := 20) rfl (by kernel_rfl) rfl rfl ?_
                  refine .qF (i := 21) rfl (by kernel_rfl) rfl rfl ?_
                  refine .qF (i := 22) rfl (by kernel_rfl) rfl rfl ?_
                  refine .qF (i := 23) rfl (by kernel_rfl) rfl rfl ?_
                  refine .qF (i := 24) rfl (by kernel_rfl) rfl rfl ?_
                  refine .qF (i := 25) rfl (by kernel_rfl) rfl rfl ?_
                  refine .qF (i := 26) rfl (by kernel_rfl) rfl rfl ?_
                  refine .qF (i := 27) rfl (by kernel_rfl) rfl rfl ?_
                  refine .qF (i := 28) rfl (by kernel_rfl) rfl rfl ?_
                  refine .qF (i := 29) rfl (by kernel_rfl) rfl rfl ?_
                  refine .qF (i := 30) rfl (by kernel_rfl) rfl rfl ?_
                  refine .z 31 rfl zpF ?_
                  refine .done (by kernel_rfl) hs ?_ (hp := by repeat (first | exact .nil | refine .cons (by first | exact HLe.bot _ | exact HLe.refl _ | assumption) (by first | exact .nil | (refine Sub.one ?_; repeat (first | exact .here | assumption | exact Mem.row (by omega) (by omega) | refine .there ?_ | refine Mem.app2 ?_))) ?_))
                  exact nT ⟨_, by repeat (first | exact .nil rfl rfl | refine .cons rfl ?_), by
                    intro hp
                    first
                      | (cases hp; done)
                      | exact ⟨fun e => hb60 (by rw [e]), hb70, of_decide_eq_true hp⟩, by
                    intro hp
                    first
                      | (cases hp; done)
                      | exact .inl (by omega)
                      | exact .inr (.inl hb70)
                      | exact .inr (.inr (of_decide_eq_false hp)), hs⟩
              · rintro fs w ⟨p, hfs, hp1, hp2, hs⟩
                refine WE.sub ?_ hfs
                refine (.cond rfl (fun hc88 => ?_) (fun hc88 => ?_))
                · refine .seq (.draw mix rfl hs ?_); intro w hs
                  obtain ⟨hab, hfin, hlt⟩ := hp1 hc88
                  obtain ⟨x, hx, e1, e2⟩ := hT.all a b ha hb hab hfin
                  have e3 : gi (gr Ms a) b = x.c := by
                    have h2 := (hT.ok x hx).2.2.2.1
                    rw [e1, e2] at h2; exact h2
                  have hxc := harc x hx
                  have hxl : ¬ x.l < 0 := by have := (hT.at hx).2; omega
                  have hstp : stepC es x = [I (a : Int), .bool false] := by
                    unfold stepC
                    rw [if_neg hxl, e1]
                    simp [(hT.fwd_iff hx).1]
                  have hset : setL (StepsC es s'.by_) (b * 2) [I (a : Int), Value.bool false] = StepsC es (s'.by_.set b x) := by rw [← hstp]; exact setL_two (by have := hV'.lb; omega) x
                  have hsr : s'.rlx x = ⟨s'.cost.set b (gi s'.cost a + gi (gr Ms a) b), s'.by_.set b x⟩ := by unfold BS.rlx; rw [e1, e2, e3]
                  have hcan : s'.can x := by unfold BS.can; rw [e1, e2, ← e3]; exact hlt
                  have hxm : x ∈ resid es ts := (resid_iff hT hC).2 (.inl hx)
                  have hlb := hV'.lb
                  refine .z 0 rfl zm ?_; refine .z 1 rfl zm ?_; refine .z 2 rfl zm ?_; refine .z 3 rfl zm ?_
                  first | (refine .ixv 4 rfl hs Tryz.runUnderlying25 Tryz.sizeOf3 ?_; intro b93 o93 hc93) | refine .z 4 rfl (zix Tryz.runUnderlying25 Tryz.sizeOf3) ?_
                  first | refine .load (i := 5) hs rfl (by kernel_rfl) .none rfl Tryz.isAgg3 ?_ (by repeat (first | exact .here | assumption | exact Mem.row (by omega) (by omega) | refine .there ?_ | refine Mem.app2 ?_)) (by first | rfl | exact ptr_get (by omega) | exact Is_gt (by assumption) (by omega) (by omega) | exact Is_gi (by first | assumption | omega)) | refine .r (i := 5) hs rfl (by kernel_rfl) .none (q_loadR rfl Tryz.isAgg3 (by assumption)) ?_
                  refine .z 6 rfl zm ?_; refine .z 7 rfl zm ?_
                  refine .ixT (i := 8) hs rfl (by kernel_rfl) .none hM rfl rfl Tryz.runUnderlying29 Tryz.sizeOf25 ha rfl ?_; intro b97 o97 a97 c97 hc97 hR97
                  refine .r (i := 9) hs rfl (by kernel_rfl) .none (q_loadR rfl Tryz.isAgg25 hc97) ?_
                  refine .z 10 rfl zm ?_
                  refine .ixX (enc := fun x => [I x]) (i := 11) hs rfl (by kernel_rfl) .none hR97 rfl rfl Tryz.runUnderlying25 Tryz.sizeOf3 (gi_get (l := _) (i := b) (by omega)) rfl ?_; intro b100 o100 hc100; replace hc100 := CellsAt.one hc100
                  refine .r (i := 12) hs rfl (by kernel_rfl) .none (q_loadR rfl Tryz.isAgg3 hc100) ?_
                  refine .z 13 rfl zadd ?_
                  first | (refine .ixv 14 rfl hs Tryz.runUnderlying25 Tryz.sizeOf3 ?_; intro b103 o103 hc103) | refine .z 14 rfl (zix Tryz.runUnderlying25 Tryz.sizeOf3) ?_
                  refine .e1 (i := 15) (by kernel_rfl) rfl rfl .none hs ?_ (hp := by repeat (first | exact .nil | refine .cons (by first | exact HLe.bot _ | exact HLe.refl _ | assumption) (by first | exact .nil | (refine Sub.one ?_; repeat (first | exact .here | assumption | exact Mem.row (by omega) (by omega) | refine .there ?_ | refine Mem.app2 ?_))) ?_))
                  refine .store hs rfl rfl Tryz.sizeOf3 ?_; intro w hs
                  refine .go ?_
                  refine .done (by kernel_rfl) hs ?_ (hp := by repeat (first | exact .nil | refine .cons (by first | exact HLe.bot _ | exact HLe.refl _ | assumption) (by first | exact .nil | (refine Sub.one ?_; repeat (first | exact .here | assumption | exact Mem.row (by omega) (by omega) | refine .there ?_ | refine Mem.app2 ?_))) ?_))
                  refine .regSeq (.z zm (.z zm (.z zm (.z (zbd [_, _] bld_moorsomref02_step) ?_))))
                  first | (refine .ixw hs Tryz.runUnderlying221 Tryz.sizeOf226 ?_; intro b108 o108 hc108) | refine .z (zixm Tryz.runUnderlying221 Tryz.sizeOf226) ?_
                  refine .o (.stores (vs := [I (a : Int), Value.bool false]) hs rfl rfl Tryz.sizeOf226 ?_ (by repeat constructor) (by rw [StepsC_length]; simp <;> omega) hset); intro w hs
                  refine .nil (.region (.z zg (.nil ?_)))
                  refine nT ?_
                  have hR := hV'.relax (Dn' := UptoF es a b) hg hxm (by rw [e1]; exact hfa) hcan
                  have hL := hV'.less hg hxm (by rw [e1]; exact hfa) hcan
                  rw [hsr] at hR hL
                  exact ⟨true, _, by repeat (first | exact .nil rfl rfl | refine .cons rfl ?_), hR, ⟨by omega, fun _ => by omega⟩, by dsimp only; rw [gi_set (by omega), if_neg hab]; exact hfa, hs⟩
                · refine .skip ?_
                  refine nT ?_
                  exact ⟨ag', s', by repeat (first | exact .nil rfl rfl | refine .cons rfl ?_), hV'.noF (fun x hx e1 e2 hc => by
                    obtain ⟨b1, b2, b3, b4, b5⟩ := hT.ok x hx
                    rw [e1, e2] at b4
                    rcases hp2 hc88 with h | h | h
                    · exact b3 (by rw [e1, e2, h])
                    · exact b5 (by rw [← b4, h])
                    · exact h (by rw [b4]; exact hc.2)), hW, hfa, hs⟩
            · clear hV' hW hlc hlow hlo htop hfa
              rintro fs w ⟨ag', s', hfs, hV', hW, hfa, hs⟩
              refine WE.sub ?_ hfs
              have hlc := hV'.lc
              have hlow := hV'.low hg ha hfa
              have hlo := hV'.lo a ha
              have htop := hV'.top b hb
              refine .cut (fun fs w => ∃ p, FSub fs ⟨160, [], [(135, .bool p), (11, .bool ag'), (13, I (b : Int)), (54, I (b : Int)), (53, I (Ms.length : Int)), (12, I (a : Int)), (44, I (a : Int)), (43, I (Ms.length : Int)), (8, .slice (some ⟨b16, 0, none⟩) Ms.length Ms.length), (9, .slice (some ⟨b19, 0, none⟩) Ms.length Ms.length), (0, .slice am Ms.length cm), (1, .slice (some ⟨bF, 0, none⟩) Ms.length Ms.length), (2, .slice (some ⟨bN, 0, none⟩) Ms.length capN)]⟩ ∧ (p = true → 0 < gt Fs b a ∧ gi s'.cost a - gt Ms b a < gi s'.cost b) ∧ (p = false → ¬ 0 < gt Fs b a ∨ ¬ gi s'.cost a - gt Ms b a < gi s'.cost b) ∧ St H w (.blk b19 (StepsC es s'.by_) :: .blk b16 (Is s'.cost) :: σ)) ?_ ?_
              · refine .draw mix rfl hs ?_; intro w hs
                refine .z 0 rfl zm ?_; refine .z 1 rfl zm ?_
                refine .p (i := 2) rfl (by kernel_rfl) .none (q_ixO (k := b) rfl rfl Tryz.runUnderlying29 Tryz.sizeOf25 rfl hb) ?_
                refine .load (i := 3) hs rfl (by kernel_rfl) .none rfl Tryz.isAgg25 ?_ (.there (.there hF0)) (ptr_get (by omega))
                refine .z 4 rfl zm ?_
                refine .p (i := 5) rfl (by kernel_rfl) .none (q_ixO (k := a) rfl rfl Tryz.runUnderlying25 Tryz.sizeOf3 rfl ha) ?_
                refine .load (i := 6) hs rfl (by kernel_rfl) .none rfl Tryz.isAgg3 ?_ (.there (.there (hF b hb))) (Is_gt hqF hb ha)
                refine .z 7 rfl zgtr ?_; refine .z 8 rfl zm ?_
                refine .bifD (t' := 117) rfl (fun hb117 => ?_) (fun hb117 => ?_)
                · refine .z 9 rfl zm ?_; refine .z 10 rfl zm ?_
                  have hMb : -1400000 ≤ gi (gr Ms b) a ∧ gi (gr Ms b) a ≤ 1400000 := by
                    obtain ⟨x, hx, e1, e2⟩ := hC.pos hb ha hb117
                    have h1 := harc x hx
                    have h2 := (hT.ok x hx).2.2.2.1
                    rw [e1, e2] at h2
                    change gi (gr Ms b) a = x.c at h2
                    omega
                  first | (refine .ixv 11 rfl hs Tryz.runUnderlying25 Tryz.sizeOf3 ?_; intro b120 o120 hc120) | refine .z 11 rfl (zix Tryz.runUnderlying25 Tryz.sizeOf3) ?_
                  first | refine .load (i := 12) hs rfl (by kernel_rfl) (.some rfl rfl) rfl Tryz.isAgg3 ?_ (by repeat (first | exact .here | assumption | exact Mem.row (by omega) (by omega) | refine .there ?_ | refine Mem.app2 ?_)) (by first | rfl | exact ptr_get (by omega) | exact Is_gt (by assumption) (by omega) (by omega) | exact Is_gi (by first | assumption | omega)) | refine .r (i := 12) hs rfl (by kernel_rfl) (.some rfl rfl) (q_loadR rfl Tryz.isAgg3 (by assumption)) ?_
                  refine .z 13 rfl zm ?_; refine .z 14 rfl zm ?_
                  refine .ixT (i := 15) hs rfl (by kernel_rfl) (.some rfl rfl) hM rfl rfl Tryz.runUnderlying29 Tryz.sizeOf25 hb rfl ?_; intro b124 o124 a124 c124 hc124 hR124
                  refine .r (i := 16) hs rfl (by kernel_rfl) (.some rfl rfl) (q_loadR rfl Tryz.isAgg25 hc124) ?_
                  refine .z 17 rfl zm ?_
                  refine .ixX (enc := fun x => [I x]) (i := 18) hs rfl (by kernel_rfl) (.some rfl rfl) hR124 rfl rfl Tryz.runUnderlying25 Tryz.sizeOf3 (gi_get (l := _) (i := a) (by omega)) rfl ?_; intro b127 o127 hc127; replace hc127 := CellsAt.one hc127
                  refine .r (i := 19) hs rfl (by kernel_rfl) (.some rfl rfl) (q_loadR rfl Tryz.isAgg3 hc127) ?_
                  refine .z 20 rfl zsub ?_; refine .z 21 rfl zm ?_; refine .z 22 rfl zm ?_
                  first | (refine .ixv 23 rfl hs Tryz.runUnderlying25 Tryz.sizeOf3 ?_; intro b132 o132 hc132) | refine .z 23 rfl (zix Tryz.runUnderlying25 Tryz.sizeOf3) ?_
                  first | refine .load (i := 24) hs rfl (by kernel_rfl) (.some rfl rfl) rfl Tryz.isAgg3 ?_ (by repeat (first | exact .here | assumption | exact Mem.row (by omega) (by omega) | refine .there ?_ | refine Mem.app2 ?_)) (by first | rfl | exact ptr_get (by omega) | exact Is_gt (by assumption) (by omega) (by omega) | exact Is_gi (by first | assumption | omega)) | refine .r (i := 24) hs rfl (by kernel_rfl) (.some rfl rfl) (q_loadR rfl Tryz.isAgg3 (by assumption)) ?_
                  refine .z 25 rfl zlss ?_; refine .z 26 rfl zpT ?_
                  refine .done (by kernel_rfl) hs ?_ (hp := by repeat (first | exact .nil | refine .cons (by first | exact HLe.bot _ | exact HLe.refl _ | assumption) (by first | exact .nil | (refine Sub.one ?_; repeat (first | exact .here | assumption | exact Mem.row (by omega) (by omega) | refine .there ?_ | refine Mem.app2 ?_))) ?_))
                  exact nT ⟨_, by repeat (first | exact .nil rfl rfl | refine .cons rfl ?_), by
                    intro hp
                    first
                      | (cases hp; done)
                      | exact ⟨hb117, of_decide_eq_true hp⟩, by
                    intro hp
                    first
                      | (cases hp; done)
                      | exact .inl hb117
                      | exact .inr (of_decide_eq_false hp), hs⟩
                · refine .qF (i := 9) rfl (by kernel_rfl) rfl rfl ?_
                  refine .qF (i := 10) rfl (by kernel_rfl) rfl rfl ?_
                  refine .qF (i := 11) rfl (by kernel_rfl) rfl rfl ?_
                  refine .qF (i := 12) rfl (by kernel_rfl) rfl rfl ?_
                  refine .qF (i := 13) rfl (by kernel_rfl) rfl rfl ?_
                  refine .qF (i := 14) rfl (by kernel_rfl) rfl rfl ?_
                  refine .qF (i := 15) rfl (by kernel_rfl) rfl rfl ?_
                  refine .qF (i := 16) rfl (by kernel_rfl) rfl rfl ?_
                  refine .qF (i := 17) rfl (by kernel_rfl) rfl rfl ?_
                  refine .qF (i := 18) rfl (by kernel_rfl) rfl rfl ?_
                  refine .qF (i := 19) rfl (by kernel_rfl) rfl rfl ?_
                  refine .qF (i := 20) rfl (by kernel_rfl) rfl rfl ?_
                  refine .qF (i := 21) rfl (by kernel_rfl) rfl rfl ?_
                  refine .qF (i := 22) rfl (by kernel_rfl) rfl rfl ?_
                  refine .qF (i := 23) rfl (by kernel_rfl) rfl rfl ?_
                  refine .qF (i := 24) rfl (by kernel_rfl) rfl rfl ?_
                  refine .qF (i := 25) rfl (by kernel_rfl) rfl rfl ?_
                  refine .z 26 rfl zpF ?_
                  refine .done (by kernel_rfl) hs ?_ (hp := by repeat (first | exact .nil | refine .cons (by first | exact HLe.bot _ | exact HLe.refl _ | assumption) (by first | exact .nil | (refine Sub.one ?_; repeat (first | exact .here | assumption | exact Mem.row (by omega) (by omega) | refine .there ?_ | refine Mem.app2 ?_))) ?_))
                  exact nT ⟨_, by repeat (first | exact .nil rfl rfl | refine .cons rfl ?_), by
                    intro hp
                    first
                      | (cases hp; done)
                      | exact ⟨hb117, of_decide_eq_true hp⟩, by
                    intro hp
                    first
                      | (cases hp; done)
                      | exact .inl hb117
                      | exact .inr (of_decide_eq_false hp), hs⟩
              · rintro fs w ⟨p, hfs, hp1, hp2, hs⟩
                refine WE.sub ?_ hfs
                refine (.cond rfl (fun hc135 => ?_) (fun hc135 => ?_))
                · refine .seq (.draw mix rfl hs ?_); intro w hs
                  obtain ⟨hpos, hlt⟩ := hp1 hc135
                  obtain ⟨x, hx, e1, e2⟩ := hC.pos hb ha hpos
                  have e3 : gi (gr Ms b) a = x.c := by
                    have h2 := (hT.ok x hx).2.2.2.1
                    rw [e1, e2] at h2; exact h2
                  have hxc := harc x hx
                  have hab : a ≠ b := fun e => (hT.ok x hx).2.2.1 (by rw [e1, e2, e])
                  have hxl : ¬ x.back.l < 0 := by have := (hT.at hx).2; show ¬ x.l < 0; omega
                  have e4 : x.back.f = a := e2
                  have e5 : x.back.t = b := e1
                  have hstp : stepC es x.back = [I (a : Int), .bool true] := by
                    unfold stepC
                    rw [if_neg hxl, e4]
                    simp [(hT.fwd_iff hx).2]
                  have hset : setL (StepsC es s'.by_) (b * 2) [I (a : Int), Value.bool true] = StepsC es (s'.by_.set b x.back) := by rw [← hstp]; exact setL_two (by have := hV'.lb; omega) x.back
                  have hsr : s'.rlx x.back = ⟨s'.cost.set b (gi s'.cost a - gi (gr Ms b) a), s'.by_.set b x.back⟩ := by
                    unfold BS.rlx
                    rw [e4, e5, e3]; rfl
                  have hcan : s'.can x.back := by
                    unfold BS.can
                    rw [e4, e5]
                    show gi s'.cost a + -x.c < _
                    rw [← e3]
                    exact hlt
                  have hxm : x.back ∈ resid es ts := (resid_iff hT hC).2 (.inr ⟨x, hx, by rw [e1, e2]; exact hpos, rfl⟩)
                  have hlb := hV'.lb
                  refine .z 0 rfl zm ?_; refine .z 1 rfl zm ?_; refine .z 2 rfl zm ?_; refine .z 3 rfl zm ?_
                  first | (refine .ixv 4 rfl hs Tryz.runUnderlying25 Tryz.sizeOf3 ?_; intro b140 o140 hc140) | refine .z 4 rfl (zix Tryz.runUnderlying25 Tryz.sizeOf3) ?_
                  first | refine .load (i := 5) hs rfl (by kernel_rfl) .none rfl Tryz.isAgg3 ?_ (by repeat (first | exact .here | assumption | exact Mem.row (by omega) (by omega) | refine .there ?_ | refine Mem.app2 ?_)) (by first | rfl | exact ptr_get (by omega) | exact Is_gt (by assumption) (by omega) (by omega) | exact Is_gi (by first | assumption | omega)) | refine .r (i := 5) hs rfl (by kernel_rfl) .none (q_loadR rfl Tryz.isAgg3 (by assumption)) ?_
                  refine .z 6 rfl zm ?_; refine .z 7 rfl zm ?_
                  refine .ixT (i := 8) hs rfl (by kernel_rfl) .none hM rfl rfl Tryz.runUnderlying29 Tryz.sizeOf25 hb rfl ?_; intro b144 o144 a144 c144 hc144 hR144
                  refine .r (i := 9) hs rfl (by kernel_rfl) .none (q_loadR rfl Tryz.isAgg25 hc144) ?_
                  refine .z 10 rfl zm ?_
                  refine .ixX (enc := fun x => [I x]) (i := 11) hs rfl (by kernel_rfl) .none hR144 rfl rfl Tryz.runUnderlying25 Tryz.sizeOf3 (gi_get (l := _) (i := a) (by omega)) rfl ?_; intro b147 o147 hc147; replace hc147 := CellsAt.one hc147
                  refine .r (i := 12) hs rfl (by kernel_rfl) .none (q_loadR rfl Tryz.isAgg3 hc147) ?_
                  refine .z 13 rfl zsub ?_
                  first | (refine .ixv 14 rfl hs Tryz.runUnderlying25 Tryz.sizeOf3 ?_; intro b150 o150 hc150) | refine .z 14 rfl (zix Tryz.runUnderlying25 Tryz.sizeOf3) ?_
                  refine .e1 (i := 15) (by kernel_rfl) rfl rfl .none hs ?_ (hp := by repeat (first | exact .nil | refine .cons (by first | exact HLe.bot _ | exact HLe.refl _ | assumption) (by first | exact .nil | (refine Sub.one ?_; repeat (first | exact .here | assumption | exact Mem.row (by omega) (by omega) | refine .there ?_ | refine Mem.app2 ?_))) ?_))
                  refine .store hs rfl rfl Tryz.sizeOf3 ?_; intro w hs
                  refine .go ?_
                  refine .done (by kernel_rfl) hs ?_ (hp := by repeat (first | exact .nil | refine .cons (by first | exact HLe.bot _ | exact HLe.refl _ | assumption) (by first | exact .nil | (refine Sub.one ?_; repeat (first | exact .here | assumption | exact Mem.row (by omega) (by omega) | refine .there ?_ | refine Mem.app2 ?_))) ?_))
                  refine .regSeq (.z zm (.z zm (.z zm (.z (zbd [_, _] bld_moorsomref02_step) ?_))))
                  first | (refine .ixw hs Tryz.runUnderlying221 Tryz.sizeOf226 ?_; intro b155 o155 hc155) | refine .z (zixm Tryz.runUnderlying221 Tryz.sizeOf226) ?_
                  refine .o (.stores (vs := [I (a : Int), Value.bool true]) hs rfl rfl Tryz.sizeOf226 ?_ (by repeat constructor) (by rw [StepsC_length]; simp <;> omega) hset); intro w hs
                  refine .nil (.region (.z zg (.nil ?_)))
                  refine nB (nT ?_)
                  have hR := hV'.relax (Dn' := Upto a (b + 1)) hg hxm (by rw [e4]; exact hfa) hcan
                  have hL := hV'.less hg hxm (by rw [e4]; exact hfa) hcan
                  rw [hsr] at hR hL
                  exact .mk ⟨true, _, rfl, hR, ⟨by omega, fun _ => by omega⟩, by dsimp only; rw [gi_set (by omega), if_neg hab]; exact hfa, hs⟩
                · refine .skip ?_
                  refine nB (nT ?_)
                  exact .mk ⟨ag', s', rfl, hV'.noB hT hC (fun x hx e1 e2 hpos hc => by
                    have h2 := (hT.ok x hx).2.2.2.1
                    rw [e1, e2] at h2
                    rcases hp2 hc135 with h | h
                    · exact h hpos
                    · exact h (by rw [h2]; exact hc.2)), hW, hfa, hs⟩
          · rintro fr w ⟨ag', s', rfl, hV', hW, -, hs⟩
            refine nB (nT ?_)
            exact .mk ⟨ag', s', rfl, hV'.row hg, hW, hs⟩
      · rintro fr w ⟨ag', s', rfl, hV', hW, hs⟩
        refine nB (nT ?_)
        exact ⟨(ag', s'), by repeat (first | exact .nil rfl rfl | refine .cons rfl ?_), ⟨hV'.all hg, hs⟩, by
          subst hc41
          dsimp only
          cases ag' with
          | true => have := hW.2 rfl; simp only [if_true]; omega
          | false => have := hW.1; simp; omega⟩
    · refine .exit ?_
      refine xT (xT (xB (nT ?_)))
      refine .regSeq (.z zm (.z zm (.z zg (.z zg (.nil ?_)))))
      refine .ret (Fin.ret2 Tryz.results207 rfl rfl ?_)
      subst hc41
      obtain ⟨H2, g1, g2, hs⟩ := OwnS.publish (m := 2) (v := .slice (some ⟨b19, 0, none⟩) Ms.length Ms.length) (cs := s.by_.map (stepC es)) (en := .blk b19 (StepsC es s.by_)) (.full (by show (StepsC es s.by_).length = _; rw [StepsC_length, hV.lb])) (fun c hc => by simp only [List.mem_map] at hc; obtain ⟨x, _, rfl⟩ := hc; exact stepC_length es x) (by omega) (by rw [List.length_map, hV.lb]; omega) hs .here
      obtain ⟨H3, g3, g4, hs⟩ := OwnS.publishI (v := .slice (some ⟨b16, 0, none⟩) Ms.length Ms.length) (xs := s.cost) (.full (by simp [hV.lc])) (by rw [hV.lc]; omega) hs .here
      exact ⟨H3, _, _, s, g1.trans g3, rfl, g4, RS.mono g2 g3, hV, hs⟩
end Go.Proofs.YtiiokdeehlfeeaaGreat

namespace Go.Proofs.YtiiokdeehlfeeaaGreat
open Go.MW
set_option maxHeartbeats 8000000 in
theorem ref02_Least_spec {H : Heap} {w : World} {σ : List Ent} {vm vw : Value} {Ms : List (List Int)} {ws : List Int} {n : Nat} {es : List Arc} (hs : St H w σ) (hM : RT H vm Ms) (hqM : Sq (n + 1) Ms) (hw : RI H vw ws) (hl : ws.length = n + 1) (hn : n + 1 ≤ 65) (hz : sizesTo ws (n + 1) ≤ FF)
    (hT : Tab (n + 1) (gt Ms) es) (hfe : ∃ p, Feas es p) (hcb : ∀ x ∈ es, -1400000 ≤ x.c ∧ x.c ≤ 1400000) (hbd : ∀ m, OptS es (wtOf ws (n + 1)) (n + 1) m → -BB ≤ m ∧ m ≤ BB) :
    Cl Tryz.prog 194 [vm, vw] w fun u w' => ∃ H1 v b, HLe H H1 ∧ u = .tuple #[I v, .bool b] ∧ ((b = true ∧ OptS es (wtOf ws (n + 1)) (n + 1) v) ∨ (b = false ∧ OpenS es (wtOf ws (n + 1)) (n + 1))) ∧ St H1 w' σ := by
  obtain ⟨am, cm, rfl⟩ := hM.shape
  have hml : Ms.length = n + 1 := hqM.1
  rw [hml] at hM ⊢
  have hnum := hT.numb
  have hC0 : ArcsC es (n + 1) := fun x hx => by
    have h1 := hT.ok x hx
    have h2 := (hT.at hx).2
    have h3 := hcb x hx
    exact ⟨h1.1, h1.2.1, h3.1, h3.2, by omega, h1.2.2.1⟩
  have hin : ∀ x ∈ es, x.f < n + 1 ∧ x.t < n + 1 := fun x hx => by have := hC0 x hx; omega
  have hw0 := wt_sum ws (n := n + 1) (by omega)
  have hFF : FF = 3600000000000 := rfl
  have hBB : BB = 4608000000000000000 := rfl
  have hfree : free = 1000000000 := rfl
  refine Cl.of Tryz.func194 rfl Tryz.ntmps194 (by simp) (args_cons (k := 0) rfl (args_cons (k := 1) rfl (args0))) ?_
  refine .regSeq (.z zg (.z zg (.nil (.regSeq (.z zm ?_)))))
  refine .o (.call Tryz.call206 rfl (ref02_balance_spec hs hw hl (by omega) hz) ?_); rintro _ w ⟨b21, cap, sp, lf0, rfl, hlf1, hlf2, hs⟩
  refine .z zg (.nil (.regSeq (.z zm (.z (zlen Tryz.runUnderlying29) ?_))))
  refine .o (.makeP (n + 1) hs rfl rfl Tryz.runUnderlying29 Tryz.typeInfo25 rfl Tryz.sizeOf25 Tryz.zeroValue25 (by omega) ?_); intro b24 w hs
  refine .z zg (.nil (.seq (.regSeq (.z zm (.z (zlen Tryz.runUnderlying29) (.z zm (.nil ?_)))))))
  refine .for (N := n + 1) (J := fun k fr w => fr = [(7, .slice (some ⟨b24, 0, none⟩) (n + 1) (n + 1)), (0, .slice am (n + 1) cm), (6, .slice (some ⟨b21, 0, none⟩) (n + 1) cap)] ∧ ∃ bs : List Nat, bs.length = k ∧ St H w (.blk b24 (bs.map (ptr (n + 1)) ++ List.replicate (n + 1 - k) (.slice none 0 0)) :: (rowsE bs (tabR (fun _ _ => 0) (n + 1) k) ++ (.blk b21 (Is lf0 ++ sp) :: σ)))) (by omega) ?_ ?_ ?_
  · exact .mk ⟨rfl, [], rfl, hs⟩
  · rintro k fr w hk ⟨rfl, bs, hbl, hs⟩
    refine .block (.regSeq (.z zm (.z zg (.nil (.region (.z zm (.z zm (.z zm (.z (zlen Tryz.runUnderlying29) ?_)))))))))
    refine .o (.makeI (n + 1) hs rfl rfl Tryz.runUnderlying25 Tryz.typeInfo3 rfl Tryz.sizeOf3 Tryz.zeroValue3 (by omega) ?_); intro b34 w hs
    first | (refine .ixw hs Tryz.runUnderlying29 Tryz.sizeOf25 ?_; intro b35 o35 hc35) | refine .z (zix Tryz.runUnderlying29 Tryz.sizeOf25) ?_
    refine .o (.store hs rfl rfl Tryz.sizeOf25 ?_ (by repeat constructor) (by simp [hbl]; omega) (ptr_set hbl hk)); intro w hs
    refine .nil ?_
    refine nB (nT ?_)
    rw [range_const (fun _ => 0) (n + 1) 0 (fun _ _ => rfl)] at hs
    replace hs := hs.rowIn (by rw [hbl, tabR_length])
    rw [← tabR_succ (fun _ _ => 0)] at hs
    exact .mk ⟨rfl, bs ++ [b34], by simp [hbl], hs⟩
  · rintro fr w ⟨rfl, bs, hbl, hs⟩
    rw [Nat.sub_self, List.replicate_zero, List.append_nil] at hs
    have hq0 := tabR_sq (fun _ _ => 0) (n + 1)
    have hc0 : Corr (n + 1) es (List.replicate es.length 0) (gt (tabR (fun _ _ => 0) (n + 1) (n + 1))) := by
      have h := Corr.zero (n + 1) hT
      exact ⟨h.len, fun x hx => by rw [h.arc x hx, tabR_gt _ (hin x hx).1 (hin x hx).2], fun a b ha hb _ => tabR_gt _ ha hb⟩
    have hF0 := FInv.start (es := es) hz hlf1 hlf2 hfe
    refine nT ?_
    refine .block ?_
    refine .loop (fun _ : List (List Int) × List Int × List Int => ⟨183, [], [(7, .slice (some ⟨b24, 0, none⟩) (n + 1) (n + 1)), (0, .slice am (n + 1) cm), (6, .slice (some ⟨b21, 0, none⟩) (n + 1) cap)]⟩) (fun p w => (Sq (n + 1) p.1 ∧ Corr (n + 1) es p.2.1 (gt p.1) ∧ FInv (n + 1) es (wtOf ws (n + 1)) p.2.1 p.2.2) ∧ ∃ H1, HLe H H1 ∧ St H1 w (.blk b24 (bs.map (ptr (n + 1))) :: (rowsE bs p.1 ++ (.blk b21 (Is p.2.2 ++ sp) :: σ)))) (fun p => (rem (n + 1) p.2.2).toNat) (tabR (fun _ _ => 0) (n + 1) (n + 1), List.replicate es.length 0, lf0) (by repeat (first | exact .nil rfl rfl | refine .cons rfl ?_)) ⟨⟨hq0, hc0, hF0⟩, H, HLe.refl H, hs⟩ ?_
    clear hq0 hc0 hF0 hlf1 hlf2 hs
    rintro ⟨Fs, ts, lf⟩ w ⟨⟨hqF, hC, hI⟩, H1, hle1, hs⟩
    dsimp only at hqF hC hI hs ⊢
    obtain ⟨D, hg⟩ := resid_VG (by omega) hn hC0 hI.lt.symm hI.fe
    have hfl := hqF.1
    have hll := hI.ll
    refine .block (.regSeq (.z zm (.z zm (.z zm ?_))))
    refine .o (.call Tryz.call207 rfl (ref02_reach_spec (need := lf) (spN := sp) hs (hM.mono hle1) hqM .here hbl hqF (fun i hi => .there (Mem.row (by omega) (by omega))) (.there (Mem.app2 .here)) hll hT hC hg) ?_); rintro _ w ⟨H2, vd, vb, s, hle2, rfl, hRd, hRb, hV, hs⟩
    obtain ⟨ad, cd, rfl⟩ := RI.shape hRd
    obtain ⟨ab, cb, eb⟩ := hRb.shape
    rw [List.length_map] at eb
    subst eb
    have hlc := hV.lc
    have hlb := hV.lb
    have hle02 := hle1.trans hle2
    refine .z zm (.z zex (.z zex (.z zg (.z zg (.nil (.regSeq (.z zg (.nil (.regSeq ?_)))))))))
    refine .z zg (.nil (.seq (.regSeq (.z zm (.z (zlen Tryz.runUnderlying25) (.z zm (.nil ?_)))))))
    refine .for (N := n + 1) (J := fun k fr w => ∃ to left, fr = [(11, I to), (12, .bool left), (44, .slice (some ⟨b21, 0, none⟩) (n + 1) cap), (7, .slice (some ⟨b24, 0, none⟩) (n + 1) (n + 1)), (0, .slice am (n + 1) cm), (6, .slice (some ⟨b21, 0, none⟩) (n + 1) cap), (9, .slice ad s.cost.length cd), (10, .slice ab s.by_.length cb)] ∧ Scan lf s.cost k to left ∧ St H2 w (.blk b24 (bs.map (ptr (n + 1))) :: (rowsE bs Fs ++ (.blk b21 (Is lf ++ sp) :: σ)))) (by omega) ?_ ?_ ?_
    · exact .mk ⟨-1, false, rfl, .start lf s.cost, hs⟩
    · rintro k fr w hk ⟨to, left, rfl, hSc, hs⟩
      have hto := hSc.lo
      have hto2 := hSc.som
      have hcap : k < n + 1 := hk
      refine .block (.regSeq (.z zm ?_))
      refine .q hs (q_ixO (k := k) rfl rfl Tryz.runUnderlying25 Tryz.sizeOf3 rfl hk) ?_
      refine .q hs (q_load rfl Tryz.isAgg3 (hm := .there (Mem.app2 .here)) (hv := Is_get (gi_get (l := lf) (i := k) (by omega)) sp)) ?_
      refine .z zg (.z zg (.nil (.regSeq (.z zm (.z zm ?_)))))
      refine .bif (t' := 52) rfl (fun hb52 => ?_) (fun hb52 => ?_)
      · refine .gFs 2 1 false rfl rfl rfl ?_
        refine .z zpT (.z zg (.nil ?_))
        refine WE.sub (t := ⟨183, [], [(12, .bool (left || decide (0 < gi lf k))), (13, I (k : Int)), (14, I (gi lf k)), (11, I to), (46, I (k : Int)), (45, I ((n + 1 : Nat) : Int)), (44, .slice (some ⟨b21, 0, none⟩) (n + 1) cap), (7, .slice (some ⟨b24, 0, none⟩) (n + 1) (n + 1)), (0, .slice am (n + 1) cm), (6, .slice (some ⟨b21, 0, none⟩) (n + 1) cap), (9, .slice ad s.cost.length cd), (10, .slice ab s.by_.length cb)]⟩) ?_ (by first | exact .consV rfl (by simp_all) (by repeat (first | exact .nil rfl rfl | refine .cons rfl ?_)) | repeat (first | exact .nil rfl rfl | refine .cons rfl ?_))
        refine .cut (fun fs w => ∃ p, FSub fs ⟨183, [], [(79, .bool p), (12, .bool (left || decide (0 < gi lf k))), (13, I (k : Int)), (11, I to), (46, I (k : Int)), (45, I ((n + 1 : Nat) : Int)), (44, .slice (some ⟨b21, 0, none⟩) (n + 1) cap), (7, .slice (some ⟨b24, 0, none⟩) (n + 1) (n + 1)), (0, .slice am (n + 1) cm), (6, .slice (some ⟨b21, 0, none⟩) (n + 1) cap), (9, .slice ad s.cost.length cd), (10, .slice ab s.by_.length cb)]⟩ ∧ (p = true → 0 < gi lf k ∧ gi s.cost k ≠ free) ∧ (p = false → ¬ 0 < gi lf k ∨ gi s.cost k = free ∨ 0 ≤ to) ∧ St H2 w (.blk b24 (bs.map (ptr (n + 1))) :: (rowsE bs Fs ++ (.blk b21 (Is lf ++ sp) :: σ)))) ?_ ?_
        · refine .draw mix rfl hs ?_; intro w hs
          refine .z 0 rfl zm ?_; refine .z 1 rfl zgtr ?_; refine .z 2 rfl zm ?_
          refine .bifD (t' := 58) rfl (fun hb58 => ?_) (fun hb58 => ?_)
          · refine .z 3 rfl zm ?_; refine .z 4 rfl zm ?_
            refine .ixX (enc := fun x => [I x]) (i := 5) hs rfl (by kernel_rfl) (.some rfl rfl) hRd rfl rfl Tryz.runUnderlying25 Tryz.sizeOf3 (gi_get (l := s.cost) (i := k) (by omega)) rfl ?_; intro b61 o61 hc61; replace hc61 := CellsAt.one hc61
            refine .r (i := 6) hs rfl (by kernel_rfl) (.some rfl rfl) (q_loadR rfl Tryz.isAgg3 hc61) ?_
            refine .z 7 rfl zneq ?_; refine .z 8 rfl zpT ?_; refine .z 9 rfl zm ?_
            refine .bifN (t' := 65) rfl (fun hb65 => ?_) (fun hb65 => ?_)
            · refine .z 10 rfl zm ?_; refine .z 11 rfl zlss ?_; refine .z 12 rfl zm ?_
              refine .bifD (t' := 68) rfl (fun hb68 => ?_) (fun hb68 => ?_)
              · refine .qF (i := 13) rfl (by kernel_rfl) rfl rfl ?_
                refine .qF (i := 14) rfl (by kernel_rfl) rfl rfl ?_
                refine .qF (i := 15) rfl (by kernel_rfl) rfl rfl ?_
                refine .qF (i := 16) rfl (by kernel_rfl) rfl rfl ?_
                refine .qF (i := 17) rfl (by kernel_rfl) rfl rfl ?_
                refine .qF (i := 18) rfl (by kernel_rfl) rfl rfl ?_
                refine .qF (i := 19) rfl (by kernel_rfl) rfl rfl ?_
                refine .qF (i := 20) rfl (by kernel_rfl) rfl rfl ?_
                refine .qF (i := 21) rfl (by kernel_rfl) rfl rfl ?_
                refine .z 22 rfl zpT ?_; refine .z 23 rfl zpT ?_
                refine .done (by kernel_rfl) hs ?_ (hp := by repeat (first | exact .nil | refine .cons (by first | exact HLe.bot _ | exact HLe.refl _ | assumption) (by first | exact .nil | (refine Sub.one ?_; repeat (first | exact .here | assumption | exact Mem.row (by omega) (by omega) | refine .there ?_ | refine Mem.app2 ?_))) ?_))
                exact nT ⟨_, by repeat (first | exact .nil rfl rfl | refine .cons rfl ?_), by
                  intro hp
                  first
                    | (cases hp; done)
                    | exact ⟨by assumption, by assumption⟩, by
                  intro hp
                  first
                    | (cases hp; done)
                    | exact .inl (by assumption)
                    | exact .inr (.inl (by first | assumption | omega))
                    | exact .inr (.inr (by omega)), hs⟩
              · refine .z 13 rfl zm ?_; refine .z 14 rfl zm ?_
                refine .ixX (enc := fun x => [I x]) (i := 15) hs rfl (by kernel_rfl) (.some rfl rfl) hRd rfl rfl Tryz.runUnderlying25 Tryz.sizeOf3 (gi_get (l := s.cost) (i := k) (by omega)) rfl ?_; intro b71 o71 hc71; replace hc71 := CellsAt.one hc71
                refine .r (i := 16) hs rfl (by kernel_rfl) (.some rfl rfl) (q_loadR rfl Tryz.isAgg3 hc71) ?_
                refine .z 17 rfl zm ?_; refine .z 18 rfl zm ?_
                refine .ixX (enc := fun x => [I x]) (i := 19) hs rfl (by kernel_rfl) (.some rfl rfl) hRd rfl rfl Tryz.runUnderlying25 Tryz.sizeOf3 (gi_get (l := s.cost) (i := to.toNat) (by omega)) (by omega) ?_; intro b75 o75 hc75; replace hc75 := CellsAt.one hc75
                refine .r (i := 20) hs rfl (by kernel_rfl) (.some rfl rfl) (q_loadR rfl Tryz.isAgg3 hc75) ?_
                refine .z 21 rfl zlss ?_; refine .z 22 rfl zpF ?_; refine .z 23 rfl zpT ?_
                refine .done (by kernel_rfl) hs ?_ (hp := by repeat (first | exact .nil | refine .cons (by first | exact HLe.bot _ | exact HLe.refl _ | assumption) (by first | exact .nil | (refine Sub.one ?_; repeat (first | exact .here | assumption | exact Mem.row (by omega) (by omega) | refine .there ?_ | refine Mem.app2 ?_))) ?_))
                exact nT ⟨_, by repeat (first | exact .nil rfl rfl | refine .cons rfl ?_), by
                  intro hp
                  first
                    | (cases hp; done)
                    | exact ⟨by assumption, by assumption⟩, by
                  intro hp
                  first
                    | (cases hp; done)
                    | exact .inl (by assumption)
                    | exact .inr (.inl (by first | assumption | omega))
                    | exact .inr (.inr (by omega)), hs⟩
            · refine .qF (i := 10) rfl (by kernel_rfl) rfl rfl ?_
              refine .qF (i := 11) rfl (by kernel_rfl) rfl rfl ?_
              refine .qF (i := 12) rfl (by kernel_rfl) rfl rfl ?_
              refine .qF (i := 13) rfl (by kernel_rfl) rfl rfl ?_
              refine .qF (i := 14) rfl (by kernel_rfl) rfl rfl ?_
              refine .qF (i := 15) rfl (by kernel_rfl) rfl rfl ?_
              refine .qF (i := 16) rfl (by kernel_rfl) rfl rfl ?_
              refine .qF (i := 17) rfl (by kernel_rfl) rfl rfl ?_
              refine .qF (i := 18) rfl (by kernel_rfl) rfl rfl ?_
              refine .qF (i := 19) rfl (by kernel_rfl) rfl rfl ?_
              refine .qF (i := 20) rfl (by kernel_rfl) rfl rfl ?_
              refine .qF (i := 21) rfl (by kernel_rfl) rfl rfl ?_
              refine .qF (i := 22) rfl (by kernel_rfl) rfl rfl ?_
              refine .z 23 rfl zpF ?_
              refine .done (by kernel_rfl) hs ?_ (hp := by repeat (first | exact .nil | refine .cons (by first | exact HLe.bot _ | exact HLe.refl _ | assumption) (by first | exact .nil | (refine Sub.one ?_; repeat (first | exact .here | assumption | exact Mem.row (by omega) (by omega) | refine .there ?_ | refine Mem.app2 ?_))) ?_))
              exact nT ⟨_, by repeat (first | exact .nil rfl rfl | refine .cons rfl ?_), by
                intro hp
                first
                  | (cases hp; done)
                  | exact ⟨by assumption, by assumption⟩, by
                intro hp
                first
                  | (cases hp; done)
                  | exact .inl (by assumption)
                  | exact .inr (.inl (by first | assumption | omega))
                  | exact .inr (.inr (by omega)), hs⟩
          · refine .qF (i := 3) rfl (by kernel_rfl) rfl rfl ?_
            refine .qF (i := 4) rfl (by kernel_rfl) rfl rfl ?_
            refine .qF (i := 5) rfl (by kernel_rfl) rfl rfl ?_
            refine .qF (i := 6) rfl (by kernel_rfl) rfl rfl ?_
            refine .qF (i := 7) rfl (by kernel_rfl) rfl rfl ?_
            refine .z 8 rfl zpF ?_; refine .z 9 rfl zm ?_
            refine .qF (i := 10) rfl (by kernel_rfl) rfl rfl ?_
            refine .qF (i := 11) rfl (by kernel_rfl) rfl rfl ?_
            refine .qF (i := 12) rfl (by kernel_rfl) rfl rfl ?_
            refine .qF (i := 13) rfl (by kernel_rfl) rfl rfl ?_
            refine .qF (i := 14) rfl (by kernel_rfl) rfl rfl ?_
            refine .qF (i := 15) rfl (by kernel_rfl) rfl rfl ?_
            refine .qF (i := 16) rfl (by kernel_rfl) rfl rfl ?_
            refine .qF (i := 17) rfl (by kernel_rfl) rfl rfl ?_
            refine .qF (i := 18) rfl (by kernel_rfl) rfl rfl ?_
            refine .qF (i := 19) rfl (by kernel_rfl) rfl rfl ?_
            refine .qF (i := 20) rfl (by kernel_rfl) rfl rfl ?_
            refine .qF (i := 21) rfl (by kernel_rfl) rfl rfl ?_
            refine .qF (i := 22) rfl (by kernel_rfl) rfl rfl ?_
            refine .z 23 rfl zpF ?_
            refine .done (by kernel_rfl) hs ?_ (hp := by repeat (first | exact .nil | refine .cons (by first | exact HLe.bot _ | exact HLe.refl _ | assumption) (by first | exact .nil | (refine Sub.one ?_; repeat (first | exact .here | assumption | exact Mem.row (by omega) (by omega) | refine .there ?_ | refine Mem.app2 ?_))) ?_))
            exact nT ⟨_, by repeat (first | exact .nil rfl rfl | refine .cons rfl ?_), by
              intro hp
              first
                | (cases hp; done)
                | exact ⟨by assumption, by assumption⟩, by
              intro hp
              first
                | (cases hp; done)
                | exact .inl (by assumption)
                | exact .inr (.inl (by first | assumption | omega))
                | exact .inr (.inr (by omega)), hs⟩
        · rintro fs w ⟨p, hfs, hp1, hp2, hs⟩
          refine WE.sub ?_ hfs
          refine (.cond rfl (fun hc79 => ?_) (fun hc79 => ?_))
          · refine .region (.z zm (.z zg (.nil ?_)))
            refine nB (nT ?_)
            obtain ⟨g1, g2⟩ := hp1 hc79
            exact .mk ⟨(k : Int), _, rfl, hSc.take g1 g2, hs⟩
          · refine .skip ?_
            refine nB (nT ?_)
            exact .mk ⟨to, _, rfl, hSc.skip (hp2 hc79), hs⟩
      · refine .gT rfl rfl ?_
        refine .z zm ?_
        refine .gT rfl rfl ?_
        refine .z zgtr (.z zpF (.z zg (.nil ?_)))
        refine WE.sub (t := ⟨183, [], [(12, .bool (left || decide (0 < gi lf k))), (13, I (k : Int)), (14, I (gi lf k)), (11, I to), (46, I (k : Int)), (45, I ((n + 1 : Nat) : Int)), (44, .slice (some ⟨b21, 0, none⟩) (n + 1) cap), (7, .slice (some ⟨b24, 0, none⟩) (n + 1) (n + 1)), (0, .slice am (n + 1) cm), (6, .slice (some ⟨b21, 0, none⟩) (n + 1) cap), (9, .slice ad s.cost.length cd), (10, .slice ab s.by_.length cb)]⟩) ?_ (by first | exact .consV rfl (by simp_all) (by repeat (first | exact .nil rfl rfl | refine .cons rfl ?_)) | repeat (first | exact .nil rfl rfl | refine .cons rfl ?_))
        refine .cut (fun fs w => ∃ p, FSub fs ⟨183, [], [(79, .bool p), (12, .bool (left || decide (0 < gi lf k))), (13, I (k : Int)), (11, I to), (46, I (k : Int)), (45, I ((n + 1 : Nat) : Int)), (44, .slice (some ⟨b21, 0, none⟩) (n + 1) cap), (7, .slice (some ⟨b24, 0, none⟩) (n + 1) (n + 1)), (0, .slice am (n + 1) cm), (6, .slice (some ⟨b21, 0, none⟩) (n + 1) cap), (9, .slice ad s.cost.length cd), (10, .slice ab s.by_.length cb)]⟩ ∧ (p = true → 0 < gi lf k ∧ gi s.cost k ≠ free) ∧ (p = false → ¬ 0 < gi lf k ∨ gi s.cost k = free ∨ 0 ≤ to) ∧ St H2 w (.blk b24 (bs.map (ptr (n + 1))) :: (rowsE bs Fs ++ (.blk b21 (Is lf ++ sp) :: σ)))) ?_ ?_
        · refine .draw mix rfl hs ?_; intro w hs
          refine .z 0 rfl zm ?_; refine .z 1 rfl zgtr ?_; refine .z 2 rfl zm ?_
          refine .bifD (t' := 58) rfl (fun hb58 => ?_) (fun hb58 => ?_)
          · refine .z 3 rfl zm ?_; refine .z 4 rfl zm ?_
            refine .ixX (enc := fun x => [I x]) (i := 5) hs rfl (by kernel_rfl) (.some rfl rfl) hRd rfl rfl Tryz.runUnderlying25 Tryz.sizeOf3 (gi_get (l := s.cost) (i := k) (by omega)) rfl ?_; intro b61 o61 hc61; replace hc61 := CellsAt.one hc61
            refine .r (i := 6) hs rfl (by kernel_rfl) (.some rfl rfl) (q_loadR rfl Tryz.isAgg3 hc61) ?_
            refine .z 7 rfl zneq ?_; refine .z 8 rfl zpT ?_; refine .z 9 rfl zm ?_
            refine .bifN (t' := 65) rfl (fun hb65 => ?_) (fun hb65 => ?_)
            · refine .z 10 rfl zm ?_; refine .z 11 rfl zlss ?_; refine .z 12 rfl zm ?_
              refine .bifD (t' := 68) rfl (fun hb68 => ?_) (fun hb68 => ?_)
              · refine .qF (i := 13) rfl (by kernel_rfl) rfl rfl ?_
                refine .qF (i := 14) rfl (by kernel_rfl) rfl rfl ?_
                refine .qF (i := 15) rfl (by kernel_rfl) rfl rfl ?_
                refine .qF (i := 16) rfl (by kernel_rfl) rfl rfl ?_
                refine .qF (i := 17) rfl (by kernel_rfl) rfl rfl ?_
                refine .qF (i := 18) rfl (by kernel_rfl) rfl rfl ?_
                refine .qF (i := 19) rfl (by kernel_rfl) rfl rfl ?_
                refine .qF (i := 20) rfl (by kernel_rfl) rfl rfl ?_
                refine .qF (i := 21) rfl (by kernel_rfl) rfl rfl ?_
                refine .z 22 rfl zpT ?_; refine .z 23 rfl zpT ?_
                refine .done (by kernel_rfl) hs ?_ (hp := by repeat (first | exact .nil | refine .cons (by first | exact HLe.bot _ | exact HLe.refl _ | assumption) (by first | exact .nil | (refine Sub.one ?_; repeat (first | exact .here | assumption | exact Mem.row (by omega) (by omega) | refine .there ?_ | refine Mem.app2 ?_))) ?_))
                exact nT ⟨_, by repeat (first | exact .nil rfl rfl | refine .cons rfl ?_), by
                  intro hp
                  first
                    | (cases hp; done)
                    | exact ⟨by assumption, by assumption⟩, by
                  intro hp
                  first
                    | (cases hp; done)
                    | exact .inl (by assumption)
                    | exact .inr (.inl (by first | assumption | omega))
                    | exact .inr (.inr (by omega)), hs⟩
              · refine .z 13 rfl zm ?_; refine .z 14 rfl zm ?_
                refine .ixX (enc := fun x => [I x]) (i := 15) hs rfl (by kernel_rfl) (.some rfl rfl) hRd rfl rfl Tryz.runUnderlying25 Tryz.sizeOf3 (gi_get (l := s.cost) (i := k) (by omega)) rfl ?_; intro b71 o71 hc71; replace hc71 := CellsAt.one hc71
                refine .r (i := 16) hs rfl (by kernel_rfl) (.some rfl rfl) (q_loadR rfl Tryz.isAgg3 hc71) ?_
                refine .z 17 rfl zm ?_; refine .z 18 rfl zm ?_
                refine .ixX (enc := fun x => [I x]) (i := 19) hs rfl (by kernel_rfl) (.some rfl rfl) hRd rfl rfl Tryz.runUnderlying25 Tryz.sizeOf3 (gi_get (l := s.cost) (i := to.toNat) (by omega)) (by omega) ?_; intro b75 o75 hc75; replace hc75 := CellsAt.one hc75
                refine .r (i := 20) hs rfl (by kernel_rfl) (.some rfl rfl) (q_loadR rfl Tryz.isAgg3 hc75) ?_
                refine .z 21 rfl zlss ?_; refine .z 22 rfl zpF ?_; refine .z 23 rfl zpT ?_
                refine .done (by kernel_rfl) hs ?_ (hp := by repeat (first | exact .nil | refine .cons (by first | exact HLe.bot _ | exact HLe.refl _ | assumption) (by first | exact .nil | (refine Sub.one ?_; repeat (first | exact .here | assumption | exact Mem.row (by omega) (by omega) | refine .there ?_ | refine Mem.app2 ?_))) ?_))
                exact nT ⟨_, by repeat (first | exact .nil rfl rfl | refine .cons rfl ?_), by
                  intro hp
                  first
                    | (cases hp; done)
                    | exact ⟨by assumption, by assumption⟩, by
                  intro hp
                  first
                    | (cases hp; done)
                    | exact .inl (by assumption)
                    | exact .inr (.inl (by first | assumption | omega))
                    | exact .inr (.inr (by omega)), hs⟩
            · refine .qF (i := 10) rfl (by kernel_rfl) rfl rfl ?_
              refine .qF (i := 11) rfl (by kernel_rfl) rfl rfl ?_
              refine .qF (i := 12) rfl (by kernel_rfl) rfl rfl ?_
              refine .qF (i := 13) rfl (by kernel_rfl) rfl rfl ?_
              refine .qF (i := 14) rfl (by kernel_rfl) rfl rfl ?_
              refine .qF (i := 15) rfl (by kernel_rfl) rfl rfl ?_
              refine .qF (i := 16) rfl (by kernel_rfl) rfl rfl ?_
              refine .qF (i := 17) rfl (by kernel_rfl) rfl rfl ?_
              refine .qF (i := 18) rfl (by kernel_rfl) rfl rfl ?_
              refine .qF (i := 19) rfl (by kernel_rfl) rfl rfl ?_
              refine .qF (i := 20) rfl (by kernel_rfl) rfl rfl ?_
              refine .qF (i := 21) rfl (by kernel_rfl) rfl rfl ?_
              refine .qF (i := 22) rfl (by kernel_rfl) rfl rfl ?_
              refine .z 23 rfl zpF ?_
              refine .done (by kernel_rfl) hs ?_ (hp := by repeat (first | exact .nil | refine .cons (by first | exact HLe.bot _ | exact HLe.refl _ | assumption) (by first | exact .nil | (refine Sub.one ?_; repeat (first | exact .here | assumption | exact Mem.row (by omega) (by omega) | refine .there ?_ | refine Mem.app2 ?_))) ?_))
              exact nT ⟨_, by repeat (first | exact .nil rfl rfl | refine .cons rfl ?_), by
                intro hp
                first
                  | (cases hp; done)
                  | exact ⟨by assumption, by assumption⟩, by
                intro hp
                first
                  | (cases hp; done)
                  | exact .inl (by assumption)
                  | exact .inr (.inl (by first | assumption | omega))
                  | exact .inr (.inr (by omega)), hs⟩
          · refine .qF (i := 3) rfl (by kernel_rfl) rfl rfl ?_
            refine .qF (i := 4) rfl (by kernel_rfl) rfl rfl ?_
            refine .qF (i := 5) rfl (by kernel_rfl) rfl rfl ?_
            refine .qF (i := 6) rfl (by kernel_rfl) rfl rfl ?_
            refine .qF (i := 7) rfl (by kernel_rfl) rfl rfl ?_
            refine .z 8 rfl zpF ?_; refine .z 9 rfl zm ?_
            refine .qF (i := 10) rfl (by kernel_rfl) rfl rfl ?_
            refine .qF (i := 11) rfl (by kernel_rfl) rfl rfl ?_
            refine .qF (i := 12) rfl (by kernel_rfl) rfl rfl ?_
            refine .qF (i := 13) rfl (by kernel_rfl) rfl rfl ?_
            refine .qF (i := 14) rfl (by kernel_rfl) rfl rfl ?_
            refine .qF (i := 15) rfl (by kernel_rfl) rfl rfl ?_
            refine .qF (i := 16) rfl (by kernel_rfl) rfl rfl ?_
            refine .qF (i := 17) rfl (by kernel_rfl) rfl rfl ?_
            refine .qF (i := 18) rfl (by kernel_rfl) rfl rfl ?_
            refine .qF (i := 19) rfl (by kernel_rfl) rfl rfl ?_
            refine .qF (i := 20) rfl (by kernel_rfl) rfl rfl ?_
            refine .qF (i := 21) rfl (by kernel_rfl) rfl rfl ?_
            refine .qF (i := 22) rfl (by kernel_rfl) rfl rfl ?_
            refine .z 23 rfl zpF ?_
            refine .done (by kernel_rfl) hs ?_ (hp := by repeat (first | exact .nil | refine .cons (by first | exact HLe.bot _ | exact HLe.refl _ | assumption) (by first | exact .nil | (refine Sub.one ?_; repeat (first | exact .here | assumption | exact Mem.row (by omega) (by omega) | refine .there ?_ | refine Mem.app2 ?_))) ?_))
            exact nT ⟨_, by repeat (first | exact .nil rfl rfl | refine .cons rfl ?_), by
              intro hp
              first
                | (cases hp; done)
                | exact ⟨by assumption, by assumption⟩, by
              intro hp
              first
                | (cases hp; done)
                | exact .inl (by assumption)
                | exact .inr (.inl (by first | assumption | omega))
                | exact .inr (.inr (by omega)), hs⟩
        · rintro fs w ⟨p, hfs, hp1, hp2, hs⟩
          refine WE.sub ?_ hfs
          refine (.cond rfl (fun hc79 => ?_) (fun hc79 => ?_))
          · refine .region (.z zm (.z zg (.nil ?_)))
            refine nB (nT ?_)
            obtain ⟨g1, g2⟩ := hp1 hc79
            exact .mk ⟨(k : Int), _, rfl, hSc.take g1 g2, hs⟩
          · refine .skip ?_
            refine nB (nT ?_)
            exact .mk ⟨to, _, rfl, hSc.skip (hp2 hc79), hs⟩
    · rintro fr w ⟨to, left, rfl, hSc, hs⟩
      refine nT ?_
      refine .seq (.regSeq (.z zm (.z zlss (.nil ?_))))
      refine (.condD rfl (fun hc83 => ?_) (fun hc83 => ?_))
      · refine .regSeq (.z zm (.z zm ?_))
        refine .o (.call Tryz.call208 rfl (ref02_cost_spec hs (hM.mono hle02) hqM (by omega) .here hbl hqF (fun i hi => .there (Mem.row (by omega) (by omega)))) ?_); rintro _ w ⟨rfl, hs⟩
        refine .z zm (.z znot (.z zg (.z zg (.nil ?_))))
        refine .ret (rT (rB (rT (rB (Fin.ret2 Tryz.results194 rfl rfl ?_)))))
        rw [← dot_cell hT hC hI.nn]
        cases left with
        | false =>
          have hno : ∀ v < n + 1, gi lf v ≤ 0 := fun v hv => Int.not_lt.1 fun h => by have := hSc.left_.2 ⟨v, hv, h⟩; cases this
          have hok := hI.ok hin hw0 hno
          obtain ⟨q, hqf⟩ := hok.fe
          have hO := (full_opt hin hok.lt (fun i hi => (hok.nn i hi).1) hok.full hqf).1
          have hb := hbd _ hO
          rw [i64wrap (by omega)]
          exact ⟨H2, _, true, hle02, rfl, .inl ⟨rfl, hO⟩, hs.tail.app2.tail⟩
        | true =>
          obtain ⟨v, hv, hp⟩ := hSc.left_.1 rfl
          have hf := hSc.non (by omega) v hv hp
          have hO := hI.open hin (R := fun v => gi s.cost v < free) (fun v hv hl => by have := hV.src v hv hl; omega) (hV.closed hg) hv (by rw [hf]; omega) hp
          exact ⟨H2, _, false, hle02, rfl, .inr ⟨rfl, hO⟩, hs.tail.app2.tail⟩
      · refine .skip ?_
        refine nT ?_
        refine .regSeq ?_
        obtain ⟨t, rfl⟩ := Int.eq_ofNat_of_zero_le (show 0 ≤ to by omega)
        obtain ⟨ht, htp, htf⟩ := hSc.som (by omega)
        rw [Int.toNat_natCast] at ht htp htf
        have htl : gi s.cost t < free := by have := hV.top t ht; omega
        obtain ⟨kk, cc, u, hB, hu, hk1, hk0, hcl, hway⟩ := hV.back hg ht htl htp
        have hW := hway _ rfl
        have hsg := hI.sg
        refine .z zm (.z zm ?_)
        refine .q hs (q_ixO (k := t) rfl rfl Tryz.runUnderlying25 Tryz.sizeOf3 rfl ht) ?_
        refine .q hs (q_load rfl Tryz.isAgg3 (hm := .there (Mem.app2 .here)) (hv := Is_get (gi_get (l := lf) (i := t) (by omega)) sp)) ?_
        refine .z zg (.nil (.regSeq (.z zm (.z zg (.nil (.seq (.block ?_)))))))
        refine .loop (fun p : Nat × Nat => ⟨183, [], [(16, I (p.2 : Int)), (15, I (least es ts (gi lf t) (trail s.by_ t p.1))), (11, I (t : Int)), (7, .slice (some ⟨b24, 0, none⟩) (n + 1) (n + 1)), (0, .slice am (n + 1) cm), (6, .slice (some ⟨b21, 0, none⟩) (n + 1) cap), (9, .slice ad s.cost.length cd), (10, .slice ab s.by_.length cb)]⟩) (fun p w => AtW s.by_ t kk u p.1 p.2 ∧ (p.2 < n + 1 ∧ gi s.cost p.2 < free) ∧ St H2 w (.blk b24 (bs.map (ptr (n + 1))) :: (rowsE bs Fs ++ (.blk b21 (Is lf ++ sp) :: σ)))) (fun p => kk - p.1) (0, t) (by repeat (first | exact .nil rfl rfl | refine .cons rfl ?_)) ⟨.start hB, ⟨ht, htl⟩, hs⟩ ?_
        rintro ⟨i, v⟩ w ⟨hA, ⟨hv, hvf⟩, hs⟩
        dsimp only at hA hv hvf ⊢
        have hby := hV.by1 v hv hvf
        refine .cut (fun fs w => FSub fs ⟨183, [], [(16, I (v : Int)), (15, I (least es ts (gi lf t) (trail s.by_ t i))), (11, I (t : Int)), (7, .slice (some ⟨b24, 0, none⟩) (n + 1) (n + 1)), (0, .slice am (n + 1) cm), (6, .slice (some ⟨b21, 0, none⟩) (n + 1) cap), (9, .slice ad s.cost.length cd), (10, .slice ab s.by_.length cb)]⟩ ∧ 0 ≤ (ga s.by_ v).l ∧ St H2 w (.blk b24 (bs.map (ptr (n + 1))) :: (rowsE bs Fs ++ (.blk b21 (Is lf ++ sp) :: σ)))) ?_ ?_
        · refine .regSeq (.z zm (.z zm ?_))
          refine .q hs (q_ixO (k := v) rfl rfl Tryz.runUnderlying25 Tryz.sizeOf3 rfl hv) ?_
          refine .q hs (q_load rfl Tryz.isAgg3 (hm := .there (Mem.app2 .here)) (hv := Is_get (gi_get (l := lf) (i := v) (by omega)) sp)) ?_
          refine .z zgeq (.z zm ?_)
          refine .bifD (t' := 99) rfl (fun hb99 => ?_) (fun hb99 => ?_)
          · refine .gFs 6 5 false rfl rfl rfl ?_
            refine .z zpT (.nil ?_)
            refine (.condT rfl rfl ?_)
            refine .skip ?_
            refine nT ?_
            exact ⟨by repeat (first | exact .nil rfl rfl | refine .cons rfl ?_), by
              rcases hby with ⟨_, h, _⟩ | h
              · omega
              · exact h.1, hs⟩
          · refine .gT rfl rfl ?_
            refine .z zm ?_
            refine .gT rfl rfl ?_
            refine .z zm ?_
            refine .gT rfl rfl ?_
            refine .ixX (enc := stepC es) hs hRb rfl rfl Tryz.runUnderlying221 Tryz.sizeOf226 (ga_get (l := s.by_) (i := v) (by omega)) rfl ?_; intro b102 o102 hc102
            rw [stepC_eq] at hc102
            refine .gT rfl rfl ?_
            refine .z (zfa fa_moorsomref02_step_0) ?_
            refine .gT rfl rfl ?_
            refine .q hs (q_loadR rfl Tryz.isAgg3 (hc102.get 0 rfl)) ?_
            refine .gT rfl rfl ?_
            refine .z zgeq (.z zpF (.nil ?_))
            refine (.condD rfl (fun hc106 => ?_) (fun hc106 => ?_))
            · refine .skip ?_
              refine nT ?_
              exact ⟨by repeat (first | exact .nil rfl rfl | refine .cons rfl ?_), stepF_ge hc106, hs⟩
            · refine .exit ?_
              refine xT (xT (xB (nT ?_)))
              refine .regSeq ?_
              obtain ⟨ei, ev⟩ := hA.stop (stepF_neg hc106)
              subst ei; subst ev
              obtain ⟨m0, m1, m2, m3⟩ := much_pos hI.lt.symm hnum hW
              have hsv := hsg v hv
              have hst := hsg t ht
              have hmu : min (least es ts (gi lf t) (trail s.by_ t i)) (-gi lf v) = much es ts lf (trail s.by_ t i).reverse v t := by
                unfold much
                rw [least_rev, ← least_min, Int.min_comm]
              have hsend := hI.send hnum hW (by rw [List.length_reverse, trail_length]; omega)
              have hmem : ∀ x ∈ trail s.by_ t i, x ∈ resid es ts := fun x hx => hW.mem x (List.mem_reverse.2 hx)
              rw [pushes_rev (fun x hx => (of_resid hI.lt.symm hnum (hmem x hx)).2.1)] at hsend
              generalize hm : much es ts lf (trail s.by_ t i).reverse v t = m at *
              have hvt : v ≠ t := fun e => by have := hW.lu; rw [e] at this; omega
              refine .z zm (.z zm (.z zm ?_))
              refine .q hs (q_ixO (k := v) rfl rfl Tryz.runUnderlying25 Tryz.sizeOf3 rfl hv) ?_
              refine .q hs (q_load rfl Tryz.isAgg3 (hm := .there (Mem.app2 .here)) (hv := Is_get (gi_get (l := lf) (i := v) (by omega)) sp)) ?_
              refine .z zneg (.z zmin ?_)
              rw [hmu]
              refine .z zg (.nil (.seq (.regSeq (.z zm (.z zg (.nil (.block ?_)))))))
              refine .loop (fun p : Nat × Nat × List (List Int) => ⟨183, [], [(18, I (p.2.1 : Int)), (16, I (v : Int)), (15, I m), (11, I (t : Int)), (7, .slice (some ⟨b24, 0, none⟩) (n + 1) (n + 1)), (0, .slice am (n + 1) cm), (6, .slice (some ⟨b21, 0, none⟩) (n + 1) cap), (9, .slice ad s.cost.length cd), (10, .slice ab s.by_.length cb)]⟩) (fun p w => AtW s.by_ t i v p.1 p.2.1 ∧ (p.2.1 < n + 1 ∧ gi s.cost p.2.1 < free) ∧ (Sq (n + 1) p.2.2 ∧ Corr (n + 1) es (pushes es m ts (trail s.by_ t p.1)) (gt p.2.2)) ∧ St H2 w (.blk b24 (bs.map (ptr (n + 1))) :: (rowsE bs p.2.2 ++ (.blk b21 (Is lf ++ sp) :: σ)))) (fun p => i - p.1) (0, t, Fs) (by repeat (first | exact .nil rfl rfl | refine .cons rfl ?_)) ⟨.start hB, ⟨ht, htl⟩, ⟨hqF, hC⟩, hs⟩ ?_
              clear hA hby
              rintro ⟨j, y, Fs'⟩ w ⟨hA, ⟨hy, hyf⟩, ⟨hqF', hC'⟩, hs⟩
              dsimp only at hA hy hyf hqF' hC' hs ⊢
              have hfl' := hqF'.1
              refine .seq (.regSeq (.z zm (.z zm (.z zneq (.nil ?_)))))
              refine (.condN rfl (fun hc135 => ?_) (fun hc135 => ?_))
              · refine .skip ?_
                refine nT ?_
                refine .seq (.block (.regSeq ?_))
                have hl0 := hA.ne (by omega)
                obtain ⟨hik, hA', htr⟩ := hA.next hl0 hu
                obtain ⟨hxm, hxt, hxf⟩ : ga s.by_ y ∈ resid es ts ∧ (ga s.by_ y).t = y ∧ gi s.cost (ga s.by_ y).f < free := by
                  rcases hV.by1 y hy hyf with ⟨h, _⟩ | ⟨_, h1, h2, h3, _⟩
                  · omega
                  · exact ⟨h1, h2, h3⟩
                have hxn := (hg.ok _ hxm).1
                have hsF := stepF_pos hl0
                have hxb : (ga s.by_ y).l.toNat < ts.length := (of_resid hI.lt.symm hnum hxm).2.1
                have hpb := pushes_bd (es := es) (ts := ts) (p := trail s.by_ t j) (m := m) (by omega) (by omega) (by rw [trail_length]; omega) (fun x hx => by
                  have h1 := trail_mem (A := fun v => v < n + 1 ∧ gi s.cost v < free) (B := fun x => x ∈ resid es ts) (fun v hv hl => by
                    rcases hV.by1 v hv.1 hv.2 with ⟨h, _⟩ | ⟨_, h1, h2, h3, _⟩
                    · omega
                    · exact ⟨h1, (hg.ok _ h1).1, h3⟩) hA.bk.choose_spec ⟨ht, htl⟩ x hx
                  exact (of_resid hI.lt.symm hnum h1).2.1) (ga s.by_ y).l.toNat
                have hnn := hI.nn (ga s.by_ y).l.toNat (by rw [← hI.lt]; exact hxb)
                have htb := hI.tb (ga s.by_ y).l.toNat (by rw [← hI.lt]; exact hxb)
                have hrm : 0 ≤ rem (n + 1) lf := sumTo_nonneg fun v _ => by omega
                generalize hgx : ga s.by_ y = x at *
                refine .z zm (.z zm ?_)
                refine .ixX (enc := stepC es) hs hRb rfl rfl Tryz.runUnderlying221 Tryz.sizeOf226 (ga_get (l := s.by_) (i := y) (by omega)) rfl ?_; intro b143 o143 hc143
                rw [hgx, stepC_eq] at hc143
                refine .q hs (q_loadsR (vs := [I (stepF x), .bool (stepB es x)]) rfl Tryz.isAgg226 Tryz.sizeOf226 hc143) ?_
                refine .o (.alloc hs Tryz.zeroValue226 rfl ?_); intro b19 w hs
                refine .o (.stores (vs := [I (stepF x), .bool (stepB es x)]) hs rfl rfl Tryz.sizeOf226 ?_); intro w hs
                refine .nil (.regSeq (.z (zfa fa_moorsomref02_step_1) ?_))
                first | refine .q hs (q_load rfl Tryz.isAgg4 (hm := by repeat (first | exact .here | assumption | exact Mem.row (by omega) (by omega) | refine .there ?_ | refine Mem.app2 ?_)) (hv := by first | rfl | exact ptr_get (by omega) | exact Is_gt (by assumption) (by omega) (by omega) | exact Is_gi (by first | assumption | omega))) ?_ | refine .q hs (q_loadR rfl Tryz.isAgg4 (by assumption)) ?_
                refine .nil ?_
                refine (.cond rfl (fun hc146 => ?_) (fun hc146 => ?_))
                · refine .draw mix rfl hs ?_; intro w hs
                  have hnf := stepB_t hc146
                  obtain ⟨hcb, z, hz1, hz2⟩ := hC.back hT hxm hnf
                  have hgz : gt Fs' y x.f = gi (pushes es m ts (trail s.by_ t j)) x.l.toNat := by
                    have := hC'.arc z hz1
                    rw [hz2] at hxt ⊢
                    rw [← hxt]; exact this.symm
                  have hpu := (hC'.push hT (y := x) (.inr ⟨z, hz1, hz2⟩) m).2 hnf
                  rw [hxt] at hpu
                  rw [← pushes_snoc, ← htr] at hpu
                  refine .z 0 rfl zm ?_; refine .z 1 rfl zm ?_
                  refine .p (i := 2) rfl (by kernel_rfl) .none (q_ixO (k := y) rfl rfl Tryz.runUnderlying29 Tryz.sizeOf25 rfl hy) ?_
                  first | refine .load (i := 3) hs rfl (by kernel_rfl) .none rfl Tryz.isAgg25 ?_ (by repeat (first | exact .here | assumption | exact Mem.row (by omega) (by omega) | refine .there ?_ | refine Mem.app2 ?_)) (by first | rfl | exact ptr_get (by omega) | exact Is_gt (by assumption) (by omega) (by omega) | exact Is_gi (by first | assumption | omega)) | refine .r (i := 3) hs rfl (by kernel_rfl) .none (q_loadR rfl Tryz.isAgg25 (by assumption)) ?_
                  refine .z 4 rfl (zfa fa_moorsomref02_step_0) ?_
                  first | refine .load (i := 5) hs rfl (by kernel_rfl) .none rfl Tryz.isAgg3 ?_ (by repeat (first | exact .here | assumption | exact Mem.row (by omega) (by omega) | refine .there ?_ | refine Mem.app2 ?_)) (by first | rfl | exact ptr_get (by omega) | exact Is_gt (by assumption) (by omega) (by omega) | exact Is_gi (by first | assumption | omega)) | refine .r (i := 5) hs rfl (by kernel_rfl) .none (q_loadR rfl Tryz.isAgg3 (by assumption)) ?_
                  rw [hsF] at hs ⊢
                  refine .p (i := 6) rfl (by kernel_rfl) .none (q_ixO (k := x.f) rfl rfl Tryz.runUnderlying25 Tryz.sizeOf3 rfl hxn) ?_
                  first | refine .load (i := 7) hs rfl (by kernel_rfl) .none rfl Tryz.isAgg3 ?_ (by repeat (first | exact .here | assumption | exact Mem.row (by omega) (by omega) | refine .there ?_ | refine Mem.app2 ?_)) (by first | rfl | exact ptr_get (by omega) | exact Is_gt (by assumption) (by omega) (by omega) | exact Is_gi (by first | assumption | omega)) | refine .r (i := 7) hs rfl (by kernel_rfl) .none (q_loadR rfl Tryz.isAgg3 (by assumption)) ?_
                  refine .z 8 rfl zm ?_; refine .z 9 rfl zsub ?_
                  refine .p (i := 10) rfl (by kernel_rfl) .none (q_ixO (k := x.f) rfl rfl Tryz.runUnderlying25 Tryz.sizeOf3 rfl hxn) ?_
                  refine .e1 (i := 11) (by kernel_rfl) rfl rfl .none hs ?_ (hp := by repeat (first | exact .nil | refine .cons (by first | exact HLe.bot _ | exact HLe.refl _ | assumption) (by first | exact .nil | (refine Sub.one ?_; repeat (first | exact .here | assumption | exact Mem.row (by omega) (by omega) | refine .there ?_ | refine Mem.app2 ?_))) ?_))
                  refine .store hs rfl rfl Tryz.sizeOf3 ?_ (.there (.there (Upd.row _ (by omega) (by omega)))) (blt_Is (by rw [hqF'.2 _ hy]; exact hxn)) (Is_set _ _ _); intro w hs
                  refine .go ?_
                  refine .done (by kernel_rfl) hs ?_ (hp := by repeat (first | exact .nil | refine .cons (by first | exact HLe.bot _ | exact HLe.refl _ | assumption) (by first | exact .nil | (refine Sub.one ?_; repeat (first | exact .here | assumption | exact Mem.row (by omega) (by omega) | refine .there ?_ | refine Mem.app2 ?_))) ?_))
                  refine nB (nT ?_)
                  refine .region (.z zm (.z zm ?_))
                  refine .ixX (enc := stepC es) hs hRb rfl rfl Tryz.runUnderlying221 Tryz.sizeOf226 (ga_get (l := s.by_) (i := y) (by omega)) rfl ?_; intro b138 o138 hc138
                  rw [hgx, stepC_eq] at hc138
                  refine .z (zfa fa_moorsomref02_step_0) ?_
                  refine .q hs (q_loadR rfl Tryz.isAgg3 (hc138.get 0 rfl)) ?_
                  rw [hsF]
                  refine .z zg (.nil ?_)
                  refine nT ?_
                  exact ⟨(j + 1, x.f, _), by repeat (first | exact .nil rfl rfl | refine .cons rfl ?_), ⟨hA', ⟨hxn, hxf⟩, ⟨hqF'.set hy _, by rw [gt_set hqF' hy hxn]; exact hpu⟩, hs.tail⟩, by dsimp only; omega⟩
                · refine .region ?_
                  have hnf := stepB_f hl0 (by simpa using hc146)
                  have hxe := hC.forth hT hxm hnf
                  have hgz : gt Fs' x.f y = gi (pushes es m ts (trail s.by_ t j)) x.l.toNat := by
                    have := hC'.arc x hxe
                    rw [hxt] at this; exact this.symm
                  have hpu := (hC'.push hT (y := x) (.inl hxe) m).1 hnf
                  rw [hxt] at hpu
                  rw [← pushes_snoc, ← htr] at hpu
                  refine .z zm (.z (zfa fa_moorsomref02_step_0) ?_)
                  first | refine .q hs (q_load rfl Tryz.isAgg3 (hm := by repeat (first | exact .here | assumption | exact Mem.row (by omega) (by omega) | refine .there ?_ | refine Mem.app2 ?_)) (hv := by first | rfl | exact ptr_get (by omega) | exact Is_gt (by assumption) (by omega) (by omega) | exact Is_gi (by first | assumption | omega))) ?_ | refine .q hs (q_loadR rfl Tryz.isAgg3 (by assumption)) ?_
                  rw [hsF]
                  refine .q hs (q_ixO (k := x.f) rfl rfl Tryz.runUnderlying29 Tryz.sizeOf25 rfl hxn) ?_
                  first | refine .q hs (q_load rfl Tryz.isAgg25 (hm := by repeat (first | exact .here | assumption | exact Mem.row (by omega) (by omega) | refine .there ?_ | refine Mem.app2 ?_)) (hv := by first | rfl | exact ptr_get (by omega) | exact Is_gt (by assumption) (by omega) (by omega) | exact Is_gi (by first | assumption | omega))) ?_ | refine .q hs (q_loadR rfl Tryz.isAgg25 (by assumption)) ?_
                  refine .z zm ?_
                  refine .q hs (q_ixO (k := y) rfl rfl Tryz.runUnderlying25 Tryz.sizeOf3 rfl hy) ?_
                  first | refine .q hs (q_load rfl Tryz.isAgg3 (hm := by repeat (first | exact .here | assumption | exact Mem.row (by omega) (by omega) | refine .there ?_ | refine Mem.app2 ?_)) (hv := by first | rfl | exact ptr_get (by omega) | exact Is_gt (by assumption) (by omega) (by omega) | exact Is_gi (by first | assumption | omega))) ?_ | refine .q hs (q_loadR rfl Tryz.isAgg3 (by assumption)) ?_
                  refine .z zm (.z zadd ?_)
                  refine .q hs (q_ixO (k := y) rfl rfl Tryz.runUnderlying25 Tryz.sizeOf3 rfl hy) ?_
                  refine .o (.store hs rfl rfl Tryz.sizeOf3 ?_ (.there (.there (Upd.row _ (by omega) (by omega)))) (blt_Is (by rw [hqF'.2 _ hxn]; exact hy)) (Is_set _ _ _)); intro w hs
                  refine .nil ?_
                  refine nB (nT ?_)
                  refine .region (.z zm (.z zm ?_))
                  refine .ixX (enc := stepC es) hs hRb rfl rfl Tryz.runUnderlying221 Tryz.sizeOf226 (ga_get (l := s.by_) (i := y) (by omega)) rfl ?_; intro b138 o138 hc138
                  rw [hgx, stepC_eq] at hc138
                  refine .z (zfa fa_moorsomref02_step_0) ?_
                  refine .q hs (q_loadR rfl Tryz.isAgg3 (hc138.get 0 rfl)) ?_
                  rw [hsF]
                  refine .z zg (.nil ?_)
                  refine nT ?_
                  exact ⟨(j + 1, x.f, _), by repeat (first | exact .nil rfl rfl | refine .cons rfl ?_), ⟨hA', ⟨hxn, hxf⟩, ⟨hqF'.set hxn _, by rw [gt_set hqF' hxn hy]; exact hpu⟩, hs.tail⟩, by dsimp only; omega⟩
              · refine .exit ?_
                refine xT (xT (xB (nT ?_)))
                refine .regSeq ?_
                have hyv : y = v := by omega
                subst hyv
                obtain ⟨ej, -⟩ := hA.stop hu
                subst ej
                refine .z zm (.z zm ?_)
                refine .q hs (q_ixO (k := y) rfl rfl Tryz.runUnderlying25 Tryz.sizeOf3 rfl hv) ?_
                refine .q hs (q_load rfl Tryz.isAgg3 (hm := .there (Mem.app2 .here)) (hv := Is_get (gi_get (l := lf) (i := y) (by omega)) sp)) ?_
                refine .z zm (.z zadd ?_)
                refine .q hs (q_ixO (k := y) rfl rfl Tryz.runUnderlying25 Tryz.sizeOf3 rfl hv) ?_
                refine .o (.store hs rfl rfl Tryz.sizeOf3 ?_ (.there (Upd.app2 .here)) (by simp; omega) (set_sp (by omega) _ sp)); intro w hs
                refine .nil (.region (.z zm (.z zm ?_)))
                refine .q hs (q_ixO (k := t) rfl rfl Tryz.runUnderlying25 Tryz.sizeOf3 rfl ht) ?_
                have hgt : gi (lf.set y (gi lf y + m)) t = gi lf t := by rw [gi_set (by omega), if_neg (Ne.symm hvt)]
                refine .q hs (q_load rfl Tryz.isAgg3 (hm := .there (Mem.app2 .here)) (hv := Is_get (gi_get (l := lf.set y (gi lf y + m)) (i := t) (by rw [List.length_set]; omega)) sp)) ?_
                refine .z zm (.z zsub ?_)
                refine .q hs (q_ixO (k := t) rfl rfl Tryz.runUnderlying25 Tryz.sizeOf3 rfl ht) ?_
                refine .o (.store hs rfl rfl Tryz.sizeOf3 ?_ (.there (Upd.app2 .here)) (by simp; omega) (set_sp (by rw [List.length_set]; omega) _ sp)); intro w hs
                refine .nil ?_
                refine nB (nT ?_)
                have hrm : 0 ≤ rem (n + 1) (lfTo lf m y t) := sumTo_nonneg fun v _ => by omega
                exact ⟨(Fs', pushes es m ts (trail s.by_ t j), lfTo lf m y t), by repeat (first | exact .nil rfl rfl | refine .cons rfl ?_), ⟨⟨hqF', hC', hsend.1⟩, H2, hle02, hs⟩, by dsimp only; have := hsend.2; omega⟩
        · rintro fs w ⟨hfs, hl0, hs⟩
          refine WE.sub ?_ hfs
          obtain ⟨hik, hA', htr⟩ := hA.next hl0 hu
          obtain ⟨hxm, hxt, hxf⟩ : ga s.by_ v ∈ resid es ts ∧ (ga s.by_ v).t = v ∧ gi s.cost (ga s.by_ v).f < free := by
            rcases hby with ⟨h, _⟩ | ⟨_, h1, h2, h3, _⟩
            · omega
            · exact ⟨h1, h2, h3⟩
          have hxn := (hg.ok _ hxm).1
          have hsF := stepF_pos hl0
          generalize hgx : ga s.by_ v = x at *
          refine .block (.regSeq (.z zm (.z zm ?_)))
          refine .ixX (enc := stepC es) hs hRb rfl rfl Tryz.runUnderlying221 Tryz.sizeOf226 (ga_get (l := s.by_) (i := v) (by omega)) rfl ?_; intro b109 o109 hc109
          rw [hgx, stepC_eq] at hc109
          refine .q hs (q_loadsR (vs := [I (stepF x), .bool (stepB es x)]) rfl Tryz.isAgg226 Tryz.sizeOf226 hc109) ?_
          refine .o (.alloc hs Tryz.zeroValue226 rfl ?_); intro b17 w hs
          refine .o (.stores (vs := [I (stepF x), .bool (stepB es x)]) hs rfl rfl Tryz.sizeOf226 ?_); intro w hs
          refine .nil (.seq (.regSeq (.z (zfa fa_moorsomref02_step_1) ?_)))
          first | refine .q hs (q_load rfl Tryz.isAgg4 (hm := by repeat (first | exact .here | assumption | exact Mem.row (by omega) (by omega) | refine .there ?_ | refine Mem.app2 ?_)) (hv := by first | rfl | exact ptr_get (by omega) | exact Is_gt (by assumption) (by omega) (by omega) | exact Is_gi (by first | assumption | omega))) ?_ | refine .q hs (q_loadR rfl Tryz.isAgg4 (by assumption)) ?_
          refine .nil ?_
          refine (.cond rfl (fun hc112 => ?_) (fun hc112 => ?_))
          · refine .draw mix rfl hs ?_; intro w hs
            refine .z 0 rfl zm ?_; refine .z 1 rfl zm ?_; refine .z 2 rfl zm ?_
            refine .p (i := 3) rfl (by kernel_rfl) .none (q_ixO (k := v) rfl rfl Tryz.runUnderlying29 Tryz.sizeOf25 rfl hv) ?_
            first | refine .load (i := 4) hs rfl (by kernel_rfl) .none rfl Tryz.isAgg25 ?_ (by repeat (first | exact .here | assumption | exact Mem.row (by omega) (by omega) | refine .there ?_ | refine Mem.app2 ?_)) (by first | rfl | exact ptr_get (by omega) | exact Is_gt (by assumption) (by omega) (by omega) | exact Is_gi (by first | assumption | omega)) | refine .r (i := 4) hs rfl (by kernel_rfl) .none (q_loadR rfl Tryz.isAgg25 (by assumption)) ?_
            refine .z 5 rfl (zfa fa_moorsomref02_step_0) ?_
            first | refine .load (i := 6) hs rfl (by kernel_rfl) .none rfl Tryz.isAgg3 ?_ (by repeat (first | exact .here | assumption | exact Mem.row (by omega) (by omega) | refine .there ?_ | refine Mem.app2 ?_)) (by first | rfl | exact ptr_get (by omega) | exact Is_gt (by assumption) (by omega) (by omega) | exact Is_gi (by first | assumption | omega)) | refine .r (i := 6) hs rfl (by kernel_rfl) .none (q_loadR rfl Tryz.isAgg3 (by assumption)) ?_
            rw [hsF] at hs ⊢
            refine .p (i := 7) rfl (by kernel_rfl) .none (q_ixO (k := x.f) rfl rfl Tryz.runUnderlying25 Tryz.sizeOf3 rfl hxn) ?_
            first | refine .load (i := 8) hs rfl (by kernel_rfl) .none rfl Tryz.isAgg3 ?_ (by repeat (first | exact .here | assumption | exact Mem.row (by omega) (by omega) | refine .there ?_ | refine Mem.app2 ?_)) (by first | rfl | exact ptr_get (by omega) | exact Is_gt (by assumption) (by omega) (by omega) | exact Is_gi (by first | assumption | omega)) | refine .r (i := 8) hs rfl (by kernel_rfl) .none (q_loadR rfl Tryz.isAgg3 (by assumption)) ?_
            refine .z 9 rfl zmin ?_; refine .z 10 rfl zg ?_
            refine .done (by kernel_rfl) hs ?_ (hp := by repeat (first | exact .nil | refine .cons (by first | exact HLe.bot _ | exact HLe.refl _ | assumption) (by first | exact .nil | (refine Sub.one ?_; repeat (first | exact .here | assumption | exact Mem.row (by omega) (by omega) | refine .there ?_ | refine Mem.app2 ?_))) ?_))
            refine nT ?_
            refine .region (.z (zfa fa_moorsomref02_step_0) ?_)
            first | refine .q hs (q_load rfl Tryz.isAgg3 (hm := by repeat (first | exact .here | assumption | exact Mem.row (by omega) (by omega) | refine .there ?_ | refine Mem.app2 ?_)) (hv := by first | rfl | exact ptr_get (by omega) | exact Is_gt (by assumption) (by omega) (by omega) | exact Is_gi (by first | assumption | omega))) ?_ | refine .q hs (q_loadR rfl Tryz.isAgg3 (by assumption)) ?_
            try rw [hsF]
            refine .z zg (.nil ?_)
            refine nB (nT ?_)
            have hnf := stepB_t hc112
            have hcb := (hC.back hT hxm hnf).1
            rw [hxt] at hcb
            exact ⟨(i + 1, x.f), .cons rfl (.consI rfl (by dsimp only; rw [htr, least_snoc, if_neg hnf, hcb]) (by repeat (first | exact .nil rfl rfl | refine .cons rfl ?_))), ⟨hA', ⟨hxn, hxf⟩, hs.tail⟩, by dsimp only; omega⟩
          · refine .skip ?_
            refine nT ?_
            refine .region (.z (zfa fa_moorsomref02_step_0) ?_)
            first | refine .q hs (q_load rfl Tryz.isAgg3 (hm := by repeat (first | exact .here | assumption | exact Mem.row (by omega) (by omega) | refine .there ?_ | refine Mem.app2 ?_)) (hv := by first | rfl | exact ptr_get (by omega) | exact Is_gt (by assumption) (by omega) (by omega) | exact Is_gi (by first | assumption | omega))) ?_ | refine .q hs (q_loadR rfl Tryz.isAgg3 (by assumption)) ?_
            try rw [hsF]
            refine .z zg (.nil ?_)
            refine nB (nT ?_)
            have hnf := stepB_f hl0 (by simpa using hc112)
            exact ⟨(i + 1, x.f), .cons rfl (.consI rfl (by dsimp only; rw [htr, least_snoc, if_pos hnf]) (by repeat (first | exact .nil rfl rfl | refine .cons rfl ?_))), ⟨hA', ⟨hxn, hxf⟩, hs.tail⟩, by dsimp only; omega⟩
end Go.Proofs.YtiiokdeehlfeeaaGreat

namespace Go.Proofs.YtiiokdeehlfeeaaGreat
open Go.MW
theorem notdec_true {p : Prop} [Decidable p] : (!decide p) = true ↔ ¬ p := by simp
theorem notdec_false {p : Prop} [Decidable p] : (!decide p) = false ↔ p := by simp
theorem ref02_within_spec {H : Heap} {w : World} {σ : List Ent} {a0 a1 a2 : Int} (hs : St H w σ) : Cl Tryz.prog 174 [I a0, I a1, I a2] w fun v w' => v = .bool (decide (a1 ≤ a0 ∧ a0 ≤ a2)) ∧ St H w' σ := by
  refine Cl.of Tryz.func174 rfl Tryz.ntmps174 (by simp) (args_cons (k := 0) rfl (args_cons (k := 1) rfl (args_cons (k := 2) rfl (args0)))) ?_
  refine .regSeq (.z zg (.nil (.regSeq (.z zm (.z zm (.z zleq (.z zm ?_)))))))
  refine .bifD (t' := 10) rfl (fun hb10 => ?_) (fun hb10 => ?_)
  · refine .gT rfl rfl ?_
    refine .z zm ?_
    refine .gT rfl rfl ?_
    refine .z zm ?_
    refine .gT rfl rfl ?_
    refine .z zleq (.z zpT (.z zg (.nil ?_)))
    refine .ret (Fin.ret1 Tryz.results174 rfl ?_)
    exact ⟨by simp [*], hs.out⟩
  · refine .gFs 3 3 true rfl rfl rfl ?_
    refine .z zpF (.z zg (.nil ?_))
    refine .ret (Fin.ret1 Tryz.results174 rfl ?_)
    exact ⟨by simp [*], hs.out⟩
theorem ref02_CheckLimit_spec {H : Heap} {w : World} {σ : List Ent} {many : Int} {l : Lim} (hs : St H w σ) : Cl Tryz.prog 175 [I many, .agg l.c.toArray] w fun v w' => v = I (if decide (0 ≤ many ∧ many ≤ 64) && l.ok many then 0 else 20) ∧ St H w' σ := by
  refine Cl.of Tryz.func175 rfl Tryz.ntmps175 (by simp) (args_cons (k := 0) rfl (args_cons (k := 1) rfl (args0))) ?_
  refine .regSeq ?_
  refine .o (.box hs rfl rfl ?_); intro b3 w hs
  refine .z zg (.nil (.seq (.regSeq (.z zm ?_))))
  refine .o (.call Tryz.call174 rfl (ref02_within_spec hs) ?_); rintro _ w ⟨rfl, hs⟩
  refine .z znot (.z zm ?_)
  refine .bif (t' := 8) rfl (fun hb8 => ?_) (fun hb8 => ?_)
  · refine .gFs 5 3 false rfl rfl rfl ?_
    refine .z zpT (.z zm ?_)
    refine .gFs 5 10 false rfl rfl rfl ?_
    refine .z zpT (.z zm ?_)
    refine .gFs 5 17 false rfl rfl rfl ?_
    refine .z zpT (.z zm ?_)
    refine .gFs 4 24 false rfl rfl rfl ?_
    refine .z zpT (.z zm ?_)
    refine .gFs 4 30 false rfl rfl rfl ?_
    refine .z zpT (.nil ?_)
    refine (.condT rfl rfl ?_)
    refine .regSeq (.z zg (.nil ?_))
    refine .ret (rT (Fin.ret1 Tryz.results175 rfl ?_))
    (try simp only [notdec_true] at *)
    (try simp only [notdec_false] at *)
    refine ⟨congrArg I ?_, hs.out⟩
    unfold Lim.ok
    first
      | (rw [if_pos (by simp only [Bool.and_eq_true, decide_eq_true_eq]; omega)]; done)
      | (rw [if_neg (by simp only [Bool.and_eq_true, decide_eq_true_eq]; omega)]; done)
  · refine .gT rfl rfl ?_
    refine .z (zfa fa_api_Limit_0) ?_
    refine .gT rfl rfl ?_
    refine .y hs (zld Tryz.isAgg3) ?_
    refine .gT rfl rfl ?_
    refine .z zm ?_
    refine .gT rfl rfl ?_
    refine .o (.call Tryz.call174 rfl (ref02_within_spec hs) ?_); rintro _ w ⟨rfl, hs⟩
    refine .gT rfl rfl ?_
    refine .z znot (.z zpF (.z zm ?_))
    refine .bif (t' := 15) rfl (fun hb15 => ?_) (fun hb15 => ?_)
    · refine .gFs 5 10 false rfl rfl rfl ?_
      refine .z zpT (.z zm ?_)
      refine .gFs 5 17 false rfl rfl rfl ?_
      refine .z zpT (.z zm ?_)
      refine .gFs 4 24 false rfl rfl rfl ?_
      refine .z zpT (.z zm ?_)
      refine .gFs 4 30 false rfl rfl rfl ?_
      refine .z zpT (.nil ?_)
      refine (.condT rfl rfl ?_)
      refine .regSeq (.z zg (.nil ?_))
      refine .ret (rT (Fin.ret1 Tryz.results175 rfl ?_))
      (try simp only [notdec_true] at *)
      (try simp only [notdec_false] at *)
      refine ⟨congrArg I ?_, hs.out⟩
      unfold Lim.ok
      first
        | (rw [if_pos (by simp only [Bool.and_eq_true, decide_eq_true_eq]; omega)]; done)
        | (rw [if_neg (by simp only [Bool.and_eq_true, decide_eq_true_eq]; omega)]; done)
    · refine .gT rfl rfl ?_
      refine .z (zfa fa_api_Limit_1) ?_
      refine .gT rfl rfl ?_
      refine .y hs (zld Tryz.isAgg3) ?_
      refine .gT rfl rfl ?_
      refine .z zm ?_
      refine .gT rfl rfl ?_
      refine .o (.call Tryz.call174 rfl (ref02_within_spec hs) ?_); rintro _ w ⟨rfl, hs⟩
      refine .gT rfl rfl ?_
      refine .z znot (.z zpF (.z zm ?_))
      refine .bif (t' := 22) rfl (fun hb22 => ?_) (fun hb22 => ?_)
      · refine .gFs 5 17 false rfl rfl rfl ?_
        refine .z zpT (.z zm ?_)
        refine .gFs 4 24 false rfl rfl rfl ?_
        refine .z zpT (.z zm ?_)
        refine .gFs 4 30 false rfl rfl rfl ?_
        refine .z zpT (.nil ?_)
        refine (.condT rfl rfl ?_)
        refine .regSeq (.z zg (.nil ?_))
        refine .ret (rT (Fin.ret1 Tryz.results175 rfl ?_))
        (try simp only [notdec_true] at *)
        (try simp only [notdec_false] at *)
        refine ⟨congrArg I ?_, hs.out⟩
        unfold Lim.ok
        first
          | (rw [if_pos (by simp only [Bool.and_eq_true, decide_eq_true_eq]; omega)]; done)
          | (rw [if_neg (by simp only [Bool.and_eq_true, decide_eq_true_eq]; omega)]; done)
      · refine .gT rfl rfl ?_
        refine .z (zfa fa_api_Limit_0) ?_
        refine .gT rfl rfl ?_
        refine .y hs (zld Tryz.isAgg3) ?_
        refine .gT rfl rfl ?_
        refine .z (zfa fa_api_Limit_1) ?_
        refine .gT rfl rfl ?_
        refine .y hs (zld Tryz.isAgg3) ?_
        refine .gT rfl rfl ?_
        refine .z zeql (.z zpF (.z zm ?_))
        refine .bifD (t' := 29) rfl (fun hb29 => ?_) (fun hb29 => ?_)
        · refine .gFs 4 24 false rfl rfl rfl ?_
          refine .z zpT (.z zm ?_)
          refine .gFs 4 30 false rfl rfl rfl ?_
          refine .z zpT (.nil ?_)
          refine (.condT rfl rfl ?_)
          refine .regSeq (.z zg (.nil ?_))
          refine .ret (rT (Fin.ret1 Tryz.results175 rfl ?_))
          (try simp only [notdec_true] at *)
          (try simp only [notdec_false] at *)
          refine ⟨congrArg I ?_, hs.out⟩
          unfold Lim.ok
          first
            | (rw [if_pos (by simp only [Bool.and_eq_true, decide_eq_true_eq]; omega)]; done)
            | (rw [if_neg (by simp only [Bool.and_eq_true, decide_eq_true_eq]; omega)]; done)
        · refine .gT rfl rfl ?_
          refine .z (zfa fa_api_Limit_2) ?_
          refine .gT rfl rfl ?_
          refine .y hs (zld Tryz.isAgg3) ?_
          refine .gT rfl rfl ?_
          refine .o (.call Tryz.call174 rfl (ref02_within_spec hs) ?_); rintro _ w ⟨rfl, hs⟩
          refine .gT rfl rfl ?_
          refine .z znot (.z zpF (.z zm ?_))
          refine .bif (t' := 35) rfl (fun hb35 => ?_) (fun hb35 => ?_)
          · refine .gFs 4 30 false rfl rfl rfl ?_
            refine .z zpT (.nil ?_)
            refine (.condT rfl rfl ?_)
            refine .regSeq (.z zg (.nil ?_))
            refine .ret (rT (Fin.ret1 Tryz.results175 rfl ?_))
            (try simp only [notdec_true] at *)
            (try simp only [notdec_false] at *)
            refine ⟨congrArg I ?_, hs.out⟩
            unfold Lim.ok
            first
              | (rw [if_pos (by simp only [Bool.and_eq_true, decide_eq_true_eq]; omega)]; done)
              | (rw [if_neg (by simp only [Bool.and_eq_true, decide_eq_true_eq]; omega)]; done)
          · refine .gT rfl rfl ?_
            refine .z (zfa fa_api_Limit_3) ?_
            refine .gT rfl rfl ?_
            refine .y hs (zld Tryz.isAgg3) ?_
            refine .gT rfl rfl ?_
            refine .o (.call Tryz.call174 rfl (ref02_within_spec hs) ?_); rintro _ w ⟨rfl, hs⟩
            refine .gT rfl rfl ?_
            refine .z znot (.z zpF (.nil ?_))
            refine (.cond rfl (fun hc40 => ?_) (fun hc40 => ?_))
            · refine .regSeq (.z zg (.nil ?_))
              refine .ret (rT (Fin.ret1 Tryz.results175 rfl ?_))
              (try simp only [notdec_true] at *)
              (try simp only [notdec_false] at *)
              refine ⟨congrArg I ?_, hs.out⟩
              unfold Lim.ok
              first
                | (rw [if_pos (by simp only [Bool.and_eq_true, decide_eq_true_eq]; omega)]; done)
                | (rw [if_neg (by simp only [Bool.and_eq_true, decide_eq_true_eq]; omega)]; done)
            · refine .skip ?_
              refine nT ?_
              refine .regSeq (.z zg (.nil ?_))
              refine .ret (Fin.ret1 Tryz.results175 rfl ?_)
              (try simp only [notdec_true] at *)
              (try simp only [notdec_false] at *)
              refine ⟨congrArg I ?_, hs.out⟩
              unfold Lim.ok
              first
                | (rw [if_pos (by simp only [Bool.and_eq_true, decide_eq_true_eq]; omega)]; done)
                | (rw [if_neg (by simp only [Bool.and_eq_true, decide_eq_true_eq]; omega)]; done)
theorem ref02_Check_spec {H : Heap} {w : World} {σ : List Ent} {v : Value} {s : Syst} (hs : St H w σ) (hr : RSy H v s) : Cl Tryz.prog 117 [v] w fun v w' => v = I s.check ∧ St H w' σ := by
  obtain ⟨u, rfl, hr⟩ := hr
  obtain ⟨a, c, rfl⟩ := RL.shape hr
  have hlen := (RS.len (RS.recap hr (Nat.le_refl _) (cap' := s.lims.length))).2.2
  refine Cl.of Tryz.func117 rfl Tryz.ntmps117 (by simp) (args_cons (k := 0) rfl (args0)) ?_
  refine .regSeq ?_
  refine .o (.box hs rfl rfl ?_); intro b1 w hs
  refine .z zg (.nil (.seq (.regSeq (.z (zfa fa_api_System_0) (.y hs (zld Tryz.isAgg3) ?_)))))
  refine .o (.call Tryz.call174 rfl (ref02_within_spec hs) ?_); rintro _ w ⟨rfl, hs⟩
  refine .z znot (.nil ?_)
  refine (.cond rfl (fun hc8 => ?_) (fun hc8 => ?_))
  · refine .regSeq (.z zg (.nil ?_))
    refine .ret (rT (Fin.ret1 Tryz.results117 rfl ?_))
    exact ⟨congrArg I (by unfold Syst.check; rw [if_pos (by simp at hc8; omega)]), hs.out⟩
  · refine .skip ?_
    refine nT ?_
    refine .seq (.regSeq (.z (zfa fa_api_System_1) (.y hs (zld Tryz.isAgg22) (.z (zlen Tryz.runUnderlying22) (.z zgtr (.nil ?_))))))
    refine (.condD rfl (fun hc12 => ?_) (fun hc12 => ?_))
    · refine .regSeq (.z zg (.nil ?_))
      refine .ret (rT (Fin.ret1 Tryz.results117 rfl ?_))
      exact ⟨congrArg I (by unfold Syst.check; rw [if_neg (by simpa using hc8), if_pos (by omega)]), hs.out⟩
    · refine .skip ?_
      refine nT ?_
      refine .seq (.regSeq (.z (zfa fa_api_System_1) (.y hs (zld Tryz.isAgg22) (.z (zlen Tryz.runUnderlying22) (.z zm (.nil ?_))))))
      refine .for (N := s.lims.length) (J := fun k fr w => fr = [(14, .slice a s.lims.length c), (1, .pointer (some ⟨b1, 0, none⟩))] ∧ (∀ j < k, ∀ l, s.lims[j]? = some l → l.ok s.many = true) ∧ St H w (.blk b1 [I s.many, .slice a s.lims.length c] :: σ)) (by omega) ?_ ?_ ?_
      · exact .mk ⟨rfl, fun j hj => by omega, hs⟩
      · rintro k fr w hk ⟨rfl, hno, hs⟩
        obtain ⟨x, hx⟩ := nth (l := s.lims) hk
        refine .block (.regSeq ?_)
        refine .ixX (enc := Lim.c) hs hr rfl rfl Tryz.runUnderlying22 Tryz.sizeOf157 hx rfl ?_; intro b18 o18 hc18
        refine .q hs (q_loadsR (vs := x.c) rfl Tryz.isAgg157 Tryz.sizeOf157 hc18) ?_
        refine .o (.alloc hs Tryz.zeroValue157 rfl ?_); intro b4 w hs
        refine .o (.stores (vs := x.c) hs rfl rfl Tryz.sizeOf157 ?_); intro w hs
        refine .nil (.regSeq (.z (zfa fa_api_System_0) (.y hs (zld Tryz.isAgg3) ?_)))
        refine .q hs (q_loads (vs := x.c) rfl Tryz.isAgg157 Tryz.sizeOf157) ?_
        refine .o (.call Tryz.call175 rfl (ref02_CheckLimit_spec hs) ?_); rintro _ w ⟨rfl, hs⟩
        have hmm : 0 ≤ s.many ∧ s.many ≤ 64 := by simpa using hc8
        rw [show (decide (0 ≤ s.many ∧ s.many ≤ 64) && x.ok s.many) = x.ok s.many by rw [decide_eq_true hmm]; rfl]
        refine .z zneq (.nil ?_)
        refine (.condN rfl (fun hc24 => ?_) (fun hc24 => ?_))
        · refine .regSeq (.z zg (.nil ?_))
          refine .ret (rB (rT (rB (rT (Fin.ret1 Tryz.results117 rfl ?_)))))
          exact ⟨congrArg I (by
            have hx0 : x.ok s.many = false := by cases e : x.ok s.many with | false => rfl | true => rw [e] at hc24; simp at hc24
            unfold Syst.check; rw [if_neg (by simpa using hc8), if_neg (by omega), if_pos (List.any_eq_true.2 ⟨x, List.mem_of_getElem? hx, by rw [hx0]; rfl⟩)]), hs.out⟩
        · refine .skip ?_
          refine nB (nT ?_)
          exact .mk ⟨rfl, upto_succ hno hx (by cases e : x.ok s.many with | true => rfl | false => rw [e] at hc24; simp at hc24), hs.tail⟩
      · rintro fr w ⟨rfl, hno, hs⟩
        refine nT ?_
        refine .regSeq (.z zg (.nil ?_))
        refine .ret (Fin.ret1 Tryz.results117 rfl ?_)
        exact ⟨congrArg I (by
          have hall : (s.lims.any fun l => !l.ok s.many) = false := by
            simp only [List.any_eq_false, Bool.not_eq_true', Bool.not_eq_false]
            intro l hl
            obtain ⟨j, hj⟩ := List.getElem?_of_mem hl
            exact hno j (List.getElem?_eq_some_iff.1 hj).1 l hj
          unfold Syst.check; rw [if_neg (by simpa using hc8), if_neg (by omega), hall]; rfl), hs.out⟩
theorem ref02_sized_spec {H : Heap} {w : World} {σ : List Ent} {v : Value} {ws : List Int} (hs : St H w σ) (hr : RI H v ws) : Cl Tryz.prog 201 [v] w fun v w' => ∃ b, v = .bool b ∧ (b = true ↔ SizedW ws) ∧ St H w' σ := by
  obtain ⟨a, c, rfl⟩ := RI.shape hr
  have hl := (RI.len hr).2.2
  refine Cl.of Tryz.func201 rfl Tryz.ntmps201 (by simp) (args_cons (k := 0) rfl (args0)) ?_
  refine .regSeq (.z zg (.nil (.regSeq (.z zg (.nil (.seq (.regSeq (.z zm (.z (zlen Tryz.runUnderlying25) ?_)))))))))
  refine .z zm (.nil ?_)
  refine .for (N := ws.length) (J := fun k fr w => fr = [(6, .slice a ws.length c), (3, I (sizesTo ws k))] ∧ sizesTo ws k ≤ 3600000000000 ∧ St H w σ) (by omega) ?_ ?_ ?_
  · exact .mk ⟨rfl, by simp [sizesTo, sumTo], hs⟩
  · rintro k fr w hk ⟨rfl, hle, hs⟩
    have hx := gi_get hk
    have h0 : 0 ≤ sizesTo ws k := sumTo_nonneg fun v _ => by omega
    have h1 : sizesTo ws (k + 1) = sizesTo ws k + max (gi ws k) (-gi ws k) := rfl
    refine .block (.regSeq ?_)
    first | (refine .ixv hs Tryz.runUnderlying25 Tryz.sizeOf3 ?_; intro b10 o10 hc10) | refine .z (zix Tryz.runUnderlying25 Tryz.sizeOf3) ?_
    refine .y hs (zld Tryz.isAgg3) (.z zg (.nil (.seq (.regSeq (.z zm (.z zlss (.z zm ?_)))))))
    refine .bifD (t' := 14) rfl (fun hb14 => ?_) (fun hb14 => ?_)
    · refine .gFs 2 2 false rfl rfl rfl ?_
      refine .z zpT (.nil ?_)
      refine (.condT rfl rfl ?_)
      refine .regSeq (.z zg (.nil ?_))
      refine .ret (rT (rB (rT (rB (rT (Fin.ret1 Tryz.results201 rfl ?_))))))
      exact ⟨false, rfl, ⟨fun h => (by cases h), fun h => (sizes_over (k := k + 1) hk (by simp only [FF]; omega) h).elim⟩, hs⟩
    · refine .gT rfl rfl ?_
      refine .z zm ?_
      refine .gT rfl rfl ?_
      refine .z zgtr (.z zpF (.nil ?_))
      refine (.condD rfl (fun hc17 => ?_) (fun hc17 => ?_))
      · refine .regSeq (.z zg (.nil ?_))
        refine .ret (rT (rB (rT (rB (rT (Fin.ret1 Tryz.results201 rfl ?_))))))
        exact ⟨false, rfl, ⟨fun h => (by cases h), fun h => (sizes_over (k := k + 1) hk (by simp only [FF]; omega) h).elim⟩, hs⟩
      · refine .skip ?_
        refine nT ?_
        refine .regSeq (.z zm (.z zm (.z zm (.z zneg (.z zmax (.z zadd (.z zg (.nil (.regSeq ?_)))))))))
        refine .z zm (.z zgtr (.nil ?_))
        refine (.condD rfl (fun hc25 => ?_) (fun hc25 => ?_))
        · refine .regSeq (.z zg (.nil ?_))
          refine .ret (rB (rT (rB (rT (Fin.ret1 Tryz.results201 rfl ?_)))))
          exact ⟨false, rfl, ⟨fun h => (by cases h), fun h => (sizes_over (k := k + 1) hk (by simp only [FF]; omega) h).elim⟩, hs⟩
        · refine .skip ?_
          refine nB (nT ?_)
          exact .mk ⟨rfl, by omega, hs⟩ (hs := .cons rfl (.cons rfl (.cons rfl (.consI rfl (by omega) (.nil rfl rfl)))))
  · rintro fr w ⟨rfl, hle, hs⟩
    refine nT ?_
    refine .regSeq (.z zg (.nil ?_))
    refine .ret (Fin.ret1 Tryz.results201 rfl ?_)
    exact ⟨true, rfl, ⟨fun _ => hle, fun _ => rfl⟩, hs⟩
theorem ref02_Weights_spec {H : Heap} {w : World} {σ : List Ent} {v vw : Value} {s : Syst} {ws : List Int} (hs : St H w σ) (hr : RSy H v s) (hrw : RI H vw ws) (hm : 0 ≤ s.many ∧ s.many ≤ 64) : Cl Tryz.prog 184 [v, vw] w fun v w' => ∃ b, v = .bool b ∧ (b = true ↔ (ws.length = s.n ∧ SizedW ws)) ∧ St H w' σ := by
  obtain ⟨u, rfl, hr⟩ := hr
  obtain ⟨aw, cw, rfl⟩ := RI.shape hrw
  have hn : (s.n : Int) = s.many + 1 := by simp only [Syst.n]; omega
  refine Cl.of Tryz.func184 rfl Tryz.ntmps184 (by simp) (args_cons (k := 0) rfl (args_cons (k := 1) rfl (args0))) ?_
  refine .regSeq ?_
  refine .o (.box hs rfl rfl ?_); intro b2 w hs
  refine .z zg (.nil (.regSeq (.z zm (.z (zlen Tryz.runUnderlying25) (.z (zfa fa_api_System_0) (.y hs (zld Tryz.isAgg3) (.z zadd (.z zeql (.z zm ?_)))))))))
  refine .bifD (t' := 11) rfl (fun hb11 => ?_) (fun hb11 => ?_)
  · refine .gT rfl rfl ?_
    refine .z zm ?_
    refine .gT rfl rfl ?_
    refine .o (.call Tryz.call201 rfl (ref02_sized_spec hs hrw) ?_); rintro _ w ⟨b, rfl, hb, hs⟩
    refine .z zpT (.z zg (.nil ?_))
    refine .ret (Fin.ret1 Tryz.results184 rfl ?_)
    first
      | exact ⟨b, rfl, ⟨fun h => ⟨by omega, hb.1 h⟩, fun h => hb.2 h.2⟩, hs.out⟩
      | exact ⟨false, rfl, ⟨fun h => (by cases h), fun h => by omega⟩, hs.out⟩
  · refine .gFs 2 6 true rfl rfl rfl ?_
    refine .z zpF (.z zg (.nil ?_))
    refine .ret (Fin.ret1 Tryz.results184 rfl ?_)
    first
      | exact ⟨b, rfl, ⟨fun h => ⟨by omega, hb.1 h⟩, fun h => hb.2 h.2⟩, hs.out⟩
      | exact ⟨false, rfl, ⟨fun h => (by cases h), fun h => by omega⟩, hs.out⟩
theorem ref02_asked_spec {H : Heap} {w : World} {σ : List Ent} {v vw : Value} {s : Syst} {ws : List Int} (hs : St H w σ) (hr : RSy H v s) (hrw : RI H vw ws) : Cl Tryz.prog 151 [v, vw] w fun v w' => v = I (askErr s ws) ∧ St H w' σ := by
  obtain ⟨u, rfl, hr⟩ := hr
  obtain ⟨al, cl, rfl⟩ := RL.shape hr
  obtain ⟨aw, cw, rfl⟩ := RI.shape hrw
  refine Cl.of Tryz.func151 rfl Tryz.ntmps151 (by simp) (args_cons (k := 0) rfl (args_cons (k := 1) rfl (args0))) ?_
  refine .regSeq ?_
  refine .o (.box hs rfl rfl ?_); intro b2 w hs
  refine .z zg (.nil (.regSeq (.y hs (zls [_, _] Tryz.isAgg24 Tryz.sizeOf24) ?_)))
  refine .o (.call Tryz.call117 rfl (ref02_Check_spec (s := s) hs ⟨_, rfl, hr⟩) ?_); rintro _ w ⟨rfl, hs⟩
  refine .z zg (.nil (.seq (.regSeq (.z zm (.z zeql (.z zm ?_))))))
  refine .bifD (t' := 10) rfl (fun hb10 => ?_) (fun hb10 => ?_)
  · refine .gT rfl rfl ?_
    have hok := s.ok_iff.1 hb10
    have hm0 := hok.m0; have hm1 := hok.m1
    refine .y hs (zls [_, _] Tryz.isAgg24 Tryz.sizeOf24) ?_
    refine .gT rfl rfl ?_
    refine .z zm ?_
    refine .gT rfl rfl ?_
    refine .o (.call Tryz.call184 rfl (ref02_Weights_spec (s := s) hs ⟨_, rfl, hr⟩ hrw ⟨hm0, hm1⟩) ?_); rintro _ w ⟨b, rfl, hb, hs⟩
    refine .gT rfl rfl ?_
    refine .z znot (.z zpT (.nil ?_))
    refine (.cond rfl (fun hc15 => ?_) (fun hc15 => ?_))
    · refine .region (.z zg (.nil ?_))
      refine nT ?_
      refine .regSeq (.z zm (.z zg (.nil ?_)))
      refine .ret (Fin.ret1 Tryz.results151 rfl ?_)
      refine ⟨congrArg I ?_, hs.out⟩
      unfold askErr
      first
        | (rw [if_neg (by omega), if_neg (fun h => by have := hb.2 h; simp_all)]; done)
        | (rw [if_neg (by omega), if_pos (hb.1 (by simpa using hc15))]; omega)
        | (rw [if_pos (by assumption)]; done)
    · refine .skip ?_
      refine nT ?_
      refine .regSeq (.z zm (.z zg (.nil ?_)))
      refine .ret (Fin.ret1 Tryz.results151 rfl ?_)
      refine ⟨congrArg I ?_, hs.out⟩
      unfold askErr
      first
        | (rw [if_neg (by omega), if_neg (fun h => by have := hb.2 h; simp_all)]; done)
        | (rw [if_neg (by omega), if_pos (hb.1 (by simpa using hc15))]; omega)
        | (rw [if_pos (by assumption)]; done)
  · refine .gFs 4 2 true rfl rfl rfl ?_
    refine .z zpF (.nil ?_)
    refine (.condF rfl rfl ?_)
    refine .skip ?_
    refine nT ?_
    refine .regSeq (.z zm (.z zg (.nil ?_)))
    refine .ret (Fin.ret1 Tryz.results151 rfl ?_)
    refine ⟨congrArg I ?_, hs.out⟩
    unfold askErr
    first
      | (rw [if_neg (by omega), if_neg (fun h => by have := hb.2 h; simp_all)]; done)
      | (rw [if_neg (by omega), if_pos (hb.1 (by simpa using hc15))]; omega)
      | (rw [if_pos (by assumption)]; done)
theorem ref02_Negative_spec {H : Heap} {w : World} {σ : List Ent} {v : Value} {ws : List Int} (hs : St H w σ) (hr : RI H v ws) (hl : ws.length ≤ 1000) (hz : SizedW ws) : Cl Tryz.prog 166 [v] w fun u w' => ∃ H1, HLe H H1 ∧ RI H1 u (negW ws) ∧ St H1 w' σ := by
  obtain ⟨a, c, rfl⟩ := RI.shape hr
  have hFF : FF = 3600000000000 := rfl
  unfold SizedW at hz
  refine Cl.of Tryz.func166 rfl Tryz.ntmps166 (by simp) (args_cons (k := 0) rfl (args0)) ?_
  refine .regSeq (.z zg (.nil (.regSeq (.z zg (.nil (.seq (.regSeq (.z zm (.z (zlen Tryz.runUnderlying25) ?_)))))))))
  refine .z zm (.nil ?_)
  refine .for (N := ws.length) (J := fun k fr w => ∃ v3 en, OwnS 1 v3 (Is (negW (ws.take k))) en ∧ fr = [(3, v3), (6, .slice a ws.length c)] ∧ St H w (en :: σ)) (by omega) ?_ ?_ ?_
  · exact .mk ⟨_, _, .nil 1 none, rfl, hs.nul⟩
  · rintro k fr w hk ⟨v3, en, hO, rfl, hs⟩
    have hx := gi_get hk
    have hsz := sizes_at ws (v := k) (n := ws.length) hk
    refine .block (.regSeq ?_)
    refine .ixY hs hr rfl rfl Tryz.runUnderlying25 Tryz.sizeOf3 hx rfl ?_; intro b10 o10 hc10
    refine .q hs (q_loadR rfl Tryz.isAgg3 hc10) ?_
    refine .z zg (.nil (.region (.z zm (.z zm (.z zneg ?_)))))
    refine .o (.buildSlice (cells := [_]) hs bls_sl_int_1 rfl rfl ?_); intro b15 w hs
    refine .o (.append (ys := [I (-gi ws k)]) hs app_sl_int_int rfl rfl hO (.own .here rfl rfl) (by simp [Value.oneCell']) (fun l' h => by simp [negW] at h; omega) ?_); intro v16 en16 w hO2 hs
    refine .z zg (.nil ?_)
    refine nB (nT ?_)
    exact .mk ⟨v16, en16, by rw [take_snoc hx]; simpa [negW] using hO2, rfl, hs.sub (by repeat (first | exact Sub.refl _ | constructor | apply Sub.weaken))⟩
  · rintro fr w ⟨v3, en, hO, rfl, hs⟩
    rw [List.take_length] at hO
    refine nT ?_
    refine .regSeq (.z zm (.z zg (.nil ?_)))
    refine .ret (Fin.ret1 Tryz.results166 rfl ?_)
    obtain ⟨H2, g1, g2, hs⟩ := hO.publishI (by simp [negW]; omega) hs .here
    exact ⟨H2, g1, g2, hs⟩
theorem ref02_most_spec {H : Heap} {w : World} {σ : List Ent} {vm vw : Value} {s : Syst} {Ms : List (List Int)} {ws : List Int} (hs : St H w σ) (hM : RT H vm Ms) (hqM : Sq s.n Ms) (hT : WaysT s.n s.arcs (gt Ms)) (hrw : RI H vw ws) (hA : askErr s ws = 0) :
    Cl Tryz.prog 165 [vm, vw] w fun u w' => ∃ H1 n e, HLe H H1 ∧ u = .tuple #[I n, I e] ∧ MostR s ws n e ∧ St H1 w' σ := by
  obtain ⟨hok, hwl, hz⟩ := askErr_ok hA
  have hinn := hok.inn
  have hn65 := hok.n65
  have hnp := s.n_pos
  obtain ⟨fs, hF⟩ := tab_exists s.n (gt Ms)
  have hsd := sound_diag hok hT
  have hz2 : sizesTo ws s.n ≤ FF := by unfold SizedW at hz; rwa [hwl] at hz
  refine Cl.of Tryz.func165 rfl Tryz.ntmps165 (by simp) (args_cons (k := 0) rfl (args_cons (k := 1) rfl (args0))) ?_
  refine .regSeq (.z zg (.z zg (.nil (.seq (.regSeq (.z zm ?_))))))
  refine .o (.call Tryz.call154 rfl (ref02_Sound_spec hs hM hqM (by omega)) ?_); rintro _ w ⟨b, rfl, hb, hs⟩
  refine .z znot (.nil ?_)
  refine (.cond rfl (fun hc10 => ?_) (fun hc10 => ?_))
  · refine .regSeq (.z zg (.z zg (.nil ?_)))
    refine .ret (rT (Fin.ret2 Tryz.results165 rfl rfl ?_))
    have hb0 : b = false := by simpa using hc10
    exact ⟨H, 0, 23, HLe.refl H, rfl, mostR_clash hA (fun h => by have := hb.2 (hsd.1 h); rw [hb0] at this; cases this), hs⟩
  · refine .skip ?_
    refine nT ?_
    refine .regSeq (.z zm (.z zm ?_))
    have hso : s.Sound := hsd.2 (hb.1 (by simpa using hc10))
    refine .o (.call Tryz.call194 rfl (ref02_Least_spec (n := s.many.toNat) (es := fs) hs hM hqM hrw hwl hn65 hz2 hF (by obtain ⟨p, hp⟩ := hso; exact ⟨p, (hT.feas hinn hF).2 hp⟩)
      (fun x hx => by
        obtain ⟨b1, b2, b3, b4, b5⟩ := hF.ok x hx
        have h1 := hT.up x.f x.t b1 b2 (by rw [b4]; exact b5)
        have h2 := hT.low hnp hn65 hinn hso b1 b2 (by rw [b4]; exact b5)
        rw [b4] at h1 h2
        exact ⟨h2, h1⟩)
      (fun m hm => by
        have := (hok.bd hwl hz ((hT.opt hinn hF).1 hm)).2
        exact ⟨this.2, this.1⟩)) ?_); rintro _ w ⟨H1, n, ok, hle1, rfl, hcase, hs⟩
    refine .z zm (.z zex (.z zex (.z zg (.z zg (.nil (.seq (.regSeq (.z zm (.z znot ?_)))))))))
    refine .nil ?_
    refine (.cond rfl (fun hc18 => ?_) (fun hc18 => ?_))
    · refine .regSeq (.z zg (.z zg (.nil ?_)))
      refine .ret (rT (Fin.ret2 Tryz.results165 rfl rfl ?_))
      have hk0 : ok = false := by simpa using hc18
      rcases hcase with ⟨h, _⟩ | ⟨_, h⟩
      · rw [hk0] at h; cases h
      · exact ⟨H1, 0, 22, hle1, rfl, mostR_open hA hso hT hF h, hs⟩
    · refine .skip ?_
      refine nT ?_
      refine .regSeq (.z zm (.z zg (.z zg (.nil ?_))))
      refine .ret (Fin.ret2 Tryz.results165 rfl rfl ?_)
      have hk0 : ok = true := by simpa using hc18
      rcases hcase with ⟨_, h⟩ | ⟨h, _⟩
      · exact ⟨H1, n, 0, hle1, rfl, mostR_opt hA hT hF h, hs⟩
      · rw [hk0] at h; cases h
theorem ref02_Most_spec {H : Heap} {w : World} {σ : List Ent} {v vw : Value} {s : Syst} {ws : List Int} (hs : St H w σ) (hr : RSy H v s) (hrw : RI H vw ws) :
    Cl Tryz.prog 145 [v, vw] w fun u w' => ∃ H1 n e, HLe H H1 ∧ u = .tuple #[I n, I e] ∧ MostR s ws n e ∧ St H1 w' σ := by
  obtain ⟨u, rfl, hr⟩ := hr
  obtain ⟨al, cl, rfl⟩ := RL.shape hr
  obtain ⟨aw, cw, rfl⟩ := RI.shape hrw
  refine Cl.of Tryz.func145 rfl Tryz.ntmps145 (by simp) (args_cons (k := 0) rfl (args_cons (k := 1) rfl (args0))) ?_
  refine .regSeq ?_
  refine .o (.box hs rfl rfl ?_); intro b2 w hs
  refine .z zg (.z zg (.nil (.regSeq (.y hs (zls [_, _] Tryz.isAgg24 Tryz.sizeOf24) (.z zm ?_)))))
  refine .o (.call Tryz.call151 rfl (ref02_asked_spec (s := s) hs ⟨_, rfl, hr⟩ hrw) ?_); rintro _ w ⟨rfl, hs⟩
  refine .z zg (.nil (.seq (.regSeq (.z zm (.z zneq (.nil ?_))))))
  refine (.condN rfl (fun hc11 => ?_) (fun hc11 => ?_))
  · refine .regSeq (.z zm (.z zg (.z zg (.nil ?_))))
    refine .ret (rT (Fin.ret2 Tryz.results145 rfl rfl ?_))
    exact ⟨H, 0, _, HLe.refl H, rfl, ⟨.bad hc11, fun _ => rfl, fun h => (hc11 h).elim⟩, hs.out⟩
  · refine .skip ?_
    refine nT ?_
    refine .regSeq (.y hs (zls [_, _] Tryz.isAgg24 Tryz.sizeOf24) ?_)
    have hA : askErr s ws = 0 := by simpa using hc11
    refine .o (.call Tryz.call126 rfl (ref02_Ways_spec (s := s) hs ⟨_, rfl, hr⟩ (askErr_ok hA).1) ?_); rintro _ w ⟨H1, Ms, hle1, hM, hqM, hT, hs⟩
    refine .z zm ?_
    refine .o (.call Tryz.call165 rfl (ref02_most_spec (s := s) hs hM hqM hT (hrw.mono hle1) hA) ?_); rintro _ w ⟨H2, n, e, hle2, rfl, hR, hs⟩
    refine .z zex (.z zex (.z zg (.z zg (.nil ?_))))
    refine .ret (Fin.ret2 Tryz.results145 rfl rfl ?_)
    exact ⟨H2, n, e, hle1.trans hle2, rfl, hR, hs.out⟩
theorem ref02_ends_spec {H : Heap} {w : World} {σ : List Ent} {v vw : Value} {s : Syst} {ws : List Int} (hs : St H w σ) (hr : RSy H v s) (hrw : RI H vw ws) (hA : askErr s ws = 0) :
    Cl Tryz.prog 111 [v, vw] w fun u w' => ∃ H1 lo hi e, HLe H H1 ∧ u = .tuple #[I lo, I hi, I e] ∧ RangeR s ws lo hi e ∧ St H1 w' σ := by
  obtain ⟨u, rfl, hr⟩ := hr
  obtain ⟨al, cl, rfl⟩ := RL.shape hr
  obtain ⟨hok, hwl, hz⟩ := askErr_ok hA
  have hn65 := hok.n65
  have hBB : BB = 4608000000000000000 := rfl
  refine Cl.of Tryz.func111 rfl Tryz.ntmps111 (by simp) (args_cons (k := 0) rfl (args_cons (k := 1) rfl (args0))) ?_
  refine .regSeq ?_
  refine .o (.box hs rfl rfl ?_); intro b2 w hs
  refine .z zg (.z zg (.z zg (.nil (.regSeq (.y hs (zls [_, _] Tryz.isAgg24 Tryz.sizeOf24) ?_)))))
  refine .o (.call Tryz.call126 rfl (ref02_Ways_spec (s := s) hs ⟨_, rfl, hr⟩ hok) ?_); rintro _ w ⟨H1, Ms, hle1, hM, hqM, hT, hs⟩
  refine .z zg (.nil (.regSeq (.z zm (.z zm ?_))))
  refine .o (.call Tryz.call165 rfl (ref02_most_spec (s := s) hs hM hqM hT (hrw.mono hle1) hA) ?_); rintro _ w ⟨H2, n, e, hle2, rfl, hR, hs⟩
  refine .z zm (.z zex (.z zex (.z zg (.z zg (.nil (.seq (.regSeq (.z zm (.z zneq ?_)))))))))
  refine .nil ?_
  refine (.condN rfl (fun hc20 => ?_) (fun hc20 => ?_))
  · refine .regSeq (.z zm (.z zg (.z zg (.z zg (.nil ?_)))))
    refine .ret (rT (Fin.ret3 Tryz.results111 rfl rfl rfl ?_))
    exact ⟨H2, 0, 0, e, hle1.trans hle2, rfl, .first hR hc20, hs.out⟩
  · refine .skip ?_
    refine nT ?_
    refine .regSeq (.z zm (.z zm ?_))
    obtain rfl : e = 0 := by simpa using hc20
    refine .o (.call Tryz.call166 rfl (ref02_Negative_spec hs ((hrw.mono hle1).mono hle2) (by omega) hz) ?_); rintro _ w ⟨H3, hle3, hN, hs⟩
    refine .o (.call Tryz.call165 rfl (ref02_most_spec (s := s) (ws := negW ws) hs ((hM.mono hle2).mono hle3) hqM hT hN (by rw [askErr_neg]; exact hA)) ?_); rintro _ w ⟨H4, n2, e2, hle4, rfl, hR2, hs⟩
    refine .z zm (.z zex (.z zex (.z zg (.z zg (.nil (.seq (.regSeq (.z zm (.z zneq ?_)))))))))
    refine .nil ?_
    refine (.condN rfl (fun hc30 => ?_) (fun hc30 => ?_))
    · refine .regSeq (.z zm (.z zg (.z zg (.z zg (.nil ?_)))))
      refine .ret (rT (Fin.ret3 Tryz.results111 rfl rfl rfl ?_))
      exact ⟨H4, 0, 0, e2, hle1.trans (hle2.trans (hle3.trans hle4)), rfl, .second hR hR2 hc30, hs.out⟩
    · refine .skip ?_
      refine nT ?_
      refine .regSeq (.z zm ?_)
      obtain rfl : e2 = 0 := by simpa using hc30
      have hbd := (hR2.2.2 rfl).2
      refine .z zneg (.z zm (.z zg (.z zg (.z zg (.nil ?_)))))
      refine .ret (Fin.ret3 Tryz.results111 rfl rfl rfl ?_)
      exact ⟨H4, -n2, n, 0, hle1.trans (hle2.trans (hle3.trans hle4)), rfl, .ok hR hR2, hs.out⟩
theorem ref02_Range_spec {H : Heap} {w : World} {σ : List Ent} {v vw : Value} {s : Syst} {ws : List Int} (hs : St H w σ) (hr : RSy H v s) (hrw : RI H vw ws) :
    Cl Tryz.prog 75 [v, vw] w fun u w' => ∃ H1 lo hi e, HLe H H1 ∧ u = .tuple #[I lo, I hi, I e] ∧ RangeR s ws lo hi e ∧ St H1 w' σ := by
  obtain ⟨u, rfl, hr⟩ := hr
  obtain ⟨al, cl, rfl⟩ := RL.shape hr
  obtain ⟨aw, cw, rfl⟩ := RI.shape hrw
  refine Cl.of Tryz.func75 rfl Tryz.ntmps75 (by simp) (args_cons (k := 0) rfl (args_cons (k := 1) rfl (args0))) ?_
  refine .regSeq ?_
  refine .o (.box hs rfl rfl ?_); intro b2 w hs
  refine .z zg (.z zg (.z zg (.nil (.regSeq (.y hs (zls [_, _] Tryz.isAgg24 Tryz.sizeOf24) (.z zm ?_))))))
  refine .o (.call Tryz.call151 rfl (ref02_asked_spec (s := s) hs ⟨_, rfl, hr⟩ hrw) ?_); rintro _ w ⟨rfl, hs⟩
  refine .z zg (.nil (.seq (.regSeq (.z zm (.z zneq (.nil ?_))))))
  refine (.condN rfl (fun hc12 => ?_) (fun hc12 => ?_))
  · refine .regSeq (.z zm (.z zg (.z zg (.z zg (.nil ?_)))))
    refine .ret (rT (Fin.ret3 Tryz.results75 rfl rfl rfl ?_))
    exact ⟨H, 0, 0, _, HLe.refl H, rfl, .first ⟨.bad hc12, fun _ => rfl, fun h => (hc12 h).elim⟩ hc12, hs.out⟩
  · refine .skip ?_
    refine nT ?_
    refine .regSeq (.y hs (zls [_, _] Tryz.isAgg24 Tryz.sizeOf24) (.z zm ?_))
    have hA : askErr s ws = 0 := by simpa using hc12
    refine .o (.call Tryz.call111 rfl (ref02_ends_spec (s := s) hs ⟨_, rfl, hr⟩ hrw hA) ?_); rintro _ w ⟨H1, lo, hi, e, hle1, rfl, hR, hs⟩
    refine .z zex (.z zex (.z zex (.z zg (.z zg (.z zg (.nil ?_))))))
    refine .ret (Fin.ret3 Tryz.results75 rfl rfl rfl ?_)
    exact ⟨H1, lo, hi, e, hle1, rfl, hR, hs.out⟩
end Go.Proofs.YtiiokdeehlfeeaaGreat

namespace Go.Proofs.YtiiokdeehlfeeaaGreat
open Go.MW
def SettledR (a : Quest) (b : Bool) (e : Int) : Prop := (CAskR a e ∧ e ≠ 0 ∧ b = false) ∨ (AskOk a ∧ e = 0 ∧ ∃ lo hi, RangeR a.sys a.ws lo hi 0 ∧ b = decide (hi - lo ≤ a.width))
def SideR (a : Quest) (z x e : Int) : Prop := (CAskR a e ∧ e ≠ 0 ∧ x = 0) ∨ (AskOk a ∧ e = 0 ∧ ∃ lo hi, RangeR a.sys a.ws lo hi 0 ∧ x = if z ≤ lo then 1 else if hi < z then 0 else 2)
theorem WidthR.uniq {a : Quest} {n m e f : Int} (h : WidthR a n e) (g : WidthR a m f) : n = m ∧ e = f := by
  rcases h with ⟨h1, h2, h3⟩ | ⟨h1, h2, lo, hi, h3, h4⟩ <;> rcases g with ⟨g1, g2, g3⟩ | ⟨g1, g2, lo', hi', g3, g4⟩
  · exact ⟨by rw [h3, g3], h1.uniq g1⟩
  · exact (h2 (h1.uniq (CAskR.zero.2 g1))).elim
  · exact (g2 (g1.uniq (CAskR.zero.2 h1))).elim
  · obtain ⟨rfl, rfl, -⟩ := h3.uniq g3; exact ⟨by rw [h4, g4], by rw [h2, g2]⟩
theorem SettledR.uniq {a : Quest} {n m : Bool} {e f : Int} (h : SettledR a n e) (g : SettledR a m f) : n = m ∧ e = f := by
  rcases h with ⟨h1, h2, h3⟩ | ⟨h1, h2, lo, hi, h3, h4⟩ <;> rcases g with ⟨g1, g2, g3⟩ | ⟨g1, g2, lo', hi', g3, g4⟩
  · exact ⟨by rw [h3, g3], h1.uniq g1⟩
  · exact (h2 (h1.uniq (CAskR.zero.2 g1))).elim
  · exact (g2 (g1.uniq (CAskR.zero.2 h1))).elim
  · obtain ⟨rfl, rfl, -⟩ := h3.uniq g3; exact ⟨by rw [h4, g4], by rw [h2, g2]⟩
theorem SideR.uniq {a : Quest} {z n m e f : Int} (h : SideR a z n e) (g : SideR a z m f) : n = m ∧ e = f := by
  rcases h with ⟨h1, h2, h3⟩ | ⟨h1, h2, lo, hi, h3, h4⟩ <;> rcases g with ⟨g1, g2, g3⟩ | ⟨g1, g2, lo', hi', g3, g4⟩
  · exact ⟨by rw [h3, g3], h1.uniq g1⟩
  · exact (h2 (h1.uniq (CAskR.zero.2 g1))).elim
  · exact (g2 (g1.uniq (CAskR.zero.2 h1))).elim
  · obtain ⟨rfl, rfl, -⟩ := h3.uniq g3; exact ⟨by rw [h4, g4], by rw [h2, g2]⟩
theorem ref09_in_spec {H : Heap} {w : World} {σ : List Ent} {a0 a1 a2 : Int} (hs : St H w σ) : Cl Tryz.prog 55 [I a0, I a1, I a2] w fun v w' => v = .bool (decide (a1 ≤ a0 ∧ a0 ≤ a2)) ∧ St H w' σ := by
  refine Cl.of Tryz.func55 rfl Tryz.ntmps55 (by simp) (args_cons (k := 0) rfl (args_cons (k := 1) rfl (args_cons (k := 2) rfl (args0)))) ?_
  refine .regSeq (.z zg (.nil (.regSeq (.z zm (.z zm (.z zleq (.z zm ?_)))))))
  refine .bifD (t' := 10) rfl (fun hb10 => ?_) (fun hb10 => ?_)
  · refine .gT rfl rfl ?_
    refine .z zm ?_
    refine .gT rfl rfl ?_
    refine .z zm ?_
    refine .gT rfl rfl ?_
    refine .z zleq (.z zpT (.z zg (.nil ?_)))
    refine .ret (Fin.ret1 Tryz.results55 rfl ?_)
    exact ⟨by simp [*], hs.out⟩
  · refine .gFs 3 3 true rfl rfl rfl ?_
    refine .z zpF (.z zg (.nil ?_))
    refine .ret (Fin.ret1 Tryz.results55 rfl ?_)
    exact ⟨by simp [*], hs.out⟩
theorem ref09_sized_spec {H : Heap} {w : World} {σ : List Ent} {v : Value} {ws : List Int} (hs : St H w σ) (hr : RI H v ws) (hz : SizedW ws) : Cl Tryz.prog 185 [v] w fun v w' => v = .bool (decide (sizesTo ws ws.length ≤ 1800000000000)) ∧ St H w' σ := by
  obtain ⟨a, c, rfl⟩ := RI.shape hr
  have hl := (RI.len hr).2.2
  unfold SizedW at hz
  refine Cl.of Tryz.func185 rfl Tryz.ntmps185 (by simp) (args_cons (k := 0) rfl (args0)) ?_
  refine .regSeq (.z zg (.nil (.regSeq (.z zg (.nil (.seq (.regSeq (.z zg (.nil ?_)))))))))
  refine .block ?_
  refine .loop (fun k : Nat => ⟨25, [], [(4, I (k : Int)), (3, I (sizesTo ws k)), (0, .slice a ws.length c)]⟩) (fun k w => k ≤ ws.length ∧ St H w σ) (fun k => ws.length - k) 0 (by repeat (first | exact .nil rfl rfl | refine .cons rfl ?_)) ⟨by omega, hs⟩ ?_
  rintro k w ⟨hk, hs⟩
  refine .seq (.regSeq (.z zm (.z zm (.z (zlen Tryz.runUnderlying25) (.z zlss (.nil ?_))))))
  refine (.condD rfl (fun hc8 => ?_) (fun hc8 => ?_))
  · refine .skip ?_
    refine nT ?_
    refine .seq (.block ?_)
    refine .draw mix rfl hs ?_; intro w hs
    have hk' : k < ws.length := by omega
    have hx := gi_get hk'
    have h0 : 0 ≤ sizesTo ws k := sumTo_nonneg fun v _ => by omega
    have h1 : sizesTo ws (k + 1) = sizesTo ws k + max (gi ws k) (-gi ws k) := rfl
    have h2 : sizesTo ws (k + 1) ≤ sizesTo ws ws.length := sumTo_mono (f := fun v => max (gi ws v) (-gi ws v)) (fun v => by omega) (by omega)
    have hFF : FF = 3600000000000 := rfl
    refine .z 0 rfl zm ?_; refine .z 1 rfl zm ?_; refine .z 2 rfl zm ?_
    refine .ixX (enc := fun x => [I x]) (i := 3) hs rfl (by kernel_rfl) .none hr rfl rfl Tryz.runUnderlying25 Tryz.sizeOf3 hx rfl ?_; intro b14 o14 hc14; replace hc14 := CellsAt.one hc14
    refine .r (i := 4) hs rfl (by kernel_rfl) .none (q_loadR rfl Tryz.isAgg3 hc14) ?_
    refine .z 5 rfl zm ?_; refine .z 6 rfl zm ?_
    refine .ixX (enc := fun x => [I x]) (i := 7) hs rfl (by kernel_rfl) .none hr rfl rfl Tryz.runUnderlying25 Tryz.sizeOf3 hx rfl ?_; intro b18 o18 hc18; replace hc18 := CellsAt.one hc18
    refine .r (i := 8) hs rfl (by kernel_rfl) .none (q_loadR rfl Tryz.isAgg3 hc18) ?_
    refine .z 9 rfl zneg ?_; refine .z 10 rfl zmax ?_; refine .z 11 rfl zadd ?_; refine .z 12 rfl zg ?_; refine .done (by kernel_rfl) hs ?_
    refine nB (nT ?_)
    refine .region (.z zm (.z zadd (.z zg (.nil ?_))))
    refine nT ?_
    exact ⟨k + 1, .consI rfl (by push_cast; omega) (by repeat (first | exact .nil rfl rfl | refine .cons rfl ?_)), ⟨by omega, hs⟩, by omega⟩
  · refine .exit ?_
    refine xT (xT (xB (nT ?_)))
    refine .regSeq (.z zm (.z zleq (.z zg (.nil ?_))))
    refine .ret (Fin.ret1 Tryz.results185 rfl ?_)
    obtain rfl : k = ws.length := by omega
    exact ⟨rfl, hs⟩
theorem ref09_CheckAsk_spec {H : Heap} {w : World} {σ : List Ent} {v : Value} {a : Quest} (hs : St H w σ) (hr : RAsk H v a) : Cl Tryz.prog 142 [v] w fun v w' => ∃ H1 e, HLe H H1 ∧ v = I e ∧ CAskR a e ∧ St H1 w' σ := by
  obtain ⟨ul, uw, rfl, hl, hw⟩ := hr
  obtain ⟨al, cpl, rfl⟩ := RL.shape hl
  have hm : a.sys.check = 0 → 0 ≤ a.sys.many ∧ a.sys.many ≤ 64 ∧ (a.sys.n : Int) = a.sys.many + 1 := fun h => by
    have h1 := a.sys.ok_iff.1 h
    have := h1.m0; have := h1.m1
    simp only [Syst.n]; omega
  have hFF : FF = 3600000000000 := rfl
  refine Cl.of Tryz.func142 rfl Tryz.ntmps142 (by simp) (args_cons (k := 0) rfl (args0)) ?_
  refine .regSeq ?_
  refine .o (.box hs rfl rfl ?_); intro b1 w hs
  refine .z zg (.nil (.regSeq (.z (zfa fa_api_Ask_0) (.y hs (zls [_, _] Tryz.isAgg24 Tryz.sizeOf24) ?_))))
  refine .o (.call Tryz.call117 rfl (ref02_Check_spec (s := a.sys) hs ⟨_, rfl, hl⟩) ?_); rintro _ w ⟨rfl, hs⟩
  refine .z zg (.nil (.seq (.regSeq (.z zm (.z zneq (.nil ?_))))))
  refine (.condN rfl (fun hc11 => ?_) (fun hc11 => ?_))
  · refine .regSeq (.z zm (.z zg (.nil ?_)))
    refine .ret (rT (Fin.ret1 Tryz.results142 rfl ?_))
    exact ⟨H, _, HLe.refl _, rfl, .sys hc11, hs.tail⟩
  · refine .skip ?_
    refine nT ?_
    refine .seq (.regSeq (.z (zfa fa_api_Ask_0) (.z (zfa fa_api_System_0) (.y hs (zld Tryz.isAgg3) (.z zgtr (.z zm ?_))))))
    refine .bifD (t' := 17) rfl (fun hb17 => ?_) (fun hb17 => ?_)
    · refine .gFs 5 4 false rfl rfl rfl ?_
      refine .z zpT (.nil ?_)
      refine (.condT rfl rfl ?_)
      refine .regSeq (.z zg (.nil ?_))
      refine .ret (rT (Fin.ret1 Tryz.results142 rfl ?_))
      exact ⟨H, _, HLe.refl _, rfl, .long hc11 (by omega), hs.tail⟩
    · refine .gT rfl rfl ?_
      refine .z (zfa fa_api_Ask_0) ?_
      refine .gT rfl rfl ?_
      refine .z (zfa fa_api_System_1) ?_
      refine .gT rfl rfl ?_
      refine .y hs (zld Tryz.isAgg22) ?_
      refine .gT rfl rfl ?_
      refine .z (zlen Tryz.runUnderlying22) ?_
      refine .gT rfl rfl ?_
      refine .z zgtr (.z zpF (.nil ?_))
      refine (.condD rfl (fun hc23 => ?_) (fun hc23 => ?_))
      · refine .regSeq (.z zg (.nil ?_))
        refine .ret (rT (Fin.ret1 Tryz.results142 rfl ?_))
        exact ⟨H, _, HLe.refl _, rfl, .long hc11 (by omega), hs.tail⟩
      · refine .skip ?_
        refine nT ?_
        refine .seq (.regSeq (.z (zfa fa_api_Ask_0) (.y hs (zls [_, _] Tryz.isAgg24 Tryz.sizeOf24) (.z (zfa fa_api_Ask_1) (.y hs (zld Tryz.isAgg25) ?_)))))
        obtain ⟨m0, m1, mn⟩ := hm hc11
        refine .o (.call Tryz.call184 rfl (ref02_Weights_spec (s := a.sys) hs ⟨_, rfl, hl⟩ hw ⟨m0, m1⟩) ?_); rintro _ w ⟨bw, rfl, hbw, hs⟩
        refine .z znot (.z zm ?_)
        refine .bif (t' := 30) rfl (fun hb30 => ?_) (fun hb30 => ?_)
        · refine .gFs 4 6 false rfl rfl rfl ?_
          refine .z zpT (.nil ?_)
          refine (.condT rfl rfl ?_)
          refine .regSeq (.z zg (.nil ?_))
          refine .ret (rT (Fin.ret1 Tryz.results142 rfl ?_))
          exact ⟨H, _, HLe.refl _, rfl, .weight hc11 (by omega) (fun h => by
            have := hbw.2 ⟨by have := h.2; omega, by unfold SizedW; have := h.1; omega⟩
            rw [this] at hb30; cases hb30), hs.tail⟩
        · refine .gT rfl rfl ?_
          refine .z (zfa fa_api_Ask_1) ?_
          refine .gT rfl rfl ?_
          refine .y hs (zld Tryz.isAgg25) ?_
          refine .gT rfl rfl ?_
          have hWs := hbw.1 (by simpa using hb30)
          refine .o (.call Tryz.call185 rfl (ref09_sized_spec hs hw hWs.2) ?_); rintro _ w ⟨rfl, hs⟩
          refine .gT rfl rfl ?_
          refine .z znot (.z zpF (.nil ?_))
          refine (.cond rfl (fun hc35 => ?_) (fun hc35 => ?_))
          · refine .regSeq (.z zg (.nil ?_))
            refine .ret (rT (Fin.ret1 Tryz.results142 rfl ?_))
            exact ⟨H, _, HLe.refl _, rfl, .weight hc11 (by omega) (fun h => by have := h.1; simp at hc35; omega), hs.tail⟩
          · refine .skip ?_
            refine nT ?_
            refine .seq (.regSeq (.z (zfa fa_api_Ask_2) (.y hs (zld Tryz.isAgg3) ?_)))
            have hAW : AWts a.ws a.sys.many := ⟨by simpa using hc35, by have := hWs.1; omega⟩
            refine .o (.call Tryz.call55 rfl (ref09_in_spec hs) ?_); rintro _ w ⟨rfl, hs⟩
            refine .z znot (.nil ?_)
            refine (.cond rfl (fun hc39 => ?_) (fun hc39 => ?_))
            · refine .regSeq (.z zg (.nil ?_))
              refine .ret (rT (Fin.ret1 Tryz.results142 rfl ?_))
              exact ⟨H, _, HLe.refl _, rfl, .width hc11 (by omega) hAW (fun h => by simp [h] at hc39), hs.tail⟩
            · refine .skip ?_
              refine nT ?_
              refine .regSeq (.z (zfa fa_api_Ask_0) (.y hs (zls [_, _] Tryz.isAgg24 Tryz.sizeOf24) (.z (zfa fa_api_Ask_1) (.y hs (zld Tryz.isAgg25) ?_))))
              refine .o (.call Tryz.call75 rfl (ref02_Range_spec (s := a.sys) hs ⟨_, rfl, hl⟩ hw) ?_); rintro _ w ⟨H1, lo, hi, e, hle1, rfl, hR, hs⟩
              refine .z zm (.z zex (.z zex (.z zex (.z zg (.z zg (.z zg (.nil (.regSeq (.z zm ?_)))))))))
              refine .z zg (.nil ?_)
              refine .ret (Fin.ret1 Tryz.results142 rfl ?_)
              exact ⟨H1, _, hle1, rfl, .range hc11 (by omega) hAW (by simpa using hc39) hR, hs.tail⟩
theorem ref09_unit_spec {H : Heap} {w : World} {σ : List Ent} {many u : Int} (hs : St H w σ) (hm : many ≤ 64) (hu : 0 ≤ u ∧ u ≤ many) : Cl Tryz.prog 76 [I many, I u] w fun v w' => ∃ H1, HLe H H1 ∧ RI H1 v (oneW many u) ∧ St H1 w' σ := by
  have e1 : many + 1 = ((many.toNat + 1 : Nat) : Int) := by omega
  refine Cl.of Tryz.func76 rfl Tryz.ntmps76 (by simp) (args_cons (k := 0) rfl (args_cons (k := 1) rfl (args0))) ?_
  refine .regSeq (.z zg (.nil (.regSeq (.z zm (.z zadd ?_)))))
  rw [e1]
  refine .o (.makeI (many.toNat + 1) hs rfl rfl Tryz.runUnderlying25 Tryz.typeInfo3 rfl Tryz.sizeOf3 Tryz.zeroValue3 (by omega) ?_); intro b8 w hs
  refine .z zg (.nil (.regSeq (.z zm (.z zm ?_))))
  refine .q hs (q_ixO (k := u.toNat) rfl rfl Tryz.runUnderlying25 Tryz.sizeOf3 (by omega) (by omega)) ?_
  refine .o (.store hs rfl rfl Tryz.sizeOf3 ?_ (by repeat constructor) (blt_Is (by simp; omega)) (Is_set _ _ _)); intro w hs
  refine .nil (.regSeq (.z zm (.z zg (.nil ?_))))
  refine .ret (Fin.ret1 Tryz.results76 rfl ?_)
  obtain ⟨H1, g1, g2, hs⟩ := hs.publish .here
  refine ⟨H1, g1, ?_, hs.out⟩
  have := Row.RI (xs := oneW many u) (spare := []) (by simpa [oneW] using g2) (many.toNat + 1) (by simp [oneW]) (by simp [oneW]; omega)
  simpa [oneW] using this
theorem ref09_isProbe_spec {H : Heap} {w : World} {σ : List Ent} {v : Value} {a : Quest} {p : Prb} (hs : St H w σ) (hr : RAsk H v a) (hm : a.sys.many ≤ 64) : Cl Tryz.prog 143 [v, .agg p.c.toArray] w fun v w' => ∃ H1 b, HLe H H1 ∧ v = .bool b ∧ (b = true ↔ PrbOk a p) ∧ St H1 w' σ := by
  obtain ⟨ul, uw, rfl, hl, hw⟩ := hr
  refine Cl.of Tryz.func143 rfl Tryz.ntmps143 (by simp) (args_cons (k := 0) rfl (args_cons (k := 1) rfl (args0))) ?_
  refine .regSeq ?_
  refine .o (.box hs rfl rfl ?_); intro b2 w hs
  refine .o (.box hs rfl rfl ?_); intro b3 w hs
  refine .z zg (.nil (.seq (.regSeq (.z (zfa fa_api_Probe_0) (.y hs (zld Tryz.isAgg3) (.z (zfa fa_api_Ask_0) (.z (zfa fa_api_System_0) (.y hs (zld Tryz.isAgg3) ?_))))))))
  refine .o (.call Tryz.call55 rfl (ref09_in_spec hs) ?_); rintro _ w ⟨rfl, hs⟩
  refine .z znot (.z zm ?_)
  refine .bif (t' := 15) rfl (fun hb15 => ?_) (fun hb15 => ?_)
  · refine .gFs 4 7 false rfl rfl rfl ?_
    refine .z zpT (.nil ?_)
    refine (.condT rfl rfl ?_)
    refine .regSeq (.z zg (.nil ?_))
    refine .ret (rT (Fin.ret1 Tryz.results143 rfl ?_))
    exact ⟨H, false, HLe.refl _, rfl, ⟨fun h => (by cases h), fun h => by simp [h.1] at hb15⟩, hs.out⟩
  · refine .gT rfl rfl ?_
    refine .z (zfa fa_api_Probe_1) ?_
    refine .gT rfl rfl ?_
    refine .y hs (zld Tryz.isAgg3) ?_
    refine .gT rfl rfl ?_
    refine .o (.call Tryz.call55 rfl (ref09_in_spec hs) ?_); rintro _ w ⟨rfl, hs⟩
    refine .gT rfl rfl ?_
    refine .z znot (.z zpF (.nil ?_))
    refine (.cond rfl (fun hc20 => ?_) (fun hc20 => ?_))
    · refine .regSeq (.z zg (.nil ?_))
      refine .ret (rT (Fin.ret1 Tryz.results143 rfl ?_))
      exact ⟨H, false, HLe.refl _, rfl, ⟨fun h => (by cases h), fun h => by simp [h.2.1] at hc20⟩, hs.out⟩
    · refine .skip ?_
      refine nT ?_
      refine .seq (.draw mix rfl hs ?_); intro w hs
      refine .z 0 rfl (zfa fa_api_Ask_0) ?_; refine .ys 1 rfl hs [_, _] Tryz.isAgg24 Tryz.sizeOf24 ?_; refine .z 2 rfl (zfa fa_api_Ask_0) ?_; refine .z 3 rfl (zfa fa_api_System_0) ?_; refine .y 4 rfl hs Tryz.isAgg3 ?_; refine .z 5 rfl (zfa fa_api_Probe_0) ?_; refine .y 6 rfl hs Tryz.isAgg3 ?_
      refine .e1 (i := 7) (by kernel_rfl) rfl rfl .none hs ?_
      simp only [Bool.not_eq_false', decide_eq_true_eq] at hb15 hc20
      refine .call Tryz.call76 rfl (ref09_unit_spec hs hm (by omega)) ?_; rintro v29 w ⟨H1, hle1, hr29, hs⟩
      refine .go ?_
      refine .e1 (i := 8) (by kernel_rfl) rfl rfl .none hs ?_
      refine .call Tryz.call75 rfl (ref02_Range_spec (s := a.sys) hs ⟨_, rfl, hl.mono hle1⟩ hr29) ?_; rintro _ w ⟨H2, lo, hi, e, hle2, rfl, hR, hs⟩
      refine .go ?_
      refine .z 9 rfl zm ?_; refine .z 10 rfl zex ?_; refine .z 11 rfl zex ?_; refine .z 12 rfl zex ?_; refine .z 13 rfl zg ?_; refine .z 14 rfl zg ?_; refine .z 15 rfl zg ?_; refine .done (by kernel_rfl) hs ?_
      refine .regSeq (.z zm (.z zeql (.z zm ?_)))
      refine .bifD (t' := 36) rfl (fun hb36 => ?_) (fun hb36 => ?_)
      · refine .gT rfl rfl ?_
        refine .z zm ?_
        refine .gT rfl rfl ?_
        refine .z zgeq (.z zpT (.z zm ?_))
        refine .bifD (t' := 40) rfl (fun hb40 => ?_) (fun hb40 => ?_)
        · refine .gT rfl rfl ?_
          refine .z zm ?_
          refine .gT rfl rfl ?_
          refine .z zleq (.z zpT (.z zg (.nil ?_)))
          refine .ret (Fin.ret1 Tryz.results143 rfl ?_)
          exact ⟨H2, _, hle1.trans hle2, rfl, by
            first
              | exact ⟨fun h => (by cases h), fun ⟨_, _, lo', hi', h1, h2, h3⟩ => by
                  obtain ⟨rfl, rfl, rfl⟩ := hR.uniq h1
                  first | exact (hb36 rfl).elim | exact (hb40 h2).elim⟩
              | (simp only [decide_eq_true_eq]
                 subst hb36
                 exact ⟨fun h => ⟨hb15, hc20, lo, hi, hR, by omega, h⟩, fun ⟨_, _, lo', hi', h1, h2, h3⟩ => by
                  obtain ⟨rfl, rfl, -⟩ := hR.uniq h1
                  exact h3⟩), hs.out⟩
        · refine .gFs 2 6 true rfl rfl rfl ?_
          refine .z zpF (.z zg (.nil ?_))
          refine .ret (Fin.ret1 Tryz.results143 rfl ?_)
          exact ⟨H2, _, hle1.trans hle2, rfl, by
            first
              | exact ⟨fun h => (by cases h), fun ⟨_, _, lo', hi', h1, h2, h3⟩ => by
                  obtain ⟨rfl, rfl, rfl⟩ := hR.uniq h1
                  first | exact (hb36 rfl).elim | exact (hb40 h2).elim⟩
              | (simp only [decide_eq_true_eq]
                 subst hb36
                 exact ⟨fun h => ⟨hb15, hc20, lo, hi, hR, by omega, h⟩, fun ⟨_, _, lo', hi', h1, h2, h3⟩ => by
                  obtain ⟨rfl, rfl, -⟩ := hR.uniq h1
                  exact h3⟩), hs.out⟩
      · refine .gFs 2 2 true rfl rfl rfl ?_
        refine .z zpF (.z zm ?_)
        refine .gFs 2 6 true rfl rfl rfl ?_
        refine .z zpF (.z zg (.nil ?_))
        refine .ret (Fin.ret1 Tryz.results143 rfl ?_)
        exact ⟨H2, _, hle1.trans hle2, rfl, by
          first
            | exact ⟨fun h => (by cases h), fun ⟨_, _, lo', hi', h1, h2, h3⟩ => by
                obtain ⟨rfl, rfl, rfl⟩ := hR.uniq h1
                first | exact (hb36 rfl).elim | exact (hb40 h2).elim⟩
            | (simp only [decide_eq_true_eq]
               subst hb36
               exact ⟨fun h => ⟨hb15, hc20, lo, hi, hR, by omega, h⟩, fun ⟨_, _, lo', hi', h1, h2, h3⟩ => by
                obtain ⟨rfl, rfl, -⟩ := hR.uniq h1
                exact h3⟩), hs.out⟩
theorem ref09_CheckProbes_spec {H : Heap} {w : World} {σ : List Ent} {v vl : Value} {a : Quest} {l : List Prb} (hs : St H w σ) (hr : RAsk H v a) (hp : RPs H vl l) : Cl Tryz.prog 60 [v, vl] w fun v w' => ∃ H1 e, HLe H H1 ∧ v = I e ∧ CPrbR a l e ∧ St H1 w' σ := by
  obtain ⟨ul, uw, rfl, hl, hw⟩ := hr
  obtain ⟨ap, cp, rfl⟩ := RPs.shape hp
  refine Cl.of Tryz.func60 rfl Tryz.ntmps60 (by simp) (args_cons (k := 0) rfl (args_cons (k := 1) rfl (args0))) ?_
  refine .regSeq ?_
  refine .o (.box hs rfl rfl ?_); intro b2 w hs
  refine .z zg (.nil (.regSeq (.y hs (zls [_, _, _, _] Tryz.isAgg27 Tryz.sizeOf27) ?_)))
  refine .o (.call Tryz.call142 rfl (ref09_CheckAsk_spec (a := a) hs ⟨_, _, rfl, hl, hw⟩) ?_); rintro _ w ⟨H1, e, hle1, rfl, hA, hs⟩
  refine .z zg (.nil (.seq (.regSeq (.z zm (.z zneq (.nil ?_))))))
  refine (.condN rfl (fun hc10 => ?_) (fun hc10 => ?_))
  · refine .regSeq (.z zm (.z zg (.nil ?_)))
    refine .ret (rT (Fin.ret1 Tryz.results60 rfl ?_))
    exact ⟨H1, _, hle1, rfl, .ask hA hc10, hs.tail⟩
  · refine .skip ?_
    refine nT ?_
    refine .seq (.regSeq (.z zm (.z (zlen Tryz.runUnderlying28) (.z zgtr (.nil ?_)))))
    refine (.condD rfl (fun hc14 => ?_) (fun hc14 => ?_))
    · refine .regSeq (.z zg (.nil ?_))
      refine .ret (rT (Fin.ret1 Tryz.results60 rfl ?_))
      exact ⟨H1, _, hle1, rfl, .long (CAskR.zero.1 (by rw [hc10] at hA; exact hA)) (by omega), hs.tail⟩
    · refine .skip ?_
      refine nT ?_
      refine .seq (.regSeq (.z zg (.nil (.block ?_))))
      have hok := CAskR.zero.1 (by rw [hc10] at hA; exact hA)
      have hm1 := hok.ok.m1
      refine .loop (fun k : Nat => ⟨28, [], [(6, I (k : Int)), (1, .slice ap l.length cp), (2, .pointer (some ⟨b2, 0, none⟩))]⟩) (fun k w => (k ≤ l.length ∧ ∀ j < k, ∀ p, l[j]? = some p → PrbOk a p) ∧ ∃ H2, HLe H1 H2 ∧ St H2 w (.blk b2 [I a.sys.many, ul, uw, I a.width] :: σ)) (fun k => l.length - k) 0 (by repeat (first | exact .nil rfl rfl | refine .cons rfl ?_)) ⟨⟨by omega, fun j hj => by omega⟩, H1, HLe.refl _, hs⟩ ?_
      rintro k w ⟨⟨hk, hno⟩, H2, hle2, hs⟩
      have hle12 := hle1.trans hle2
      refine .seq (.regSeq (.z zm (.z zm (.z (zlen Tryz.runUnderlying28) (.z zlss (.nil ?_))))))
      refine (.condD rfl (fun hc18 => ?_) (fun hc18 => ?_))
      · refine .skip ?_
        refine nT ?_
        refine .seq (.block ?_)
        refine .seq (.draw mix rfl hs ?_); intro w hs
        refine .ys 0 rfl hs [_, _, _, _] Tryz.isAgg27 Tryz.sizeOf27 ?_; refine .z 1 rfl zm ?_; refine .z 2 rfl zm ?_
        obtain ⟨x, hx⟩ := nth (l := l) (k := k) (by omega)
        refine .ixX (enc := Prb.c) (i := 3) hs rfl (by kernel_rfl) .none (hp.mono hle12) rfl rfl Tryz.runUnderlying28 Tryz.sizeOf54 hx rfl ?_; intro b24 o24 hc24
        refine .r (i := 4) hs rfl (by kernel_rfl) .none (q_loadsR (vs := x.c) rfl Tryz.isAgg54 Tryz.sizeOf54 hc24) ?_
        refine .e1 (i := 5) (by kernel_rfl) rfl rfl .none hs ?_
        refine .call Tryz.call143 rfl (ref09_isProbe_spec (a := a) hs ⟨_, _, rfl, hl.mono hle12, hw.mono hle12⟩ hm1) ?_; rintro _ w ⟨H3, b26, hle3, rfl, hb26, hs⟩
        refine .go ?_
        refine .z 6 rfl znot ?_; refine .done (by kernel_rfl) hs ?_
        refine (.cond rfl (fun hc27 => ?_) (fun hc27 => ?_))
        · refine .regSeq (.z zg (.nil ?_))
          refine .ret (rB (rT (rT (rB (rT (Fin.ret1 Tryz.results60 rfl ?_))))))
          exact ⟨H3, _, hle12.trans hle3, rfl, .bad hok (by omega) (fun h => by
            have := hb26.2 (h x (List.mem_of_getElem? hx))
            rw [this] at hc27; cases hc27), hs.out⟩
        · refine .skip ?_
          refine nB (nT ?_)
          refine .region (.z zm (.z zadd (.z zg (.nil ?_))))
          refine nT ?_
          exact ⟨k + 1, .consI rfl (by push_cast; omega) (by repeat (first | exact .nil rfl rfl | refine .cons rfl ?_)), ⟨⟨by omega, upto_succ hno hx (hb26.1 (by simpa using hc27))⟩, H3, hle2.trans hle3, hs⟩, by omega⟩
      · refine .exit ?_
        refine xT (xT (xB (nT ?_)))
        refine .regSeq (.z zg (.nil ?_))
        refine .ret (Fin.ret1 Tryz.results60 rfl ?_)
        exact ⟨H2, _, hle12, rfl, .ok hok (by omega) (fun p hp => by
          obtain ⟨j, hj⟩ := List.getElem?_of_mem hp
          exact hno j (by have := (List.getElem?_eq_some_iff.1 hj).1; omega) p hj), hs.out⟩
end Go.Proofs.YtiiokdeehlfeeaaGreat

namespace Go.Proofs.YtiiokdeehlfeeaaGreat
open Go.MW
theorem ref09_moved_spec {H : Heap} {w : World} {σ : List Ent} {u n : Int} (hs : St H w σ) (hn : 0 ≤ n ∧ n ≤ 64) (hx : 0 ≤ u ∧ u ≤ 64) : Cl Tryz.prog 186 [I u, I n] w fun v w' => v = I (movedI n u) ∧ St H w' σ := by
  refine Cl.of Tryz.func186 rfl Tryz.ntmps186 (by simp) (args_cons (k := 0) rfl (args_cons (k := 1) rfl (args0))) ?_
  refine .regSeq (.z zg (.nil (.seq (.regSeq (.z zm (.z zeql (.nil ?_)))))))
  refine (.condD rfl (fun hc6 => ?_) (fun hc6 => ?_))
  · refine .regSeq (.z zg (.nil ?_))
    refine .ret (rT (Fin.ret1 Tryz.results186 rfl ?_))
    exact ⟨by unfold movedI; rw [if_pos hc6], hs⟩
  · refine .skip ?_
    refine nT ?_
    refine .regSeq (.z zm (.z zm (.z zadd (.z zg (.nil ?_)))))
    refine .ret (Fin.ret1 Tryz.results186 rfl ?_)
    exact ⟨by unfold movedI; rw [if_neg hc6], hs⟩
set_option maxHeartbeats 4000000 in
theorem ref09_pairs_spec {H : Heap} {w : World} {σ : List Ent} {v vl : Value} {a : Quest} {l : List Prb} (hs : St H w σ) (hr : RAsk H v a) (hp : RPs H vl l) (hok : AskOk a) (hlen : l.length ≤ 8) (hin : ∀ p ∈ l, PrbIn a p) :
    Cl Tryz.prog 144 [v, vl] w fun u w' => ∃ H1 vp vw, HLe H H1 ∧ u = .tuple #[.agg #[I (2 * a.sys.many), vp], vw] ∧ RL H1 vp (dblS a l).lims ∧ RI H1 vw (dblW a.ws) ∧ St H1 w' σ := by
  obtain ⟨ul, uw, rfl, hl, hw⟩ := hr
  obtain ⟨al, cpl, rfl⟩ := RL.shape hl
  obtain ⟨aw, cw, rfl⟩ := RI.shape hw
  obtain ⟨ap, cpp, rfl⟩ := RPs.shape hp
  have hm0 := hok.ok.m0
  have hm1 := hok.many
  have hll := hok.lims
  obtain ⟨n, hn⟩ := Int.eq_ofNat_of_zero_le hm0
  have hwl : a.ws.length = n + 1 := by rw [hok.wl]; simp [Syst.n, hn]
  refine Cl.of Tryz.func144 rfl Tryz.ntmps144 (by simp) (args_cons (k := 0) rfl (args_cons (k := 1) rfl (args0))) ?_
  refine .regSeq ?_
  refine .o (.box hs rfl rfl ?_); intro b2 w hs
  refine .o (.alloc hs Tryz.zeroValue24 rfl ?_); intro b4 w hs
  refine .z zg (.nil (.regSeq (.z (zfa fa_api_Ask_0) (.z (zfa fa_api_System_0) (.y hs (zld Tryz.isAgg3) (.z zg (.nil (.regSeq (.z zm ?_)))))))))
  refine .z zmul ?_
  refine .o (.buildSlice (cells := []) hs bls_sl_api_Limit_0 rfl rfl ?_); intro b20 w hs
  refine .z (zfa fa_api_Ask_0) (.z (zfa fa_api_System_1) (.y hs (zld Tryz.isAgg22) ?_))
  refine .o (.append (xs := []) hs app_sl_api_Limit_api_Limit rfl rfl (.full (len := 0) rfl) (.rs hl) (Lims_cell a.sys.lims) (fun l' h => by simp at h; obtain rfl : l' = 0 := (by omega); rw [List.length_map]; omega) ?_); intro v24 en24 w hO hs
  rw [List.nil_append] at hO
  change OwnS 4 v24 (Lims a.sys.lims) en24 at hO
  obtain ⟨a24, l24, c24, rfl, h24⟩ := hO.shape
  refine .z (zbd [_, _] bld_api_System) ?_
  refine .o (.alloc hs Tryz.zeroValue24 rfl ?_); intro b7 w hs
  refine .o (.stores (vs := [_, _]) hs rfl rfl Tryz.sizeOf24 ?_); intro w hs
  refine .nil (.seq (.regSeq (.z zg (.nil (.block ?_)))))
  refine .loop (fun k : Nat => ⟨115, [], [(8, I (k : Int)), (6, I a.sys.many), (7, .pointer (some ⟨b7, 0, none⟩)), (2, .pointer (some ⟨b2, 0, none⟩)), (4, .pointer (some ⟨b4, 0, none⟩)), (1, .slice ap l.length cpp)]⟩)
    (fun k w => k ≤ a.sys.lims.length ∧ ∃ vp en, OwnS 4 vp (Lims (a.sys.lims ++ (a.sys.lims.take k).map (Lim.mv a.sys.many))) en ∧ St H w (.blk b7 [I (2 * a.sys.many), vp] :: .blk b4 [I 0, .slice none 0 0] :: .blk b2 [I a.sys.many, .slice al a.sys.lims.length cpl, .slice aw a.ws.length cw, I a.width] :: en :: σ))
    (fun k => a.sys.lims.length - k) 0 (by repeat (first | exact .nil rfl rfl | refine .cons rfl ?_))
    ⟨by omega, _, _, by simpa using hO, hs.sub (by repeat (first | exact Sub.refl _ | constructor | apply Sub.weaken))⟩ ?_
  clear hO hs h24
  rintro k w ⟨hk, vp, en, hO, hs⟩
  obtain ⟨avp, lvp, cvp, rfl, hlvp⟩ := hO.shape
  refine .seq (.regSeq (.z zm (.z (zfa fa_api_Ask_0) (.z (zfa fa_api_System_1) (.y hs (zld Tryz.isAgg22) (.z (zlen Tryz.runUnderlying22) (.z zlss (.nil ?_))))))))
  refine (.condD rfl (fun hc31 => ?_) (fun hc31 => ?_))
  · refine .skip ?_
    refine nT ?_
    refine .seq (.block (.regSeq ?_))
    obtain ⟨x, hx⟩ := nth (l := a.sys.lims) (k := k) (by omega)
    have hxl := hok.ok.lim x (List.mem_of_getElem? hx)
    refine .z (zfa fa_api_Ask_0) (.z (zfa fa_api_System_1) (.y hs (zld Tryz.isAgg22) (.z zm ?_)))
    refine .ixX (enc := Lim.c) hs hl rfl rfl Tryz.runUnderlying22 Tryz.sizeOf157 hx rfl ?_; intro b38 o38 hc38
    refine .q hs (q_loadsR (vs := x.c) rfl Tryz.isAgg157 Tryz.sizeOf157 hc38) ?_
    refine .o (.alloc hs Tryz.zeroValue157 rfl ?_); intro b9 w hs
    refine .o (.stores (vs := x.c) hs rfl rfl Tryz.sizeOf157 ?_); intro w hs
    refine .nil (.regSeq (.z (zfa fa_api_Limit_0) (.y hs (zld Tryz.isAgg3) (.z zm ?_))))
    refine .o (.call Tryz.call186 rfl (ref09_moved_spec hs (by omega) (by omega)) ?_); rintro _ w ⟨rfl, hs⟩
    refine .z (zfa fa_api_Limit_0) ?_
    refine .o (.store hs rfl rfl Tryz.sizeOf3 ?_); intro w hs
    refine .nil (.regSeq (.z (zfa fa_api_Limit_1) (.y hs (zld Tryz.isAgg3) (.z zm ?_))))
    refine .o (.call Tryz.call186 rfl (ref09_moved_spec hs (by omega) (by omega)) ?_); rintro _ w ⟨rfl, hs⟩
    refine .z (zfa fa_api_Limit_1) ?_
    refine .o (.store hs rfl rfl Tryz.sizeOf3 ?_); intro w hs
    refine .nil (.region (.z (zfa fa_api_System_1) (.y hs (zld Tryz.isAgg22) ?_)))
    refine .q hs (q_loads (vs := (x.mv a.sys.many).c) rfl Tryz.isAgg157 Tryz.sizeOf157) ?_
    refine .o (.buildSlice (cells := (x.mv a.sys.many).c) hs bls_sl_api_Limit_1 rfl rfl ?_); intro b53 w hs
    refine .o (.append (ys := (x.mv a.sys.many).c) hs app_sl_api_Limit_api_Limit rfl rfl hO (.own .here rfl rfl) (by simp [Lim.c, Value.oneCell']) (fun l h => by rw [Lims_length] at h; simp at h; omega) ?_); intro v54 en54 w hO2 hs
    obtain ⟨a54, l54, c54, rfl, h54⟩ := hO2.shape
    refine .z (zfa fa_api_System_1) ?_
    refine .o (.store hs rfl rfl Tryz.sizeOf22 ?_); intro w hs
    refine .nil ?_
    refine nB (nT ?_)
    refine .region (.z zm (.z zadd (.z zg (.nil ?_))))
    refine nT ?_
    rw [← Lims_one, ← Lims_append, List.append_assoc, show (a.sys.lims.take k).map (Lim.mv a.sys.many) ++ [x.mv a.sys.many] = (a.sys.lims.take (k + 1)).map (Lim.mv a.sys.many) by rw [take_snoc hx]; simp] at hO2
    exact ⟨k + 1, .consI rfl (by push_cast; omega) (by repeat (first | exact .nil rfl rfl | refine .cons rfl ?_)), ⟨by omega, _, _, hO2, hs.sub (by repeat (first | exact Sub.refl _ | constructor | apply Sub.weaken))⟩, by omega⟩
  · refine .exit ?_
    refine xT (xT (xB (nT ?_)))
    refine .seq (.regSeq (.z zg (.nil (.block ?_))))
    obtain rfl : k = a.sys.lims.length := by omega
    rw [List.take_length] at hO
    refine .loop (fun k : Nat => ⟨115, [], [(10, I (k : Int)), (6, I a.sys.many), (7, .pointer (some ⟨b7, 0, none⟩)), (2, .pointer (some ⟨b2, 0, none⟩)), (4, .pointer (some ⟨b4, 0, none⟩)), (1, .slice ap l.length cpp)]⟩)
      (fun k w => k ≤ l.length ∧ ∃ vp en, OwnS 4 vp (Lims (a.sys.lims ++ a.sys.lims.map (Lim.mv a.sys.many) ++ prbAll a.sys.many 0 (l.take k))) en ∧ St H w (.blk b7 [I (2 * a.sys.many), vp] :: .blk b4 [I 0, .slice none 0 0] :: .blk b2 [I a.sys.many, .slice al a.sys.lims.length cpl, .slice aw a.ws.length cw, I a.width] :: en :: σ))
      (fun k => l.length - k) 0 (by repeat (first | exact .nil rfl rfl | refine .cons rfl ?_))
      ⟨by omega, _, _, by simpa [prbAll] using hO, hs⟩ ?_
    clear hO hs hlvp
    rintro k w ⟨hk, vp, en, hO, hs⟩
    obtain ⟨avp, lvp, cvp, rfl, hlvp⟩ := hO.shape
    refine .seq (.regSeq (.z zm (.z zm (.z (zlen Tryz.runUnderlying28) (.z zlss (.nil ?_))))))
    refine (.condD rfl (fun hc59 => ?_) (fun hc59 => ?_))
    · refine .skip ?_
      refine nT ?_
      refine .seq (.block (.regSeq ?_))
      obtain ⟨x, hx⟩ := nth (l := l) (k := k) (by omega)
      obtain ⟨⟨x1, x2⟩, x3, x4⟩ := hin x (List.mem_of_getElem? hx)
      have hmv : movedI a.sys.many x.u = a.sys.many + x.u := by unfold movedI; rw [if_neg (by omega)]; omega
      refine .z zm (.z zm ?_)
      refine .ixX (enc := Prb.c) hs hp rfl rfl Tryz.runUnderlying28 Tryz.sizeOf54 hx rfl ?_; intro b64 o64 hc64
      refine .z (zfa fa_api_Probe_0) ?_
      refine .q hs (q_loadR rfl Tryz.isAgg3 (hc64.get 0 rfl)) ?_
      refine .z zg (.nil (.regSeq (.z zm (.z zm ?_))))
      refine .ixX (enc := Prb.c) hs hp rfl rfl Tryz.runUnderlying28 Tryz.sizeOf54 hx rfl ?_; intro b69 o69 hc69
      refine .z (zfa fa_api_Probe_1) ?_
      refine .q hs (q_loadR rfl Tryz.isAgg3 (hc69.get 1 rfl)) ?_
      refine .z zmul (.z zg (.nil (.region (.z (zfa fa_api_System_1) (.y hs (zld Tryz.isAgg22) (.z zm (.z zm (.z zm (.z zadd ?_)))))))))
      rw [← hmv]
      refine .z zm (.z zm (.z zadd (.z (zbd [_, _, _, _] bld_api_Limit) (.z zm (.z zm (.z zadd ?_))))))
      try rw [← hmv]
      refine .z zm (.z zm (.z zm (.z zadd (.z (zbd [_, _, _, _] bld_api_Limit) ?_))))
      refine .o (.buildSlice (cells := Lims (prbLims a.sys.many k x)) hs bls_sl_api_Limit_2 rfl (by kernel_rfl) ?_); intro b91 w hs
      refine .o (.append (ys := Lims (prbLims a.sys.many k x)) hs app_sl_api_Limit_api_Limit rfl rfl hO (.own .here rfl rfl) (Lims_cell _) (fun l h => by rw [Lims_length] at h; simp [prbAll_length] at h; omega) ?_); intro v92 en92 w hO2 hs
      obtain ⟨a92, l92, c92, rfl, h92⟩ := hO2.shape
      refine .z (zfa fa_api_System_1) ?_
      refine .o (.store hs rfl rfl Tryz.sizeOf22 ?_); intro w hs
      refine .nil ?_
      refine nB (nT ?_)
      refine .region (.z zm (.z zadd (.z zg (.nil ?_))))
      refine nT ?_
      rw [← Lims_append, List.append_assoc, show prbAll a.sys.many 0 (l.take k) ++ prbLims a.sys.many k x = prbAll a.sys.many 0 (l.take (k + 1)) by rw [take_snoc hx, prbAll_snoc, Nat.zero_add, List.length_take]; congr 2; omega] at hO2
      exact ⟨k + 1, .consI rfl (by push_cast; omega) (by repeat (first | exact .nil rfl rfl | refine .cons rfl ?_)), ⟨by omega, _, _, hO2, hs.sub (by repeat (first | exact Sub.refl _ | constructor | apply Sub.weaken))⟩, by omega⟩
    · refine .exit ?_
      refine xT (xT (xB (nT ?_)))
      refine .regSeq ?_
      refine .o (.buildSlice (cells := [_]) hs bls_sl_int_1 rfl rfl ?_); intro b94 w hs
      refine .z zg (.nil (.seq (.regSeq (.z zg (.nil (.block ?_))))))
      obtain rfl : k = l.length := by omega
      rw [List.take_length] at hO
      refine .loop (fun p : Nat × Value => ⟨115, [], [(14, I ((p.1 : Int) + 1)), (13, p.2), (6, I a.sys.many), (7, .pointer (some ⟨b7, 0, none⟩)), (2, .pointer (some ⟨b2, 0, none⟩)), (4, .pointer (some ⟨b4, 0, none⟩))]⟩)
        (fun p w => p.1 ≤ n ∧ ∃ enw, OwnS 1 p.2 (Is (0 :: negW (a.ws.tail.take p.1))) enw ∧ St H w (enw :: .blk b7 [I (2 * a.sys.many), .slice avp lvp cvp] :: .blk b4 [I 0, .slice none 0 0] :: .blk b2 [I a.sys.many, .slice al a.sys.lims.length cpl, .slice aw a.ws.length cw, I a.width] :: en :: σ))
        (fun p => n - p.1) (0, .slice (some ⟨b94, 0, none⟩) 1 1) (by repeat (first | exact .nil rfl rfl | refine .cons rfl ?_))
        ⟨by omega, _, .full rfl, hs⟩ ?_
      clear hs
      rintro ⟨k, v13⟩ w ⟨hk, enw, hOw, hs⟩
      dsimp only at hk hOw ⊢
      have htl : a.ws.tail.length = n := by rw [List.length_tail]; omega
      refine .seq (.regSeq (.z zm (.z zm (.z zleq (.nil ?_)))))
      refine (.condD rfl (fun hc97 => ?_) (fun hc97 => ?_))
      · refine .skip ?_
        refine nT ?_
        refine .seq (.block (.region ?_))
        have hk' : k < n := by omega
        have hx := gi_get (l := a.ws) (i := k + 1) (by omega)
        have hxt : a.ws.tail[k]? = some (gi a.ws (k + 1)) := by rw [List.getElem?_tail]; exact hx
        have hsz := sizes_at a.ws (v := k + 1) (n := a.sys.n) (by rw [← hok.wl]; omega)
        have hsz2 := hok.ws
        refine .z zm (.z (zfa fa_api_Ask_1) (.y hs (zld Tryz.isAgg25) (.z zm ?_)))
        refine .ixY hs hw rfl rfl Tryz.runUnderlying25 Tryz.sizeOf3 hx (by push_cast; omega) ?_; intro b104 o104 hc104
        refine .q hs (q_loadR rfl Tryz.isAgg3 hc104) ?_
        refine .z zneg ?_
        refine .o (.buildSlice (cells := [_]) hs bls_sl_int_1 rfl rfl ?_); intro b107 w hs
        refine .o (.append (ys := [I (-gi a.ws (k + 1))]) hs app_sl_int_int rfl rfl hOw (.own .here rfl rfl) (by simp [Value.oneCell']) (fun l' h => by simp [negW] at h; omega) ?_); intro v108 en108 w hO2 hs
        refine .z zg (.nil ?_)
        refine nB (nT ?_)
        refine .region (.z zm (.z zadd (.z zg (.nil ?_))))
        refine nT ?_
        exact ⟨(k + 1, v108), .consI rfl (by push_cast; omega) (by repeat (first | exact .nil rfl rfl | refine .cons rfl ?_)), ⟨by dsimp only; omega, en108, by rw [take_snoc hxt]; simpa [negW] using hO2, hs.sub (by repeat (first | exact Sub.refl _ | constructor | apply Sub.weaken))⟩, by dsimp only; omega⟩
      · refine .exit ?_
        refine xT (xT (xB (nT ?_)))
        refine .seq (.draw mix rfl hs ?_); intro w hs
        refine .ys 0 rfl hs [_, _] Tryz.isAgg24 Tryz.sizeOf24 ?_; refine .z 1 rfl zm ?_; refine .z 2 rfl (zfa fa_api_Ask_1) ?_; refine .y 3 rfl hs Tryz.isAgg25 ?_
        obtain rfl : k = n := by omega
        refine .p (i := 4) rfl (by kernel_rfl) .none (q_sliceLX (k := 1) rfl rfl Tryz.runUnderlying25 Tryz.sizeOf3 rfl (by omega)) ?_
        refine .e1 (i := 5) (by kernel_rfl) rfl rfl .none hs ?_
        refine .append hs app_sl_int_int rfl rfl hOw (.ints (RI.tail hw (k := 1) (by omega))) (Is_cell _) (fun l' h => by simp [negW] at h; rw [List.length_drop]; omega) ?_; intro v114 en114 w hO2 hs
        refine .go ?_
        refine .e1 (i := 6) (by kernel_rfl) rfl rfl .none hs ?_
        refine .stores (vs := [_, _]) hs rfl rfl Tryz.sizeOf24 ?_; intro w hs
        refine .go ?_
        refine .z 7 rfl zg ?_; refine .done (by kernel_rfl) hs ?_
        refine .ret ?_
        rw [List.take_of_length_le (by omega), show Is (0 :: negW a.ws.tail) ++ Is (a.ws.drop 1) = Is (dblW a.ws) by unfold dblW; rw [List.drop_one]; simp [Is]] at hO2
        obtain ⟨H2, g1, g2, hs⟩ := OwnS.publish (cs := (dblS a l).lims.map Lim.c) hO (fun c hc => by simp only [List.mem_map] at hc; obtain ⟨x, _, rfl⟩ := hc; rfl) (by omega) (by have := (dblS_ok hok hlen hin).len; rw [List.length_map]; omega) hs (by repeat constructor)
        obtain ⟨H3, g3, g4, hs⟩ := hO2.publishI (by rw [dblW_length]; omega) hs (by repeat constructor)
        exact Fin.retD [] [] hs fun w hs => ⟨_, results2 Tryz.results144 (rcells (vs := [_, _]) hs rfl Tryz.isAgg24 Tryz.sizeOf24) rfl, H3, _, _, g1.trans g3, rfl, RS.mono g2 g3, g4, hs.out⟩
end Go.Proofs.YtiiokdeehlfeeaaGreat

namespace Go.Proofs.YtiiokdeehlfeeaaGreat
open Go.MW
def PairsR (a : Quest) (l : List Prb) (S : Syst) (W : List Int) (e : Int) : Prop := (CPrbR a l e ∧ e ≠ 0 ∧ S = ⟨0, []⟩ ∧ W = []) ∨ (CPrbR a l 0 ∧ e = 0 ∧ S = dblS a l ∧ W = dblW a.ws)
theorem PairsR.uniq {a : Quest} {l : List Prb} {S T : Syst} {W V : List Int} {e f : Int} (h : PairsR a l S W e) (g : PairsR a l T V f) : S = T ∧ W = V ∧ e = f := by
  rcases h with ⟨h1, h2, h3, h4⟩ | ⟨h1, h2, h3, h4⟩ <;> rcases g with ⟨g1, g2, g3, g4⟩ | ⟨g1, g2, g3, g4⟩
  · exact ⟨by rw [h3, g3], by rw [h4, g4], h1.uniq g1⟩
  · exact (h2 (h1.uniq g1)).elim
  · exact (g2 (g1.uniq h1)).elim
  · exact ⟨by rw [h3, g3], by rw [h4, g4], by rw [h2, g2]⟩
def WorstR (a : Quest) (l : List Prb) (n e : Int) : Prop := (CPrbR a l e ∧ e ≠ 0 ∧ n = 0) ∨ (CPrbR a l 0 ∧ e = 0 ∧ PairS a l n)
theorem WorstR.uniq {a : Quest} {l : List Prb} {n m e f : Int} (h : WorstR a l n e) (g : WorstR a l m f) : n = m ∧ e = f := by
  rcases h with ⟨h1, h2, h3⟩ | ⟨h1, h2, h3⟩ <;> rcases g with ⟨g1, g2, g3⟩ | ⟨g1, g2, g3⟩
  · exact ⟨by rw [h3, g3], h1.uniq g1⟩
  · exact (h2 (h1.uniq g1)).elim
  · exact (g2 (g1.uniq h1)).elim
  · exact ⟨h3.uniq g3, by rw [h2, g2]⟩
theorem ref09_worst_spec {H : Heap} {w : World} {σ : List Ent} {v vl : Value} {a : Quest} {l : List Prb} (hs : St H w σ) (hr : RAsk H v a) (hp : RPs H vl l) (hok : AskOk a) (hlen : l.length ≤ 8) (hin : ∀ p ∈ l, PrbIn a p) :
    Cl Tryz.prog 61 [v, vl] w fun u w' => ∃ H1 n, HLe H H1 ∧ u = I n ∧ PairS a l n ∧ St H1 w' σ := by
  obtain ⟨ul, uw, rfl, hl, hw⟩ := hr
  refine Cl.of Tryz.func61 rfl Tryz.ntmps61 (by simp) (args_cons (k := 0) rfl (args_cons (k := 1) rfl (args0))) ?_
  refine .regSeq ?_
  refine .o (.box hs rfl rfl ?_); intro b2 w hs
  refine .z zg (.nil (.regSeq (.y hs (zls [_, _, _, _] Tryz.isAgg27 Tryz.sizeOf27) (.z zm ?_))))
  refine .o (.call Tryz.call144 rfl (ref09_pairs_spec (a := a) hs ⟨_, _, rfl, hl, hw⟩ hp hok hlen hin) ?_); rintro _ w ⟨H1, vp, vw, hle1, rfl, hvp, hvw, hs⟩
  obtain ⟨ap1, cp1, rfl⟩ := RL.shape hvp; obtain ⟨av1, cv1, rfl⟩ := RI.shape hvw
  refine .z zm (.z zex (.z zex ?_))
  refine .o (.alloc hs Tryz.zeroValue24 rfl ?_); intro b5 w hs
  refine .o (.stores (vs := [_, _]) hs rfl rfl Tryz.sizeOf24 ?_); intro w hs
  refine .z zg (.nil (.regSeq (.y hs (zls [_, _] Tryz.isAgg24 Tryz.sizeOf24) (.z zm ?_))))
  refine .o (.call Tryz.call145 rfl (ref02_Most_spec (s := dblS a l) hs ⟨_, rfl, hvp⟩ hvw) ?_); rintro _ w ⟨H2, n, e, hle2, rfl, hM, hs⟩
  obtain ⟨rfl, hPS⟩ := dbl_most hok hlen hin hM
  refine .z zm (.z zex (.z zex (.z zg (.z zg (.nil (.regSeq (.z zm (.z zg (.nil ?_)))))))))
  refine .ret (Fin.ret1 Tryz.results61 rfl ?_)
  exact ⟨H2, n, hle1.trans hle2, rfl, hPS, hs.out⟩
end Go.Proofs.YtiiokdeehlfeeaaGreat
