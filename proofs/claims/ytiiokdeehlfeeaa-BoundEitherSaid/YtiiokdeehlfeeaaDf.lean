/-
  Texts of these claims, joined: Yf Yg Yj Yk Yl.
-/
import Derived.Test.YtiiokdeehlfeeaaDe
namespace Go.Proofs.Ytiiokdeehlfeeaa
open Go.MW
def backL (L : List Int) : List (List Value) := (List.range L.length).map fun j => [I ((L.length - 1 - j : Nat) : Int), I (gi L (L.length - 1 - j))]
theorem backL_length (L : List Int) : (backL L).length = L.length := by simp [backL]
theorem backL_get {L : List Int} {j : Nat} (h : j < (backL L).length) : (backL L)[j] = [I ((L.length - 1 - j : Nat) : Int), I (gi L (L.length - 1 - j))] := by simp [backL]
theorem slices_Backward_1_iter {H : Heap} {b : Nat} {v : Value} {L : List Int} (hb : Row H b [v]) (hr : RI H v L) : Iter Try.prog 196 [.pointer (some ⟨b, 0, none⟩)] H (backL L) := by
  intro l II Ix _ _ hy H0 σb0 σf w hle hI0 hs
  obtain ⟨a, c, rfl⟩ := RI.shape hr
  have hlen := (RI.len hr).2.2
  have hb0 : cellAt H0 b 0 = some (.slice a L.length c) := cellAt.mono (hb.at 0) hle
  refine Cl.of Try.func196 rfl Try.ntmps196 (by simp) (args_cons (k := 0) rfl (args_cons (k := 1) rfl (args0))) ?_
  refine .regSeq (.y hs (zld Try.isAgg22) (.z (zlen Try.runUnderlying22) (.z zsub (.z zg (.nil (.block ?_))))))
  refine .loop (fun j : Nat => ⟨19, [], [(3, I ((L.length : Int) - 1 - (j : Int))), (0, .func (.yield l) #[] #[]), (1, .pointer (some ⟨b, 0, none⟩))]⟩)
    (fun j w => j ≤ L.length ∧ ∃ H1 σb, HLe H H1 ∧ HLe H0 H1 ∧ II j H1 σb ∧ St H1 w (σb ++ σf)) (fun j => L.length - j) 0 (.consI rfl (by simp) (by repeat (first | exact .nil rfl rfl | refine .cons rfl ?_)))
    ⟨Nat.zero_le _, H0, σb0, hle, HLe.refl _, hI0, hs⟩ ?_
  clear hs hI0
  rintro j w ⟨hj, H1, σb, hle1, hle0, hI, hs⟩
  have hb1 : cellAt H1 b 0 = some (.slice a L.length c) := cellAt.mono hb0 hle0
  refine .seq (.regSeq (.z zm (.z zgeq (.nil ?_))))
  refine (.condD rfl (fun hc8 => ?_) (fun hc8 => ?_))
  · refine .skip ?_
    refine nT ?_
    refine .seq (.block (.regSeq (.z zm (.z zm (.y hs (zld Try.isAgg22) (.z zm ?_))))))
    refine .ixY hs (hr.mono hle1) rfl rfl Try.runUnderlying22 Try.sizeOf3 (gi_get (l := L) (i := L.length - 1 - j) (by omega)) (by omega) ?_; intro b15 o15 hc15
    refine .q hs (q_loadR rfl Try.isAgg3 hc15) ?_
    have hk' : j < (backL L).length := by rw [backL_length]; omega
    have hyd := hy j hk' H1 σb σf w hle1 hI hs
    rw [backL_get hk', show ((L.length - 1 - j : Nat) : Int) = (L.length : Int) - 1 - (j : Int) by omega] at hyd
    refine .o (.yield rfl rfl hyd ?_); rintro v17 w ⟨H2, σ2, g1, hs, g3⟩
    obtain ⟨bb, rfl, gT, gF⟩ := yd_bool g3
    refine .z znot (.nil ?_)
    refine (.cond rfl (fun hc18 => ?_) (fun hc18 => ?_))
    · refine .ret (rB (rT (rT (rB (Fin.ret0 Try.results196 ?_)))))
      exact ⟨H2, σ2, hle0.trans g1, hs, .inr (gF (by simpa using hc18))⟩
    · refine .skip ?_
      refine nB (nT ?_)
      refine .region (.z zm (.z zsub (.z zg (.nil ?_))))
      refine nT ?_
      exact ⟨j + 1, .consI rfl (by simp; omega) (by repeat (first | exact .nil rfl rfl | refine .cons rfl ?_)), ⟨by omega, H2, σ2, hle1.trans g1, hle0.trans g1, gT (by simpa using hc18), hs⟩, by omega⟩
  · refine .exit ?_
    refine xT (xT (xB ?_))
    obtain rfl : L.length = j := by omega
    exact Fin.end0 Try.results196 ⟨H1, σb, hle0, hs, .inl (by rw [backL_length]; exact hI)⟩
theorem slices_Backward_spec {H : Heap} {w : World} {σ : List Ent} {v : Value} {L : List Int} (hs : St H w σ) (hr : RI H v L) :
    Cl Try.prog 150 [v] w fun u w' => ∃ H1 b, HLe H H1 ∧ u = .func (.func 196) #[] #[.pointer (some ⟨b, 0, none⟩)] ∧ Iter Try.prog 196 [.pointer (some ⟨b, 0, none⟩)] H1 (backL L) ∧ St H1 w' σ := by
  obtain ⟨a, c, rfl⟩ := RI.shape hr
  refine Cl.of Try.func150 rfl Try.ntmps150 (by simp) (args_cons (k := 0) rfl (args0)) ?_
  refine .regSeq ?_
  refine .o (.box hs rfl rfl ?_); intro b1 w hs
  refine .z zg (.nil (.regSeq ?_))
  refine .q hs (q_makeFunc (f := []) (c := [_]) rfl rfl) ?_
  refine .z zg (.nil ?_)
  refine .ret (Fin.ret1 Try.results150 rfl ?_)
  obtain ⟨H1, g1, g2, hs⟩ := hs.publish .here
  exact ⟨H1, b1, g1, rfl, slices_Backward_1_iter g2 (hr.mono g1), hs⟩
theorem bound_Conflict_1 {H : Heap} {w : World} {σ : List Ent} {n m : Int} {b : Nat} (hs : St H w σ) (hb : Row H b [I m]) :
    Cl Try.prog 152 [I n, .pointer (some ⟨b, 0, none⟩)] w fun u w' => u = .bool (decide (n = m)) ∧ St H w' σ := by
  have hb0 : cellAt H b 0 = some (I m) := hb.at 0
  refine Cl.of Try.func152 rfl Try.ntmps152 (by simp) (args_cons (k := 0) rfl (args_cons (k := 1) rfl (args0))) ?_
  refine .regSeq (.z zg (.nil (.regSeq (.z zm (.y hs (zld Try.isAgg3) (.z zeql (.z zg (.nil ?_))))))))
  refine .ret (Fin.ret1 Try.results152 rfl ?_)
  exact ⟨rfl, hs⟩
set_option maxHeartbeats 1000000 in
theorem bound_Conflict_spec {H : Heap} {w : World} {σ : List Ent} {v : Value} {s : Syst} (hs : St H w σ) (hr : RSy H v s) :
    Cl Try.prog 64 [v] w fun u w' => ∃ H1 vx out e, HLe H H1 ∧ u = .tuple #[vx, I e] ∧ RI H1 vx out ∧ ConfR s out e ∧ St H1 w' σ := by
  obtain ⟨ul, rfl, hl⟩ := hr
  obtain ⟨al, cl, rfl⟩ := RL.shape hl
  refine Cl.of Try.func64 rfl Try.ntmps64 (by simp) (args_cons (k := 0) rfl (args0)) ?_
  refine .regSeq ?_
  refine .o (.box hs rfl rfl ?_); intro b1 w hs
  refine .z zg (.z zg (.nil (.seq (.regSeq (.y hs (zls [_, _] Try.isAgg32 Try.sizeOf32) ?_)))))
  refine .o (.call Try.call72 rfl (bound_Check_spec (s := s) hs ⟨_, rfl, hl⟩) ?_); rintro _ w ⟨rfl, hs⟩
  refine .z zg (.nil (.regSeq (.z zm (.z zneq (.nil ?_)))))
  refine (.condN rfl (fun hc12 => ?_) (fun hc12 => ?_))
  · refine .regSeq (.z zm (.z zg (.z zg (.nil ?_))))
    refine .ret (rT (?_))
    exact Fin.retD [] [] hs fun w hs => ⟨_, results2 Try.results64 rfl rfl, H, _, [], _, HLe.refl H, rfl, RS.nil H 1 none 0, .bad hc12, hs.out⟩
  · refine .skip ?_
    refine nT ?_
    refine .seq (.regSeq (.y hs (zls [_, _] Try.isAgg32 Try.sizeOf32) ?_))
    have hok : s.Ok := s.ok_iff.1 (by simpa using hc12)
    have hll := hok.len
    refine .o (.call Try.call149 rfl (bound_isSound_spec (s := s) hs hok ⟨_, rfl, hl⟩) ?_); rintro _ w ⟨H1, bb, hle1, rfl, hbb, hs⟩
    refine .nil ?_
    refine (.cond rfl (fun hc15 => ?_) (fun hc15 => ?_))
    · refine .regSeq (.z zg (.z zg (.nil ?_)))
      refine .ret (rT (?_))
      exact Fin.retD [] [] hs fun w hs => ⟨_, results2 Try.results64 rfl rfl, H1, _, [], _, hle1, rfl, RS.nil H1 1 none 0, .none hok (hbb.1 hc15), hs.out⟩
    · refine .skip ?_
      refine nT ?_
      refine .regSeq (.y hs (zls [_, _] Try.isAgg32 Try.sizeOf32) ?_)
      have hns : ¬ s.Sound := fun h => by rw [hbb.2 h] at hc15; cases hc15
      refine .o (.call Try.call66 rfl (bound_Sources_spec (s := s) hs ⟨_, rfl, hl.mono hle1⟩ (by omega)) ?_); rintro v17 w ⟨L, en, hO, hLl, hRise, hs⟩
      obtain ⟨a17, l17, c17, rfl, h17⟩ := hO.shape
      refine .o (.alloc hs Try.zeroValue22 rfl ?_); intro b5 w hs
      refine .o (.store hs rfl rfl Try.sizeOf22 ?_); intro w hs
      refine .nil (.seq (.regSeq (.y hs (zls [_, _] Try.isAgg32 Try.sizeOf32) ?_)))
      refine .o (.call Try.call66 rfl (bound_Sources_spec (s := s) hs ⟨_, rfl, hl.mono hle1⟩ (by omega)) ?_); rintro v19 w ⟨L', en', hO', hLl', hRise', hs⟩
      obtain rfl : L = L' := hRise.uniq hRise'
      obtain ⟨H2, hle2, hR19, hs⟩ := OwnS.publishI hO' (by omega) hs .here
      refine .o (.call Try.call150 rfl (slices_Backward_spec hs hR19) ?_); rintro _ w ⟨H3, b20, hle3, rfl, hit, hs⟩
      have hle03 := hle1.trans (hle2.trans hle3)
      refine .nil (.block ?_)
      refine .rangeFunc (gf := 196) (cap := [.pointer (some ⟨b20, 0, none⟩)]) (xs := backL L) (σb := [.blk b1 [I s.many, .slice al s.lims.length cl], .blk b5 [.slice a17 l17 c17], en]) (σf := σ) (hs.sub (by repeat (first | exact Sub.refl _ | constructor | apply Sub.weaken)) : St H3 w (.blk b1 _ :: .blk b5 _ :: en :: σ)) trivial rfl hit Try.call196 (fun x hx => by
          simp only [backL, List.mem_map] at hx
          obtain ⟨j, _, rfl⟩ := hx; rfl) rfl
        (I := fun j H' σb => ∃ (t : Syst) (ut vo : Value) (out : List Int) (en : Ent), σb = [.blk b1 [I t.many, ut], .blk b5 [vo], en] ∧ RL H' ut t.lims ∧ OwnS 1 vo (Is out) en ∧ out.length ≤ L.length ∧ t.Ok ∧ ConfI s L (L.length - j) t out) (Ix := fun _ _ _ => False)
        (fun j _ _ σ g1 ⟨t, ut, vo, out, en, g2, g3, g4⟩ => ⟨t, ut, vo, out, en, g2, g3.mono g1, g4⟩) (fun _ _ _ _ _ h => h)
        ⟨s, _, _, L, en, rfl, hl.mono hle03, hO, Nat.le_refl _, hok, .start⟩ ?_ ?_ (fun D c H' σb w _ h _ => h.elim)
      · rintro l j hj H4 σb2 σf2 w hle4 ⟨t, ut, vo, out, en, rfl, hut, hOo, hol, htok, hC⟩ hs ⟨rr, hrr⟩
        rw [backL_get hj]
        have hjL : j < L.length := by rw [backL_length] at hj; exact hj
        obtain ⟨at', ct, rfl⟩ := RL.shape hut
        obtain ⟨ao, lo, co, rfl, hlo⟩ := hOo.shape
        refine .region ?_
        refine .o (.alloc hs Try.zeroValue3 rfl ?_); intro b7 w hs
        refine .o (.store hs rfl rfl Try.sizeOf3 ?_); intro w hs
        refine .nil ?_
        refine nT ?_
        refine ⟨H4, [.blk b7 [I (gi L (L.length - 1 - j))], .blk b1 [I t.many, .slice at' t.lims.length ct], .blk b5 [.slice ao lo co], en], HLe.refl _, hs, ?_⟩; rintro w σf4 - hs
        refine .block (.regSeq (.y hs (zls [_, _] Try.isAgg32 Try.sizeOf32) (.y hs (zld Try.isAgg3) ?_)))
        refine .o (.buildSlice (cells := [_]) hs bls_sl_int_1 rfl rfl ?_); intro b25 w hs
        obtain ⟨H5, hle5, r25, hs⟩ := OwnS.publishI (xs := [gi L (L.length - 1 - j)]) (v := .slice (some ⟨b25, 0, none⟩) 1 1) (.full (len := 1) rfl) (by simp) hs (by repeat constructor)
        refine .o (.call Try.call68 rfl (bound_Without_spec (s := t) hs ⟨_, rfl, hut.mono hle5⟩ r25 (by have := htok.len; omega)) ?_); rintro _ w ⟨H6, hle6, ⟨u26, rfl, hL26⟩, hs⟩
        obtain ⟨a26, c26, rfl⟩ := RL.shape hL26
        refine .o (.alloc hs Try.zeroValue32 rfl ?_); intro b8 w hs
        refine .o (.stores (vs := [_, _]) hs rfl rfl Try.sizeOf32 ?_); intro w hs
        refine .nil (.regSeq (.y hs (zls [_, _] Try.isAgg32 Try.sizeOf32) ?_))
        refine .o (.call Try.call149 rfl (bound_isSound_spec (s := t.wo [gi L (L.length - 1 - j)]) hs (htok.wo _) ⟨_, rfl, hL26⟩) ?_); rintro _ w ⟨H7, b28, hle7, rfl, hb28, hs⟩
        have hle47 := hle5.trans (hle6.trans hle7)
        refine .z znot (.nil ?_)
        refine (.cond rfl (fun hc29 => ?_) (fun hc29 => ?_))
        · refine .regSeq (.y hs (zls [_, _] Try.isAgg32 Try.sizeOf32) ?_)
          refine .o (.stores (vs := [_, _]) hs rfl rfl Try.sizeOf32 ?_); intro w hs
          refine .nil (.region (.y hs (zld Try.isAgg22) ?_))
          refine .q hs (q_makeFunc (f := []) (c := [_]) rfl rfl) ?_
          obtain ⟨H8, hle8, r7, hs⟩ := hs.publish (b := b7) (by repeat constructor)
          replace hs : St H8 w (en :: .blk b1 [I t.many, .slice a26 (t.wo [gi L (L.length - 1 - j)]).lims.length c26] :: .blk b5 [.slice ao lo co] :: σf4) := hs.sub (by repeat (first | exact Sub.refl _ | constructor | apply Sub.weaken))
          refine .o (.call Try.call151 rfl (slices_DeleteFunc_spec (g := 152) (cap := [.pointer (some ⟨b7, 0, none⟩)]) (fun n => decide (n = gi L (L.length - 1 - j))) hs hOo (by omega) Try.call152
            (fun H' w σ n _ hle hs => (bound_Conflict_1 hs (r7.mono hle)).mono fun u w' ⟨g1, g2⟩ => ⟨H', HLe.refl _, g1, g2⟩)) ?_); rintro v33 w ⟨H9, en9, hle9, hO9, hs⟩
          obtain ⟨a33, l33, c33, rfl, h33⟩ := hO9.shape
          refine .o (.store hs rfl rfl Try.sizeOf22 ?_); intro w hs
          refine .nil ?_
          refine nB ?_
          have hfl := List.length_filter_le (fun n => !decide (n = gi L (L.length - 1 - j))) out
          have e : L.length - (j + 1) = L.length - 1 - j := by omega
          have hns' : ¬ (t.wo [gi L (L.length - 1 - j)]).Sound := fun h => by rw [hb28.2 h] at hc29; cases hc29
          exact ⟨H9, [.blk b1 [I t.many, .slice a26 (t.wo [gi L (L.length - 1 - j)]).lims.length c26], .blk b5 [.slice a33 l33 c33], en9], hle47.trans (hle8.trans hle9), (hs.sub (by repeat (first | exact Sub.refl _ | constructor | apply Sub.weaken)) : St H9 w (.blk b1 _ :: .blk b5 _ :: en9 :: σf4)), t.wo [gi L (L.length - 1 - j)], _, _, _, _, rfl, hL26.mono (hle7.trans (hle8.trans hle9)), hO9, by omega, htok.wo _, by
            rw [e]
            exact .drop (by rw [show L.length - 1 - j + 1 = L.length - j by omega]; exact hC) hns'⟩
        · refine .skip ?_
          refine nB ?_
          have e : L.length - (j + 1) = L.length - 1 - j := by omega
          have hsd' : (t.wo [gi L (L.length - 1 - j)]).Sound := hb28.1 (by simpa using hc29)
          exact ⟨H7, [.blk b1 [I t.many, .slice at' t.lims.length ct], .blk b5 [.slice ao lo co], en], hle47, (hs.sub (by repeat (first | exact Sub.refl _ | constructor | apply Sub.weaken)) : St H7 w (.blk b1 _ :: .blk b5 _ :: en :: σf4)), t, _, _, _, _, rfl, hut.mono hle47, hOo, hol, htok, by
            rw [e]
            exact .keep (by rw [show L.length - 1 - j + 1 = L.length - j by omega]; exact hC) hsd'⟩
      · rintro D H4 σb2 w hle4 ⟨t, ut, vo, out, en, rfl, hut, hOo, hol, htok, hC⟩ hs
        rw [backL_length, Nat.sub_self] at hC
        obtain ⟨ao, lo, co, rfl, hlo⟩ := hOo.shape
        replace hs : St H4 w (.obj D (.deferred (some [])) :: .blk b1 [I t.many, ut] :: .blk b5 [.slice ao lo co] :: en :: σ) := hs
        refine nB (nT ?_)
        refine .regSeq (.y hs (zld Try.isAgg22) (.z zg (.z zg (.nil ?_))))
        refine .ret ?_
        obtain ⟨H5, hle5, hR5, hs⟩ := OwnS.publishI hOo (by omega) hs (by repeat constructor)
        exact Fin.retD [D] [] hs fun w hs => ⟨_, results2 Try.results64 rfl rfl, H5, _, out, 0, hle03.trans (hle4.trans hle5), rfl, hR5, .ok hok hns hRise hC, hs.out⟩
end Go.Proofs.Ytiiokdeehlfeeaa

namespace Go.Proofs.Ytiiokdeehlfeeaa
open Go.MW
theorem law02_system_spec {H : Heap} {w : World} {σ : List Ent} (hs : St H w σ) : Cl Try.prog 139 [] w fun v w' => ∃ b, v = .agg #[I 3, .slice (some ⟨b, 0, none⟩) 7 7] ∧ St H w' (.blk b (Lims exT.lims) :: σ) := by
  refine Cl.of Try.func139 rfl Try.ntmps139 (by simp) (args0) ?_
  refine .regSeq ?_
  refine .o (.alloc hs Try.zeroValue32 rfl ?_); intro b0 w hs
  refine .nil (.regSeq (.z (zbd [_, _, _, _] bld_api_Limit) (.z (zbd [_, _, _, _] bld_api_Limit) (.z (zbd [_, _, _, _] bld_api_Limit) (.z (zbd [_, _, _, _] bld_api_Limit) (.z (zbd [_, _, _, _] bld_api_Limit) (.z (zbd [_, _, _, _] bld_api_Limit) (.z (zbd [_, _, _, _] bld_api_Limit) ?_))))))))
  refine .o (.buildSlice (cells := Lims exT.lims) hs bls_sl_api_Limit_7 rfl (by kernel_rfl) ?_); intro b8 w hs
  refine .z (zbd [_, _] bld_api_System) ?_
  refine .o (.stores (vs := [_, _]) hs rfl rfl Try.sizeOf32 ?_); intro w hs
  refine .nil ?_
  refine .ret ?_
  exact Fin.retD [] [] hs fun w hs => ⟨_, results1 Try.results139 (rcells (vs := [_, _]) hs rfl Try.isAgg32 Try.sizeOf32), b8, rfl, hs.sub (by repeat (first | exact Sub.refl _ | constructor | apply Sub.weaken))⟩
set_option maxHeartbeats 2000000 in
theorem law02_sane_spec {H : Heap} {w : World} {σ : List Ent} (hs : St H w σ) : Cl Try.prog 54 [] w fun v w' => v = .bool true ∧ ∃ H1, HLe H H1 ∧ St H1 w' σ := by
  refine Cl.of Try.func54 rfl Try.ntmps54 (by simp) (args0) ?_
  refine .regSeq (.z zg (.nil (.regSeq ?_)))
  refine .o (.call Try.call139 rfl (law02_system_spec hs) ?_); rintro _ w ⟨bs, rfl, hs⟩
  obtain ⟨H1, hle, hl, hs⟩ := OwnS.publish (m := 4) (v := .slice (some ⟨bs, 0, none⟩) 7 7) (cs := exT.lims.map Lim.c) (.full rfl) (by decide) (by decide) (by decide) hs .here
  refine .o (.alloc hs Try.zeroValue32 rfl ?_); intro b1 w hs
  refine .o (.stores (vs := [_, _]) hs rfl rfl Try.sizeOf32 ?_); intro w hs
  refine .nil (.regSeq ?_)
  refine .o (.buildSlice (cells := Is [0, 1, 1, -2]) hs bls_sl_int_4 rfl (by kernel_rfl) ?_); intro b20 w hs
  obtain ⟨H2, hle2, hw, hs⟩ := OwnS.publishI (v := .slice (some ⟨b20, 0, none⟩) 4 4) (xs := [0, 1, 1, -2]) (.full rfl) (by decide) hs .here
  replace hl : RL H2 _ exT.lims := RS.mono hl hle2
  replace hle := hle.trans hle2
  refine .z zg (.nil (.regSeq (.y hs (zls [_, _] Try.isAgg32 Try.sizeOf32) ?_)))
  refine .o (.call Try.call52 rfl (bound_Close_spec (s := exT) hs ⟨_, rfl, hl⟩) ?_); rintro _ w ⟨H3, vt, e, hle3, rfl, hcase, hs⟩
  obtain ⟨rfl, rs, hRT, hSq, hWT⟩ : e = 0 ∧ ∃ rs, RT H3 vt rs ∧ Sq exT.n rs ∧ WaysT exT.n exT.arcs (gt rs) := by
    rcases hcase with ⟨h, _⟩ | ⟨_, h, _⟩ | ⟨_, _, h1, h2⟩
    · exact (h (exT.ok_iff.2 exT_ok)).elim
    · exact (h exT_sound).elim
    · exact ⟨h1, h2⟩
  obtain rfl := exT_rows hSq hWT
  obtain ⟨at', ct, rfl⟩ := hRT.shape
  replace hl := hl.mono hle3; replace hw := hw.mono hle3; replace hle := hle.trans hle3
  refine .z zm (.z zex (.z zex (.z zg (.z zg (.nil (.regSeq (.y hs (zls [_, _] Try.isAgg32 Try.sizeOf32) ?_)))))))
  refine .o (.buildSlice (cells := Is [1, 2, 3]) hs bls_sl_int_3 rfl (by kernel_rfl) ?_); intro b28 w hs
  obtain ⟨H4, hle4, hp, hs⟩ := OwnS.publishI (v := .slice (some ⟨b28, 0, none⟩) 3 3) (xs := [1, 2, 3]) (.full rfl) (by decide) hs .here
  replace hl := hl.mono hle4; replace hw := hw.mono hle4; replace hRT := hRT.mono hle4; replace hle := hle.trans hle4
  refine .o (.call Try.call53 rfl (bound_Point_spec (s := exT) hs ⟨_, rfl, hl⟩ hp) ?_); rintro _ w ⟨H5, vx, x, e, hle5, rfl, hRx, hPx, hs⟩
  obtain ⟨rfl, rfl⟩ := exT_point hPx
  obtain ⟨ax, cx, rfl⟩ := RI.shape hRx
  replace hl := hl.mono hle5; replace hw := hw.mono hle5; replace hRT := hRT.mono hle5; replace hle := hle.trans hle5
  refine .z zm (.z zex (.z zex (.z zg (.z zg (.nil (.regSeq (.y hs (zls [_, _] Try.isAgg32 Try.sizeOf32) (.z zm ?_))))))))
  refine .o (.call Try.call56 rfl (bound_Most_spec (s := exT) hs ⟨_, rfl, hl⟩ hw) ?_); rintro _ w ⟨H6, n, e, hle6, rfl, hM, hs⟩
  obtain ⟨rfl, rfl⟩ := exT_most hM
  replace hl := hl.mono hle6; replace hw := hw.mono hle6; replace hRT := hRT.mono hle6; replace hRx := hRx.mono hle6; replace hle := hle.trans hle6
  refine .z zm (.z zex (.z zex (.z zg (.z zg (.nil (.regSeq (.y hs (zls [_, _] Try.isAgg32 Try.sizeOf32) (.z zm ?_))))))))
  refine .o (.call Try.call61 rfl (bound_Best_spec (s := exT) hs ⟨_, rfl, hl⟩ hw) ?_); rintro _ w ⟨H7, vb, xb, e, hle7, rfl, hA, hRb, _, hB, hs⟩
  obtain rfl := hA.uniq hM.1
  obtain rfl := exT_best (hB rfl)
  obtain ⟨ab, cb, rfl⟩ := RI.shape hRb
  replace hl := hl.mono hle7; replace hw := hw.mono hle7; replace hRT := hRT.mono hle7; replace hRx := hRx.mono hle7; replace hle := hle.trans hle7
  refine .z zm (.z zex (.z zex (.z zg (.z zg (.nil (.regSeq (.y hs (zls [_, _] Try.isAgg32 Try.sizeOf32) ?_)))))))
  refine .o (.buildSlice (cells := Is [0, 0, 1, 0]) hs bls_sl_int_4 rfl (by kernel_rfl) ?_); intro b46 w hs
  obtain ⟨H8, hle8, hw8, hs⟩ := OwnS.publishI (v := .slice (some ⟨b46, 0, none⟩) 4 4) (xs := [0, 0, 1, 0]) (.full rfl) (by decide) hs .here
  replace hl := hl.mono hle8; replace hRT := hRT.mono hle8; replace hRx := hRx.mono hle8; replace hRb := hRb.mono hle8; replace hle := hle.trans hle8
  refine .o (.call Try.call93 rfl (bound_Moves_spec (s := exT) hs ⟨_, rfl, hl⟩ hw8) ?_); rintro _ w ⟨H9, vm, L, e, hle9, rfl, hRm, hMv, hs⟩
  obtain ⟨rfl, rfl⟩ := exT_moves hMv
  obtain ⟨am, cm, rfl⟩ := RI.shape hRm
  replace hl := hl.mono hle9; replace hRT := hRT.mono hle9; replace hRx := hRx.mono hle9; replace hRb := hRb.mono hle9; replace hle := hle.trans hle9
  refine .z zm (.z zex (.z zex (.z zg (.z zg (.nil (.regSeq ?_))))))
  refine .o (.call Try.call139 rfl (law02_system_spec hs) ?_); rintro _ w ⟨bs2, rfl, hs⟩
  refine .q hs (q_field (k := 1) rfl Try.runUnderlying32 rfl Try.isAgg30 rfl) ?_
  refine .z (zbd [_, _, _, _] bld_api_Limit) ?_
  refine .o (.buildSlice (cells := (⟨2, 0, -13, 9⟩ : Lim).c) hs bls_sl_api_Limit_1 rfl (by kernel_rfl) ?_); intro b53 w hs
  refine .o (.append (xs := Lims exT.lims) (ys := (⟨2, 0, -13, 9⟩ : Lim).c) hs app_sl_api_Limit_api_Limit rfl rfl (.full (len := 7) rfl) (.own .here rfl rfl) (by simp [Lim.c, Value.oneCell']) (fun l h => by rw [Lims_length] at h; change 7 * 4 = l * 4 at h; omega) ?_); intro v54 en54 w hO54 hs
  rw [← Lims_one, ← Lims_append] at hO54
  obtain ⟨H10, hle10, hl10, hs⟩ := OwnS.publish (m := 4) (cs := exC.lims.map Lim.c) hO54 (by decide) (by decide) (by decide) hs .here
  obtain ⟨a54, c54, rfl⟩ := RL.shape (ls := exC.lims) hl10
  replace hl := hl.mono hle10; replace hRT := hRT.mono hle10; replace hRx := hRx.mono hle10; replace hRb := hRb.mono hle10; replace hRm := hRm.mono hle10; replace hle := hle.trans hle10
  refine .z zg (.nil (.regSeq (.z zm (.z (zbd [_, _] bld_api_System) ?_))))
  refine .o (.call Try.call64 rfl (bound_Conflict_spec (s := exC) hs ⟨_, rfl, hl10⟩) ?_); rintro _ w ⟨H11, vc, out, e, hle11, rfl, hRc, hCf, hs⟩
  obtain ⟨rfl, rfl⟩ := exC_conf hCf
  obtain ⟨ac, cc, rfl⟩ := RI.shape hRc
  replace hl := hl.mono hle11; replace hRT := hRT.mono hle11; replace hRx := hRx.mono hle11; replace hRb := hRb.mono hle11; replace hRm := hRm.mono hle11; replace hle := hle.trans hle11
  refine .z zm (.z zex (.z zex (.z zg (.z zg (.nil (.regSeq (.y hs (zls [_, _] Try.isAgg32 Try.sizeOf32) ?_)))))))
  refine .o (.buildSlice (cells := Is [1, 4]) hs bls_sl_int_2 rfl (by kernel_rfl) ?_); intro b63 w hs
  obtain ⟨H12, hle12, hb12, hs⟩ := OwnS.publishI (v := .slice (some ⟨b63, 0, none⟩) 2 2) (xs := [1, 4]) (.full rfl) (by decide) hs .here
  refine .o (.call Try.call68 rfl (bound_Without_spec (s := exT) hs ⟨_, rfl, hl.mono hle12⟩ hb12 (by decide)) ?_); rintro _ w ⟨H13, hle13, ⟨u64, rfl, hL64⟩, hs⟩
  obtain ⟨a64, c64, rfl⟩ := RL.shape hL64
  refine .o (.buildSlice (cells := Is [0, 1, 0, 0]) hs bls_sl_int_4 rfl (by kernel_rfl) ?_); intro b65 w hs
  obtain ⟨H14, hle14, hw14, hs⟩ := OwnS.publishI (v := .slice (some ⟨b65, 0, none⟩) 4 4) (xs := [0, 1, 0, 0]) (.full rfl) (by decide) hs .here
  refine .o (.call Try.call56 rfl (bound_Most_spec (s := exT.wo [1, 4]) hs ⟨_, rfl, hL64.mono hle14⟩ hw14) ?_); rintro _ w ⟨H15, n, e, hle15, rfl, hM15, hs⟩
  obtain rfl := exT_open hM15
  have hle5 := hle12.trans (hle13.trans (hle14.trans hle15))
  replace hl := hl.mono hle5; replace hRT := hRT.mono hle5; replace hRx := hRx.mono hle5; replace hRb := hRb.mono hle5; replace hRm := hRm.mono hle5; replace hRc := hRc.mono hle5; replace hle := hle.trans hle5
  refine .z zm (.z zex (.z zex (.z zg (.z zg (.nil (.regSeq (.z zm (.z zeql (.z zm ?_)))))))))
  refine .gT rfl rfl ?_
  refine .z zm ?_
  refine .gT rfl rfl ?_
  refine .z zeql (.z zpT (.z zm ?_))
  refine .gT rfl rfl ?_
  refine .z zm ?_
  refine .gT rfl rfl ?_
  refine .z zeql (.z zpT (.z zm ?_))
  refine .gT rfl rfl ?_
  refine .z zm ?_
  refine .gT rfl rfl ?_
  refine .z zeql (.z zpT (.z zm ?_))
  refine .gT rfl rfl ?_
  refine .z zm ?_
  refine .gT rfl rfl ?_
  refine .z zeql (.z zpT (.z zm ?_))
  refine .gT rfl rfl ?_
  refine .z zm ?_
  refine .gT rfl rfl ?_
  refine .z zeql (.z zpT (.z zg (.nil (.regSeq (.z zm (.z zm ?_))))))
  refine .gT rfl rfl ?_
  refine .z zm ?_
  refine .gT rfl rfl ?_
  refine .z (zlen Try.runUnderlying87) ?_
  refine .gT rfl rfl ?_
  refine .z zeql (.z zpT (.z zm ?_))
  refine .gT rfl rfl ?_
  refine .z zm ?_
  refine .gT rfl rfl ?_
  refine .ixT hs hRT rfl rfl Try.runUnderlying87 Try.sizeOf22 (k := 3) (by decide) rfl ?_; intro b99 o99 a99 c99 hc99 hR99
  refine .gT rfl rfl ?_
  refine .q hs (q_loadR rfl Try.isAgg22 hc99) ?_
  refine .gT rfl rfl ?_
  refine .z (zlen Try.runUnderlying22) ?_
  refine .gT rfl rfl ?_
  refine .z zeql (.z zpT (.z zm ?_))
  refine .gT rfl rfl ?_
  refine .z zm ?_
  refine .gT rfl rfl ?_
  refine .ixT hs hRT rfl rfl Try.runUnderlying87 Try.sizeOf22 (k := 3) (by decide) rfl ?_; intro b106 o106 a106 c106 hc106 hR106
  refine .gT rfl rfl ?_
  refine .q hs (q_loadR rfl Try.isAgg22 hc106) ?_
  refine .gT rfl rfl ?_
  refine .ixY hs hR106 rfl rfl Try.runUnderlying22 Try.sizeOf3 (k := 2) (x' := 12) rfl rfl ?_; intro b108 o108 hc108
  refine .gT rfl rfl ?_
  refine .q hs (q_loadR rfl Try.isAgg3 hc108) ?_
  refine .gT rfl rfl ?_
  refine .z zeql (.z zpT (.z zm ?_))
  refine .gT rfl rfl ?_
  refine .z zm ?_
  refine .gT rfl rfl ?_
  refine .o (.buildSlice (cells := Is [0, 5, 7, 3]) hs bls_sl_int_4 rfl (by kernel_rfl) ?_); intro b114 w hs
  obtain ⟨H16, hle16, hq1, hs⟩ := OwnS.publishI (v := .slice (some ⟨b114, 0, none⟩) 4 4) (xs := [0, 5, 7, 3]) (.full rfl) (by decide) hs .here
  refine .gT rfl rfl ?_
  refine .o (.call Try.call31 rfl (ref02_Same_spec hs (hRx.mono hle16) hq1) ?_); rintro _ w ⟨rfl, hs⟩
  refine .z zpT (.z zm ?_)
  refine .gT rfl rfl ?_
  refine .z zm ?_
  refine .gT rfl rfl ?_
  refine .z zeql (.z zpT (.z zm ?_))
  refine .gT rfl rfl ?_
  refine .z zm ?_
  refine .gT rfl rfl ?_
  refine .o (.buildSlice (cells := Is [0, 10, 12, 0]) hs bls_sl_int_4 rfl (by kernel_rfl) ?_); intro b123 w hs
  obtain ⟨H17, hle17, hq2, hs⟩ := OwnS.publishI (v := .slice (some ⟨b123, 0, none⟩) 4 4) (xs := [0, 10, 12, 0]) (.full rfl) (by decide) hs .here
  refine .gT rfl rfl ?_
  refine .o (.call Try.call31 rfl (ref02_Same_spec hs (hRb.mono (hle16.trans hle17)) hq2) ?_); rintro _ w ⟨rfl, hs⟩
  refine .z zpT (.z zm ?_)
  refine .gT rfl rfl ?_
  refine .z zm ?_
  refine .gT rfl rfl ?_
  refine .o (.buildSlice (cells := Is [1, 2, 4]) hs bls_sl_int_3 rfl (by kernel_rfl) ?_); intro b128 w hs
  obtain ⟨H18, hle18, hq3, hs⟩ := OwnS.publishI (v := .slice (some ⟨b128, 0, none⟩) 3 3) (xs := [1, 2, 4]) (.full rfl) (by decide) hs .here
  refine .gT rfl rfl ?_
  refine .o (.call Try.call31 rfl (ref02_Same_spec hs (hRm.mono (hle16.trans (hle17.trans hle18))) hq3) ?_); rintro _ w ⟨rfl, hs⟩
  refine .z zpT (.z zm ?_)
  refine .gT rfl rfl ?_
  refine .z zm ?_
  refine .gT rfl rfl ?_
  refine .o (.buildSlice (cells := Is [4, 9]) hs bls_sl_int_2 rfl (by kernel_rfl) ?_); intro b133 w hs
  obtain ⟨H19, hle19, hq4, hs⟩ := OwnS.publishI (v := .slice (some ⟨b133, 0, none⟩) 2 2) (xs := [4, 9]) (.full rfl) (by decide) hs .here
  have hle69 := hle16.trans (hle17.trans (hle18.trans hle19))
  refine .gT rfl rfl ?_
  refine .o (.call Try.call31 rfl (ref02_Same_spec hs (hRc.mono hle69) hq4) ?_); rintro _ w ⟨rfl, hs⟩
  refine .z zpT (.z zm ?_)
  refine .gT rfl rfl ?_
  refine .z zm ?_
  refine .gT rfl rfl ?_
  refine .z zeql (.z zpT (.z zg (.nil ?_)))
  refine .ret (Fin.ret1 Try.results54 rfl ?_)
  exact ⟨rfl, H19, hle.trans hle69, hs.out⟩
end Go.Proofs.Ytiiokdeehlfeeaa

namespace Go.Proofs.Ytiiokdeehlfeeaa
open Go.MW
theorem ref02_Value_spec {H : Heap} {w : World} {σ : List Ent} {vw vx : Value} {ws x : List Int} (hs : St H w σ) (hw : RI H vw ws) (hx : RI H vx x) :
    Cl Try.prog 82 [vw, vx] w fun u w' => ∃ n e, u = .tuple #[I n, I e] ∧ ValueR ws x n e ∧ St H w' σ := by
  obtain ⟨aw, cw, rfl⟩ := RI.shape hw
  obtain ⟨ax, cx, rfl⟩ := RI.shape hx
  have hwl := (RI.len hw).2.2
  have hxl := (RI.len hx).2.2
  refine Cl.of Try.func82 rfl Try.ntmps82 (by simp) (args_cons (k := 0) rfl (args_cons (k := 1) rfl (args0))) ?_
  refine .regSeq (.z zg (.z zg (.nil (.seq (.regSeq (.z zm (.z (zlen Try.runUnderlying22) (.z zgtr (.z zm ?_)))))))))
  refine .bifD (t' := 12) rfl (fun hb12 => ?_) (fun hb12 => ?_)
  · refine .gFs 3 3 false rfl rfl rfl ?_
    refine .z zpT (.nil ?_)
    refine (.condT rfl rfl ?_)
    refine .regSeq (.z zg (.z zg (.nil ?_)))
    refine .ret (rT (Fin.ret2 Try.results82 rfl rfl ?_))
    exact ⟨_, _, rfl, .wt (fun h => by omega), hs⟩
  · refine .gT rfl rfl ?_
    refine .z zm ?_
    refine .gT rfl rfl ?_
    refine .o (.call Try.call171 rfl (ref02_sized_spec hs hw) ?_); rintro _ w ⟨bb, rfl, hbb, hs⟩
    refine .gT rfl rfl ?_
    refine .z znot (.z zpF (.nil ?_))
    refine (.cond rfl (fun hc16 => ?_) (fun hc16 => ?_))
    · refine .regSeq (.z zg (.z zg (.nil ?_)))
      refine .ret (rT (Fin.ret2 Try.results82 rfl rfl ?_))
      exact ⟨_, _, rfl, .wt (fun h => by rw [hbb.2 h.2] at hc16; cases hc16), hs⟩
    · refine .skip ?_
      refine nT ?_
      refine .seq (.regSeq (.z zm (.z (zlen Try.runUnderlying22) (.z zm (.z (zlen Try.runUnderlying22) ?_)))))
      have hok : ws.length ≤ 65 ∧ SizedW ws := ⟨by omega, hbb.1 (by simpa using hc16)⟩
      refine .z zneq (.nil ?_)
      refine (.condN rfl (fun hc21 => ?_) (fun hc21 => ?_))
      · refine .regSeq (.z zg (.z zg (.nil ?_)))
        refine .ret (rT (Fin.ret2 Try.results82 rfl rfl ?_))
        exact ⟨_, _, rfl, .pt hok (fun h => by omega), hs⟩
      · refine .skip ?_
        refine nT ?_
        refine .regSeq (.z zg (.nil (.seq (.regSeq (.z zm (.z (zlen Try.runUnderlying22) (.z zm (.nil ?_))))))))
        refine .for (N := x.length) (J := fun k fr w => fr = [(6, I (sumTo (fun v => gi ws v * gi x v) k)), (22, .slice ax x.length cx), (0, .slice aw ws.length cw)] ∧ (∀ v < k, -1280000 ≤ gi x v ∧ gi x v ≤ 1280000) ∧ St H w σ) (by omega) ?_ ?_ ?_
        · exact .mk ⟨rfl, fun v hv => by omega, hs⟩
        · rintro k fr w hk ⟨rfl, hin, hs⟩
          refine .block (.regSeq (.z zm ?_))
          refine .ixY hs hx rfl rfl Try.runUnderlying22 Try.sizeOf3 (gi_get (l := x) (i := k) (by omega)) (by first | rfl | assumption | omega) ?_; intro b27 o27 hc27
          refine .q hs (q_loadR rfl Try.isAgg3 hc27) ?_
          refine .z zg (.z zg (.nil (.seq (.regSeq (.z zm ?_)))))
          refine .o (.call Try.call111 rfl (ref02_within_spec hs) ?_); rintro _ w ⟨rfl, hs⟩
          refine .z znot (.nil ?_)
          refine (.cond rfl (fun hc31 => ?_) (fun hc31 => ?_))
          · refine .regSeq (.z zg (.z zg (.nil ?_)))
            refine .ret (rT (rB (rT (rB (rT (Fin.ret2 Try.results82 rfl rfl ?_))))))
            exact ⟨_, _, rfl, .pt hok (fun h => by
              have h9 := h.2.at hk
              have h7 := hc31
              rw [decide_eq_true h9] at h7
              simp at h7), hs⟩
          · refine .skip ?_
            refine nT ?_
            refine .region (.z zm (.z zm (.z zm ?_)))
            have hin1 : -1280000 ≤ gi x k ∧ gi x k ≤ 1280000 := by simpa using hc31
            have hm := mul_size (a := gi ws k) hin1
            have hz := sizes_at ws (v := k) (n := ws.length) (by omega)
            have hz2 := hok.2
            unfold SizedW at hz2
            have hp := psum_bd (w := ws) (x := x) (k := k) hin
            have hz3 := sumTo_mono (f := fun v => max (gi ws v) (-gi ws v)) (fun v => by omega) (show k ≤ ws.length by omega)
            simp only [sizesTo, FF] at hz hz2 hp hz3
            refine .ixY hs hw rfl rfl Try.runUnderlying22 Try.sizeOf3 (gi_get (l := ws) (i := k) (by omega)) (by first | rfl | assumption | omega) ?_; intro b35 o35 hc35
            refine .q hs (q_loadR rfl Try.isAgg3 hc35) ?_
            refine .z zm (.z zmul (.z zadd (.z zg (.nil ?_))))
            refine nB (nT ?_)
            exact .mk ⟨rfl, fun v hv => by
              by_cases e : v = k
              · subst e; exact hin1
              · exact hin v (by omega), hs⟩
        · rintro fr w ⟨rfl, hin, hs⟩
          refine nT ?_
          refine .regSeq (.z zm (.z zg (.z zg (.nil ?_))))
          refine .ret (Fin.ret2 Try.results82 rfl rfl ?_)
          exact ⟨_, _, rfl, by
            have e : x.length = ws.length := by omega
            rw [e]
            exact .ok hok ⟨e, inReach_iff.2 hin⟩, hs⟩
theorem ref02_Best_spec {H : Heap} {w : World} {σ : List Ent} {v vw vx : Value} {s : Syst} {ws x : List Int} (hs : St H w σ) (hr : RSy H v s) (hw : RI H vw ws) (hx : RI H vx x) :
    Cl Try.prog 63 [v, vw, vx] w fun u w' => ∃ H1 b, HLe H H1 ∧ u = .bool b ∧ (b = true ↔ ∃ n, MostR s ws n 0 ∧ KeepsP s x ∧ ValueR ws x n 0) ∧ St H1 w' σ := by
  obtain ⟨ul, rfl, hl⟩ := hr
  obtain ⟨al, cl, rfl⟩ := RL.shape hl
  obtain ⟨aw, cw, rfl⟩ := RI.shape hw
  obtain ⟨ax, cx, rfl⟩ := RI.shape hx
  refine Cl.of Try.func63 rfl Try.ntmps63 (by simp) (args_cons (k := 0) rfl (args_cons (k := 1) rfl (args_cons (k := 2) rfl (args0)))) ?_
  refine .regSeq ?_
  refine .o (.box hs rfl rfl ?_); intro b3 w hs
  refine .z zg (.nil (.regSeq (.y hs (zls [_, _] Try.isAgg32 Try.sizeOf32) (.z zm ?_))))
  refine .o (.call Try.call59 rfl (ref02_Most_spec (s := s) hs ⟨_, rfl, hl⟩ hw) ?_); rintro _ w ⟨H1, n, e, hle1, rfl, hM, hs⟩
  refine .z zm (.z zex (.z zex (.z zg (.z zg (.nil (.regSeq (.z zm (.z zm ?_))))))))
  refine .o (.call Try.call82 rfl (ref02_Value_spec hs (hw.mono hle1) (hx.mono hle1)) ?_); rintro _ w ⟨m, f, rfl, hV, hs⟩
  refine .z zm (.z zex (.z zex (.z zg (.z zg (.nil (.regSeq (.z zm (.z zeql (.z zm ?_)))))))))
  refine .bifD (t' := 25) rfl (fun hb25 => ?_) (fun hb25 => ?_)
  · refine .gT rfl rfl ?_
    refine .z zm ?_
    refine .gT rfl rfl ?_
    refine .z zeql (.z zpT (.z zm ?_))
    refine .bifD (t' := 29) rfl (fun hb29 => ?_) (fun hb29 => ?_)
    · refine .gT rfl rfl ?_
      refine .y hs (zls [_, _] Try.isAgg32 Try.sizeOf32) ?_
      refine .gT rfl rfl ?_
      refine .z zm ?_
      refine .gT rfl rfl ?_
      have hok : s.Ok := (askErr_ok (AskR.zero (hb25 ▸ hM.1)).1).1
      refine .o (.call Try.call134 rfl (ref02_keeps_spec (s := s) hs ⟨_, rfl, hl.mono hle1⟩ (hx.mono hle1) hok) ?_); rintro _ w ⟨bb, rfl, hbb, hs⟩
      refine .z zpT (.z zm ?_)
      refine .bif (t' := 34) rfl (fun hb34 => ?_) (fun hb34 => ?_)
      · refine .gT rfl rfl ?_
        refine .z zm ?_
        refine .gT rfl rfl ?_
        refine .z zm ?_
        refine .gT rfl rfl ?_
        refine .z zeql (.z zpT (.z zg (.nil ?_)))
        refine .ret (Fin.ret1 Try.results63 rfl ?_)
        exact ⟨H1, _, hle1, rfl, by
          subst hb25; subst hb29
          rw [decide_eq_true_eq]
          constructor
          · rintro rfl; exact ⟨_, hM, hbb.1 (by simpa using hb34), hV⟩
          · rintro ⟨k, h1, _, h2⟩
            rw [(hM.uniq h1).1, (hV.uniq h2).1], hs.out⟩
      · refine .gFs 3 11 true rfl rfl rfl ?_
        refine .z zpF (.z zg (.nil ?_))
        refine .ret (Fin.ret1 Try.results63 rfl ?_)
        exact ⟨H1, _, hle1, rfl, ⟨fun h => (by cases h), fun ⟨_, _, h, _⟩ => by rw [hbb.2 h] at hb34; cases hb34⟩, hs.out⟩
    · refine .gFs 3 6 true rfl rfl rfl ?_
      refine .z zpF (.z zm ?_)
      refine .gFs 3 11 true rfl rfl rfl ?_
      refine .z zpF (.z zg (.nil ?_))
      refine .ret (Fin.ret1 Try.results63 rfl ?_)
      exact ⟨H1, _, hle1, rfl, ⟨fun h => (by cases h), fun ⟨_, _, _, h⟩ => (hb29 (hV.uniq h).2).elim⟩, hs.out⟩
  · refine .gFs 2 2 true rfl rfl rfl ?_
    refine .z zpF (.z zm ?_)
    refine .gFs 3 6 true rfl rfl rfl ?_
    refine .z zpF (.z zm ?_)
    refine .gFs 3 11 true rfl rfl rfl ?_
    refine .z zpF (.z zg (.nil ?_))
    refine .ret (Fin.ret1 Try.results63 rfl ?_)
    exact ⟨H1, _, hle1, rfl, ⟨fun h => (by cases h), fun ⟨_, h, _, _⟩ => (hb25 (hM.uniq h).2).elim⟩, hs.out⟩
theorem ref02_SameTable_spec {H : Heap} {w : World} {σ : List Ent} {v1 v2 : Value} {as_ bs : List (List Int)} (hs : St H w σ) (h1 : RT H v1 as_) (h2 : RT H v2 bs) :
    Cl Try.prog 78 [v1, v2] w fun u w' => u = .bool (decide (as_ = bs)) ∧ St H w' σ := by
  obtain ⟨a1, c1, rfl⟩ := h1.shape
  obtain ⟨a2, c2, rfl⟩ := h2.shape
  have hl1 := h1.len.2.2
  refine Cl.of Try.func78 rfl Try.ntmps78 (by simp) (args_cons (k := 0) rfl (args_cons (k := 1) rfl (args0))) ?_
  refine .regSeq (.z zg (.nil (.seq (.regSeq (.z zm (.z (zlen Try.runUnderlying87) (.z zm (.z (zlen Try.runUnderlying87) (.z zneq ?_)))))))))
  refine .nil ?_
  refine (.condN rfl (fun hc10 => ?_) (fun hc10 => ?_))
  · refine .regSeq (.z zg (.nil ?_))
    refine .ret (rT (Fin.ret1 Try.results78 rfl ?_))
    exact ⟨by rw [decide_eq_false (fun h => hc10 (by rw [h]))], hs⟩
  · refine .skip ?_
    refine nT ?_
    refine .seq (.regSeq (.z zm (.z (zlen Try.runUnderlying87) (.z zm (.nil ?_)))))
    refine .for (N := as_.length) (J := fun k fr w => fr = [(0, .slice a1 as_.length c1), (1, .slice a2 bs.length c2)] ∧ (∀ j < k, as_[j]? = bs[j]?) ∧ St H w σ) (by omega) ?_ ?_ ?_
    · exact .mk ⟨rfl, fun j hj => by omega, hs⟩
    · rintro k fr w hk ⟨rfl, h0, hs⟩
      have g1 := gr_get (rs := as_) (i := k) hk
      have g2 := gr_get (rs := bs) (i := k) (by omega)
      refine .block (.regSeq (.z zm (.z zg (.nil ?_))))
      refine .seq (.draw mix rfl hs ?_); intro w hs
      refine .z 0 rfl zm ?_; refine .z 1 rfl zm ?_
      refine .ixT (i := 2) hs rfl (by kernel_rfl) .none h1 rfl rfl Try.runUnderlying87 Try.sizeOf22 (show k < _ by omega) (by first | rfl | assumption | omega) ?_; intro b18 o18 a18 c18 hc18 hR18
      refine .r (i := 3) hs rfl (by kernel_rfl) .none (q_loadR rfl Try.isAgg22 hc18) ?_
      refine .z 4 rfl zm ?_; refine .z 5 rfl zm ?_
      refine .ixT (i := 6) hs rfl (by kernel_rfl) .none h2 rfl rfl Try.runUnderlying87 Try.sizeOf22 (show k < _ by omega) (by first | rfl | assumption | omega) ?_; intro b22 o22 a22 c22 hc22 hR22
      refine .r (i := 7) hs rfl (by kernel_rfl) .none (q_loadR rfl Try.isAgg22 hc22) ?_
      refine .e1 (i := 8) (by kernel_rfl) rfl rfl .none hs ?_
      refine .call Try.call31 rfl (ref02_Same_spec hs hR18 hR22) ?_; rintro _ w ⟨rfl, hs⟩
      refine .go ?_
      refine .z 9 rfl znot ?_; refine .done (by kernel_rfl) hs ?_
      refine (.cond rfl (fun hc25 => ?_) (fun hc25 => ?_))
      · refine .regSeq (.z zg (.nil ?_))
        refine .ret (rB (rT (rB (rT (Fin.ret1 Try.results78 rfl ?_)))))
        exact ⟨by rw [decide_eq_false (fun h => by
          subst h
          have h7 := hc25
          rw [g1] at g2
          simp at h7)], hs⟩
      · refine .skip ?_
        refine nB (nT ?_)
        exact .mk ⟨rfl, fun j hj => by
          by_cases e : j = k
          · subst e; rw [g1, g2, show gr as_ j = gr bs j by simpa using hc25]
          · exact h0 j (by omega), hs⟩
    · rintro fr w ⟨rfl, h0, hs⟩
      refine nT ?_
      refine .regSeq (.z zg (.nil ?_))
      refine .ret (Fin.ret1 Try.results78 rfl ?_)
      exact ⟨by rw [decide_eq_true (List.ext_getElem? fun j => by
        by_cases e : j < as_.length
        · exact h0 j e
        · rw [List.getElem?_eq_none (by omega), List.getElem?_eq_none (by omega)])], hs⟩
theorem bound_Value_1 {H : Heap} {w : World} {σ : List Ent} {n : Int} (hs : St H w σ) : Cl Try.prog 169 [I n] w fun v w' => ∃ b, v = .bool b ∧ (b = true ↔ ¬ (-1280000 ≤ n ∧ n ≤ 1280000)) ∧ St H w' σ := by
  refine Cl.of Try.func169 rfl Try.ntmps169 (by simp) (args_cons (k := 0) rfl (args0)) ?_
  refine .regSeq (.z zg (.nil (.regSeq (.z zm ?_))))
  refine .o (.call Try.call160 rfl (bound_within_spec hs) ?_); rintro _ w ⟨rfl, hs⟩
  refine .z znot (.z zg (.nil ?_))
  refine .ret (Fin.ret1 Try.results169 rfl ?_)
  exact ⟨_, rfl, by simp; omega, hs⟩
theorem bound_sum_spec {H : Heap} {w : World} {σ : List Ent} {vw vx : Value} {ws x : List Int} (hs : St H w σ) (hw : RI H vw ws) (hx : RI H vx x) (hz : SizedW ws) (hp : x.length = ws.length ∧ InReach x) :
    Cl Try.prog 170 [vw, vx] w fun u w' => u = I (dotL ws x) ∧ St H w' σ := by
  obtain ⟨aw, cw, rfl⟩ := RI.shape hw
  obtain ⟨ax, cx, rfl⟩ := RI.shape hx
  have hwl := (RI.len hw).2.2
  refine Cl.of Try.func170 rfl Try.ntmps170 (by simp) (args_cons (k := 0) rfl (args_cons (k := 1) rfl (args0))) ?_
  refine .regSeq (.z zg (.nil (.regSeq (.z zg (.nil (.seq (.regSeq (.z zm (.z (zlen Try.runUnderlying22) ?_)))))))))
  refine .z zm (.nil ?_)
  refine .for (N := ws.length) (J := fun k fr w => fr = [(5, I (sumTo (fun v => gi ws v * gi x v) k)), (0, .slice aw ws.length cw), (1, .slice ax x.length cx)] ∧ St H w σ) (by omega) ?_ ?_ ?_
  · exact .mk ⟨rfl, hs⟩
  · rintro k fr w hk ⟨rfl, hs⟩
    have h1 := dotL_bd hz hp (k := k) (by omega)
    have h2 := dotL_bd hz hp (k := k + 1) (by omega)
    have h3 := mul_bd2 hz hp hk
    simp only [sumTo, BB] at h1 h2 h3
    have hkx : k < x.length := by omega
    refine .block (.regSeq (.z zm (.z zg (.nil ?_))))
    refine .draw mix rfl hs ?_; intro w hs
    refine .z 0 rfl zm ?_; refine .z 1 rfl zm ?_; refine .z 2 rfl zm ?_
    refine .ixX (enc := fun x => [I x]) (i := 3) hs rfl (by kernel_rfl) .none hw rfl rfl Try.runUnderlying22 Try.sizeOf3 (gi_get (l := ws) (i := k) (by omega)) (by first | rfl | assumption | omega) ?_; intro b15 o15 hc15; replace hc15 := CellsAt.one hc15
    refine .r (i := 4) hs rfl (by kernel_rfl) .none (q_loadR rfl Try.isAgg3 hc15) ?_
    refine .z 5 rfl zm ?_; refine .z 6 rfl zm ?_
    refine .ixX (enc := fun x => [I x]) (i := 7) hs rfl (by kernel_rfl) .none hx rfl rfl Try.runUnderlying22 Try.sizeOf3 (gi_get (l := x) (i := k) (by omega)) (by first | rfl | assumption | omega) ?_; intro b19 o19 hc19; replace hc19 := CellsAt.one hc19
    refine .r (i := 8) hs rfl (by kernel_rfl) .none (q_loadR rfl Try.isAgg3 hc19) ?_
    refine .z 9 rfl zmul ?_; refine .z 10 rfl zadd ?_; refine .z 11 rfl zg ?_; refine .done (by kernel_rfl) hs ?_
    refine nB (nT ?_)
    exact .mk ⟨rfl, hs⟩
  · rintro fr w ⟨rfl, hs⟩
    refine nT ?_
    refine .regSeq (.z zm (.z zg (.nil ?_)))
    refine .ret (Fin.ret1 Try.results170 rfl ?_)
    exact ⟨rfl, hs⟩
theorem bound_Value_spec {H : Heap} {w : World} {σ : List Ent} {vw vx : Value} {ws x : List Int} (hs : St H w σ) (hw : RI H vw ws) (hx : RI H vx x) :
    Cl Try.prog 81 [vw, vx] w fun u w' => ∃ n e, u = .tuple #[I n, I e] ∧ ValueR ws x n e ∧ St H w' σ := by
  obtain ⟨aw, cw, rfl⟩ := RI.shape hw
  obtain ⟨ax, cx, rfl⟩ := RI.shape hx
  have hwl := (RI.len hw).2.2
  have hxl := (RI.len hx).2.2
  refine Cl.of Try.func81 rfl Try.ntmps81 (by simp) (args_cons (k := 0) rfl (args_cons (k := 1) rfl (args0))) ?_
  refine .regSeq (.z zg (.z zg (.nil (.seq (.regSeq (.z zm (.z (zlen Try.runUnderlying22) (.z zgtr (.z zm ?_)))))))))
  refine .bifD (t' := 9) rfl (fun hb9 => ?_) (fun hb9 => ?_)
  · refine .gFs 3 3 false rfl rfl rfl ?_
    refine .z zpT (.nil ?_)
    refine (.condT rfl rfl ?_)
    refine .regSeq (.z zg (.z zg (.nil ?_)))
    refine .ret (rT (Fin.ret2 Try.results81 rfl rfl ?_))
    exact ⟨_, _, rfl, .wt (fun h => by omega), hs⟩
  · refine .gT rfl rfl ?_
    refine .z zm ?_
    refine .gT rfl rfl ?_
    refine .o (.call Try.call168 rfl (bound_isSized_spec hs hw) ?_); rintro _ w ⟨bb, rfl, hbb, hs⟩
    refine .gT rfl rfl ?_
    refine .z znot (.z zpF (.nil ?_))
    refine (.cond rfl (fun hc13 => ?_) (fun hc13 => ?_))
    · refine .regSeq (.z zg (.z zg (.nil ?_)))
      refine .ret (rT (Fin.ret2 Try.results81 rfl rfl ?_))
      exact ⟨_, _, rfl, .wt (fun h => by rw [hbb.2 h.2] at hc13; cases hc13), hs⟩
    · refine .skip ?_
      refine nT ?_
      refine .seq (.regSeq (.z zm (.z (zlen Try.runUnderlying22) (.z zm (.z (zlen Try.runUnderlying22) ?_)))))
      have hok : ws.length ≤ 65 ∧ SizedW ws := ⟨by omega, hbb.1 (by simpa using hc13)⟩
      refine .z zneq (.z zm ?_)
      refine .bifN (t' := 19) rfl (fun hb19 => ?_) (fun hb19 => ?_)
      · refine .gFs 2 5 false rfl rfl rfl ?_
        refine .z zpT (.nil ?_)
        refine (.condT rfl rfl ?_)
        refine .regSeq (.z zg (.z zg (.nil ?_)))
        refine .ret (rT (Fin.ret2 Try.results81 rfl rfl ?_))
        exact ⟨_, _, rfl, .pt hok (fun h => by omega), hs⟩
      · refine .gT rfl rfl ?_
        refine .z zm ?_
        refine .gT rfl rfl ?_
        refine .o (.call Try.call156 rfl (ContainsFunc_int (q := fun n => ¬ (-1280000 ≤ n ∧ n ≤ 1280000)) (cap := []) hs hx Try.call169 (fun w n hs => bound_Value_1 hs)) ?_); rintro _ w ⟨b21, rfl, hb21, hs⟩
        refine .z zpF (.nil ?_)
        refine (.cond rfl (fun hc22 => ?_) (fun hc22 => ?_))
        · refine .regSeq (.z zg (.z zg (.nil ?_)))
          refine .ret (rT (Fin.ret2 Try.results81 rfl rfl ?_))
          exact ⟨_, _, rfl, .pt hok (fun h => by
            obtain ⟨p, h1, h2⟩ := hb21.1 hc22
            exact h2 (h.2 p h1)), hs⟩
        · refine .skip ?_
          refine nT ?_
          refine .regSeq (.z zm (.z zm ?_))
          have hin : InReach x := fun n hn => Classical.byContradiction fun h => by
            rw [hb21.2 ⟨n, hn, h⟩] at hc22; cases hc22
          refine .o (.call Try.call170 rfl (bound_sum_spec hs hw hx hok.2 ⟨by omega, hin⟩) ?_); rintro _ w ⟨rfl, hs⟩
          refine .z zg (.z zg (.nil ?_))
          refine .ret (Fin.ret2 Try.results81 rfl rfl ?_)
          exact ⟨_, _, rfl, .ok hok ⟨by omega, hin⟩, hs⟩
end Go.Proofs.Ytiiokdeehlfeeaa

namespace Go.Proofs.Ytiiokdeehlfeeaa
open Go.MW
set_option maxHeartbeats 1000000 in
theorem ref02_CheckCycle_spec {H : Heap} {w : World} {σ : List Ent} {v vl : Value} {s : Syst} {l : List Int} (hs : St H w σ) (hr : RSy H v s) (hl : RI H vl l) :
    Cl Try.prog 84 [v, vl] w fun u w' => ∃ e, u = I e ∧ RndR s l e ∧ St H w' σ := by
  obtain ⟨ul, rfl, hls⟩ := hr
  obtain ⟨al, cl, rfl⟩ := RL.shape hls
  obtain ⟨ai, ci, rfl⟩ := RI.shape hl
  have hll := (RI.len hl).2.2
  refine Cl.of Try.func84 rfl Try.ntmps84 (by simp) (args_cons (k := 0) rfl (args_cons (k := 1) rfl (args0))) ?_
  refine .regSeq ?_
  refine .o (.box hs rfl rfl ?_); intro b2 w hs
  refine .z zg (.nil (.regSeq (.y hs (zls [_, _] Try.isAgg32 Try.sizeOf32) ?_)))
  refine .o (.call Try.call73 rfl (ref02_Check_spec (s := s) hs ⟨_, rfl, hls⟩) ?_); rintro _ w ⟨rfl, hs⟩
  refine .z zg (.nil (.seq (.regSeq (.z zm (.z zneq (.nil ?_))))))
  refine (.condN rfl (fun hc12 => ?_) (fun hc12 => ?_))
  · refine .regSeq (.z zm (.z zg (.nil ?_)))
    refine .ret (rT (Fin.ret1 Try.results84 rfl ?_))
    exact ⟨_, rfl, .bad hc12, hs.out⟩
  · refine .skip ?_
    refine nT ?_
    refine .seq (.regSeq (.z zm ?_))
    have hok : s.Ok := s.ok_iff.1 (by simpa using hc12)
    have hm0 := hok.len
    refine .z (zlen Try.runUnderlying22) (.z zeql (.z zm ?_))
    refine .bifD (t' := 17) rfl (fun hb17 => ?_) (fun hb17 => ?_)
    · refine .gFs 3 3 false rfl rfl rfl ?_
      refine .z zpT (.nil ?_)
      refine (.condT rfl rfl ?_)
      refine .regSeq (.z zg (.nil ?_))
      refine .ret (rT (Fin.ret1 Try.results84 rfl ?_))
      exact ⟨_, rfl, .no hok (fun h => by have := h.l0; omega), hs.out⟩
    · refine .gT rfl rfl ?_
      refine .z zm ?_
      refine .gT rfl rfl ?_
      refine .z (zlen Try.runUnderlying22) ?_
      refine .gT rfl rfl ?_
      refine .z zgtr (.z zpF (.nil ?_))
      refine (.condD rfl (fun hc21 => ?_) (fun hc21 => ?_))
      · refine .regSeq (.z zg (.nil ?_))
        refine .ret (rT (Fin.ret1 Try.results84 rfl ?_))
        exact ⟨_, rfl, .no hok (fun h => by have := h.l1; omega), hs.out⟩
      · refine .skip ?_
        refine nT ?_
        refine .regSeq (.z zg (.nil (.seq (.regSeq (.z zm (.z (zlen Try.runUnderlying22) (.z zm (.nil ?_))))))))
        refine .for (N := l.length) (J := fun k fr w => fr = [(6, I (sumTo (fun j => (lmA s (gi l j)).M) k)), (22, .slice ai l.length ci), (2, .pointer (some ⟨b2, 0, none⟩)), (1, .slice ai l.length ci)] ∧ (∀ j < k, 0 ≤ gi l j ∧ gi l j < s.lims.length) ∧ (∀ j, j + 1 < k → (lmA s (gi l j)).B = (lmA s (gi l (j + 1))).A) ∧ St H w (.blk b2 [I s.many, .slice al s.lims.length cl] :: σ)) (by omega) ?_ ?_ ?_
        · exact .mk ⟨rfl, fun j hj => by omega, fun j hj => by omega, hs⟩
        · rintro k fr w hk ⟨rfl, hin, hlk, hs⟩
          have hsb := lim_sum_bd hok hin
          refine .block (.regSeq (.z zm ?_))
          refine .ixY hs hl rfl rfl Try.runUnderlying22 Try.sizeOf3 (gi_get (l := l) (i := k) (by omega)) (by first | rfl | assumption | omega) ?_; intro b27 o27 hc27
          refine .q hs (q_loadR rfl Try.isAgg3 hc27) ?_
          refine .z zg (.z zg (.nil (.seq ?_)))
          refine .seq (.draw mix rfl hs ?_); intro w hs
          refine .z 0 rfl zm ?_; refine .z 1 rfl (zfa fa_api_System_1) ?_; refine .y 2 rfl hs Try.isAgg30 ?_; refine .z 3 rfl (zlen Try.runUnderlying30) ?_; refine .z 4 rfl zsub ?_
          refine .e1 (i := 5) (by kernel_rfl) rfl rfl .none hs ?_
          refine .call Try.call111 rfl (ref02_within_spec hs) ?_; rintro _ w ⟨rfl, hs⟩
          refine .go ?_
          refine .z 6 rfl znot ?_; refine .z 7 rfl zm ?_
          refine .bif (t' := 36) rfl (fun hb36 => ?_) (fun hb36 => ?_)
          · refine .qF (i := 8) rfl (by kernel_rfl) rfl rfl ?_
            refine .qF (i := 9) rfl (by kernel_rfl) rfl rfl ?_
            refine .qF (i := 10) rfl (by kernel_rfl) rfl rfl ?_
            refine .qF (i := 11) rfl (by kernel_rfl) rfl rfl ?_
            refine .qF (i := 12) rfl (by kernel_rfl) rfl rfl ?_
            refine .qF (i := 13) rfl (by kernel_rfl) rfl rfl ?_
            refine .qF (i := 14) rfl (by kernel_rfl) rfl rfl ?_
            refine .qF (i := 15) rfl (by kernel_rfl) rfl rfl ?_
            refine .qF (i := 16) rfl (by kernel_rfl) rfl rfl ?_
            refine .qF (i := 17) rfl (by kernel_rfl) rfl rfl ?_
            refine .qF (i := 18) rfl (by kernel_rfl) rfl rfl ?_
            refine .qF (i := 19) rfl (by kernel_rfl) rfl rfl ?_
            refine .qF (i := 20) rfl (by kernel_rfl) rfl rfl ?_
            refine .qF (i := 21) rfl (by kernel_rfl) rfl rfl ?_
            refine .qF (i := 22) rfl (by kernel_rfl) rfl rfl ?_
            refine .qF (i := 23) rfl (by kernel_rfl) rfl rfl ?_
            refine .qF (i := 24) rfl (by kernel_rfl) rfl rfl ?_
            refine .qF (i := 25) rfl (by kernel_rfl) rfl rfl ?_
            refine .qF (i := 26) rfl (by kernel_rfl) rfl rfl ?_
            refine .qF (i := 27) rfl (by kernel_rfl) rfl rfl ?_
            refine .qF (i := 28) rfl (by kernel_rfl) rfl rfl ?_
            refine .z 29 rfl zpT ?_; refine .done (by kernel_rfl) hs ?_
            refine (.condT rfl rfl ?_)
            refine .regSeq (.z zg (.nil ?_))
            refine .ret (rT (rB (rT (rB (rT (Fin.ret1 Try.results84 rfl ?_))))))
            exact ⟨_, rfl, .no hok (fun h => by
              have h9 := h.inn k hk
              have h7 := hb36
              rw [decide_eq_true (show 0 ≤ gi l k ∧ gi l k ≤ (s.lims.length : Int) - 1 by omega)] at h7
              simp at h7), hs.out⟩
          · refine .z 8 rfl zm ?_
            have hik : 0 ≤ gi l k ∧ gi l k ≤ (s.lims.length : Int) - 1 := by simpa using hb36
            have hgk := lmA_get (s := s) (i := gi l k) (by omega)
            obtain ⟨_, _, _, hMk, _⟩ := hok.lim _ (List.mem_of_getElem? hgk)
            refine .z 9 rfl zgtr ?_; refine .z 10 rfl zm ?_
            refine .bifD (t' := 39) rfl (fun hb39 => ?_) (fun hb39 => ?_)
            · refine .z 11 rfl (zfa fa_api_System_1) ?_; refine .y 12 rfl hs Try.isAgg30 ?_; refine .z 13 rfl zm ?_; refine .z 14 rfl zm ?_; refine .z 15 rfl zsub ?_
              have hip := hin (k - 1) (by omega)
              have hgp := lmA_get (s := s) (i := gi l (k - 1)) hip
              refine .ixX (enc := fun x => [I x]) (i := 16) hs rfl (by kernel_rfl) (.some rfl rfl) hl rfl rfl Try.runUnderlying22 Try.sizeOf3 (gi_get (l := l) (i := (k - 1)) (by omega)) (by first | rfl | assumption | omega) ?_; intro b45 o45 hc45; replace hc45 := CellsAt.one hc45
              refine .r (i := 17) hs rfl (by kernel_rfl) (.some rfl rfl) (q_loadR rfl Try.isAgg3 hc45) ?_
              refine .ixX (enc := Lim.c) (i := 18) hs rfl (by kernel_rfl) (.some rfl rfl) hls rfl rfl Try.runUnderlying30 Try.sizeOf100 hgp (by first | rfl | assumption | omega) ?_; intro b47 o47 hc47
              refine .z 19 rfl (zfa fa_api_Limit_1) ?_
              refine .r (i := 20) hs rfl (by kernel_rfl) (.some rfl rfl) (q_loadR rfl Try.isAgg3 (hc47.get 1 rfl)) ?_
              refine .z 21 rfl (zfa fa_api_System_1) ?_; refine .y 22 rfl hs Try.isAgg30 ?_; refine .z 23 rfl zm ?_
              refine .ixX (enc := Lim.c) (i := 24) hs rfl (by kernel_rfl) (.some rfl rfl) hls rfl rfl Try.runUnderlying30 Try.sizeOf100 hgk (by first | rfl | assumption | omega) ?_; intro b53 o53 hc53
              refine .z 25 rfl (zfa fa_api_Limit_0) ?_
              refine .r (i := 26) hs rfl (by kernel_rfl) (.some rfl rfl) (q_loadR rfl Try.isAgg3 (hc53.get 0 rfl)) ?_
              refine .z 27 rfl zneq ?_; refine .z 28 rfl zpT ?_; refine .z 29 rfl zpF ?_; refine .done (by kernel_rfl) hs ?_
              refine (.condN rfl (fun hc58 => ?_) (fun hc58 => ?_))
              · refine .regSeq (.z zg (.nil ?_))
                refine .ret (rT (rB (rT (rB (rT (Fin.ret1 Try.results84 rfl ?_))))))
                exact ⟨_, rfl, .no hok (fun h => by
                  have h9 := h.link (k - 1) (by omega)
                  rw [show (k - 1 + 1) % l.length = k by rw [Nat.sub_add_cancel (by omega)]; exact Nat.mod_eq_of_lt hk] at h9
                  exact hc58 h9), hs.out⟩
              · refine .skip ?_
                refine nT ?_
                refine .region (.z zm (.z (zfa fa_api_System_1) (.y hs (zld Try.isAgg30) (.z zm ?_))))
                refine .ixX (enc := Lim.c) hs hls rfl rfl Try.runUnderlying30 Try.sizeOf100 hgk (by first | rfl | assumption | omega) ?_; intro b63 o63 hc63
                refine .z (zfa fa_api_Limit_2) ?_
                refine .q hs (q_loadR rfl Try.isAgg3 (hc63.get 2 rfl)) ?_
                refine .z zadd (.z zg (.nil ?_))
                refine nB (nT ?_)
                exact .mk ⟨rfl, fun j hj => by
                  by_cases e : j = k
                  · subst e; omega
                  · exact hin j (by omega), fun j hj => by
                  by_cases e : j + 1 = k
                  · rw [← e] at hc58; simpa using hc58
                  · exact hlk j (by omega), hs⟩
            · refine .qF (i := 11) rfl (by kernel_rfl) rfl rfl ?_
              refine .qF (i := 12) rfl (by kernel_rfl) rfl rfl ?_
              refine .qF (i := 13) rfl (by kernel_rfl) rfl rfl ?_
              refine .qF (i := 14) rfl (by kernel_rfl) rfl rfl ?_
              refine .qF (i := 15) rfl (by kernel_rfl) rfl rfl ?_
              refine .qF (i := 16) rfl (by kernel_rfl) rfl rfl ?_
              refine .qF (i := 17) rfl (by kernel_rfl) rfl rfl ?_
              refine .qF (i := 18) rfl (by kernel_rfl) rfl rfl ?_
              refine .qF (i := 19) rfl (by kernel_rfl) rfl rfl ?_
              refine .qF (i := 20) rfl (by kernel_rfl) rfl rfl ?_
              refine .qF (i := 21) rfl (by kernel_rfl) rfl rfl ?_
              refine .qF (i := 22) rfl (by kernel_rfl) rfl rfl ?_
              refine .qF (i := 23) rfl (by kernel_rfl) rfl rfl ?_
              refine .qF (i := 24) rfl (by kernel_rfl) rfl rfl ?_
              refine .qF (i := 25) rfl (by kernel_rfl) rfl rfl ?_
              refine .qF (i := 26) rfl (by kernel_rfl) rfl rfl ?_
              refine .qF (i := 27) rfl (by kernel_rfl) rfl rfl ?_
              refine .z 28 rfl zpF ?_; refine .z 29 rfl zpF ?_; refine .done (by kernel_rfl) hs ?_
              refine (.condF rfl rfl ?_)
              refine .skip ?_
              refine nT ?_
              refine .region (.z zm (.z (zfa fa_api_System_1) (.y hs (zld Try.isAgg30) (.z zm ?_))))
              refine .ixX (enc := Lim.c) hs hls rfl rfl Try.runUnderlying30 Try.sizeOf100 hgk (by first | rfl | assumption | omega) ?_; intro b63 o63 hc63
              refine .z (zfa fa_api_Limit_2) ?_
              refine .q hs (q_loadR rfl Try.isAgg3 (hc63.get 2 rfl)) ?_
              refine .z zadd (.z zg (.nil ?_))
              refine nB (nT ?_)
              exact .mk ⟨rfl, fun j hj => by
                by_cases e : j = k
                · subst e; omega
                · exact hin j (by omega), fun j hj => by omega, hs⟩
        · rintro fr w ⟨rfl, hin, hlk, hs⟩
          have hl0 : 0 < l.length := by omega
          have hie := hin (l.length - 1) (by omega)
          have hif := hin 0 hl0
          have hge := lmA_get (s := s) (i := gi l (l.length - 1)) hie
          have hgf := lmA_get (s := s) (i := gi l 0) hif
          have hwrap : (l.length - 1 + 1) % l.length = 0 := by rw [Nat.sub_add_cancel (by omega)]; exact Nat.mod_self _
          refine nT ?_
          refine .seq ?_
          refine .seq (.draw mix rfl hs ?_); intro w hs
          refine .z 0 rfl (zfa fa_api_System_1) ?_; refine .y 1 rfl hs Try.isAgg30 ?_; refine .z 2 rfl zm ?_; refine .z 3 rfl zm ?_; refine .z 4 rfl (zlen Try.runUnderlying22) ?_; refine .z 5 rfl zsub ?_
          refine .ixX (enc := fun x => [I x]) (i := 6) hs rfl (by kernel_rfl) .none hl rfl rfl Try.runUnderlying22 Try.sizeOf3 (gi_get (l := l) (i := (l.length - 1)) (by omega)) (by first | rfl | assumption | omega) ?_; intro b74 o74 hc74; replace hc74 := CellsAt.one hc74
          refine .r (i := 7) hs rfl (by kernel_rfl) .none (q_loadR rfl Try.isAgg3 hc74) ?_
          refine .ixX (enc := Lim.c) (i := 8) hs rfl (by kernel_rfl) .none hls rfl rfl Try.runUnderlying30 Try.sizeOf100 hge (by first | rfl | assumption | omega) ?_; intro b76 o76 hc76
          refine .z 9 rfl (zfa fa_api_Limit_1) ?_
          refine .r (i := 10) hs rfl (by kernel_rfl) .none (q_loadR rfl Try.isAgg3 (hc76.get 1 rfl)) ?_
          refine .z 11 rfl (zfa fa_api_System_1) ?_; refine .y 12 rfl hs Try.isAgg30 ?_; refine .z 13 rfl zm ?_
          refine .ixX (enc := fun x => [I x]) (i := 14) hs rfl (by kernel_rfl) .none hl rfl rfl Try.runUnderlying22 Try.sizeOf3 (gi_get (l := l) (i := 0) (by omega)) (by first | rfl | assumption | omega) ?_; intro b82 o82 hc82; replace hc82 := CellsAt.one hc82
          refine .r (i := 15) hs rfl (by kernel_rfl) .none (q_loadR rfl Try.isAgg3 hc82) ?_
          refine .ixX (enc := Lim.c) (i := 16) hs rfl (by kernel_rfl) .none hls rfl rfl Try.runUnderlying30 Try.sizeOf100 hgf (by first | rfl | assumption | omega) ?_; intro b84 o84 hc84
          refine .z 17 rfl (zfa fa_api_Limit_0) ?_
          refine .r (i := 18) hs rfl (by kernel_rfl) .none (q_loadR rfl Try.isAgg3 (hc84.get 0 rfl)) ?_
          refine .z 19 rfl zneq ?_; refine .z 20 rfl zm ?_
          refine .bifN (t' := 88) rfl (fun hb88 => ?_) (fun hb88 => ?_)
          · refine .qF (i := 21) rfl (by kernel_rfl) rfl rfl ?_
            refine .qF (i := 22) rfl (by kernel_rfl) rfl rfl ?_
            refine .z 23 rfl zpT ?_; refine .done (by kernel_rfl) hs ?_
            refine (.condT rfl rfl ?_)
            refine .regSeq (.z zg (.nil ?_))
            refine .ret (rT (Fin.ret1 Try.results84 rfl ?_))
            exact ⟨_, rfl, .no hok (fun h => by
              have h9 := h.link (l.length - 1) (by omega)
              rw [hwrap] at h9
              exact hb88 h9), hs.out⟩
          · refine .z 21 rfl zm ?_; refine .z 22 rfl zgeq ?_; refine .z 23 rfl zpF ?_; refine .done (by kernel_rfl) hs ?_
            refine (.condD rfl (fun hc91 => ?_) (fun hc91 => ?_))
            · refine .regSeq (.z zg (.nil ?_))
              refine .ret (rT (Fin.ret1 Try.results84 rfl ?_))
              exact ⟨_, rfl, .no hok (fun h => by have := h.neg; omega), hs.out⟩
            · refine .skip ?_
              refine nT ?_
              refine .regSeq (.z zg (.nil ?_))
              refine .ret (Fin.ret1 Try.results84 rfl ?_)
              exact ⟨_, rfl, .ok hok ⟨hl0, by omega, hin, fun k hk => by
                by_cases e : k + 1 < l.length
                · rw [Nat.mod_eq_of_lt e]; exact hlk k e
                · rw [show k = l.length - 1 by omega, hwrap]; simpa using hb88, by omega⟩, hs.out⟩
set_option maxHeartbeats 1000000 in
theorem bound_CheckCycle_spec {H : Heap} {w : World} {σ : List Ent} {v vl : Value} {s : Syst} {l : List Int} (hs : St H w σ) (hr : RSy H v s) (hl : RI H vl l) :
    Cl Try.prog 83 [v, vl] w fun u w' => ∃ e, u = I e ∧ RndR s l e ∧ St H w' σ := by
  obtain ⟨ul, rfl, hls⟩ := hr
  obtain ⟨al, cl, rfl⟩ := RL.shape hls
  obtain ⟨ai, ci, rfl⟩ := RI.shape hl
  have hll := (RI.len hl).2.2
  refine Cl.of Try.func83 rfl Try.ntmps83 (by simp) (args_cons (k := 0) rfl (args_cons (k := 1) rfl (args0))) ?_
  refine .regSeq ?_
  refine .o (.box hs rfl rfl ?_); intro b2 w hs
  refine .z zg (.nil (.seq (.regSeq (.y hs (zls [_, _] Try.isAgg32 Try.sizeOf32) ?_))))
  refine .o (.call Try.call72 rfl (bound_Check_spec (s := s) hs ⟨_, rfl, hls⟩) ?_); rintro _ w ⟨rfl, hs⟩
  refine .z zg (.nil (.regSeq (.z zm (.z zneq (.nil ?_)))))
  refine (.condN rfl (fun hc13 => ?_) (fun hc13 => ?_))
  · refine .regSeq (.z zm (.z zg (.nil ?_)))
    refine .ret (rT (Fin.ret1 Try.results83 rfl ?_))
    exact ⟨_, rfl, .bad hc13, hs.out⟩
  · refine .skip ?_
    refine nT ?_
    refine .seq (.regSeq (.z zm (.z (zlen Try.runUnderlying22) ?_)))
    have hok : s.Ok := s.ok_iff.1 (by simpa using hc13)
    have hm0 := hok.len
    refine .o (.call Try.call160 rfl (bound_within_spec hs) ?_); rintro _ w ⟨rfl, hs⟩
    refine .z znot (.nil ?_)
    refine (.cond rfl (fun hc18 => ?_) (fun hc18 => ?_))
    · refine .regSeq (.z zg (.nil ?_))
      refine .ret (rT (Fin.ret1 Try.results83 rfl ?_))
      exact ⟨_, rfl, .no hok (fun h => by
        have h0 := h.l0
        have h1 := h.l1
        have h7 := hc18
        rw [decide_eq_true (show (1 : Int) ≤ (l.length : Int) ∧ (l.length : Int) ≤ 400 by omega)] at h7
        simp at h7), hs.out⟩
    · refine .skip ?_
      refine nT ?_
      refine .regSeq (.z zg (.nil (.seq (.regSeq (.z zm (.z (zlen Try.runUnderlying22) (.z zm (.nil ?_))))))))
      refine .for (N := l.length) (J := fun k fr w => fr = [(6, I (sumTo (fun j => (lmA s (gi l j)).M) k)), (19, .slice ai l.length ci), (2, .pointer (some ⟨b2, 0, none⟩)), (1, .slice ai l.length ci)] ∧ (∀ j < k, 0 ≤ gi l j ∧ gi l j < s.lims.length) ∧ (∀ j < k, (lmA s (gi l j)).B = (lmA s (gi l ((j + 1) % l.length))).A) ∧ St H w (.blk b2 [I s.many, .slice al s.lims.length cl] :: σ)) (by omega) ?_ ?_ ?_
      · exact .mk ⟨rfl, fun j hj => by omega, fun j hj => by omega, hs⟩
      · have hlen : (1 : Int) ≤ (l.length : Int) ∧ (l.length : Int) ≤ 400 := by simpa using hc18
        rintro k fr w hk ⟨rfl, hin, hlk, hs⟩
        have hsb := lim_sum_bd hok hin
        have hmd := Nat.mod_lt (k + 1) (y := l.length) (by omega)
        have e31 : ((k : Int) + 1).tmod (l.length : Int) = (((k + 1) % l.length : Nat) : Int) := by rw [Int.tmod_eq_emod_of_nonneg (by omega)]; exact (Int.natCast_emod (k + 1) l.length).symm
        refine .block (.regSeq (.z zm ?_))
        refine .ixY hs hl rfl rfl Try.runUnderlying22 Try.sizeOf3 (gi_get (l := l) (i := k) (by omega)) (by first | rfl | assumption | omega) ?_; intro b24 o24 hc24
        refine .q hs (q_loadR rfl Try.isAgg3 hc24) ?_
        refine .z zg (.z zg (.nil (.regSeq (.z zm (.z zm (.z zadd (.z zm (.z (zlen Try.runUnderlying22) (.z zrem ?_)))))))))
        refine .ixY hs hl rfl rfl Try.runUnderlying22 Try.sizeOf3 (gi_get (l := l) (i := ((k + 1) % l.length)) (by omega)) (by first | rfl | assumption | omega) ?_; intro b32 o32 hc32
        refine .q hs (q_loadR rfl Try.isAgg3 hc32) ?_
        refine .z zg (.nil (.seq ?_))
        refine .seq (.draw mix rfl hs ?_); intro w hs
        refine .z 0 rfl zm ?_; refine .z 1 rfl (zfa fa_api_System_1) ?_; refine .y 2 rfl hs Try.isAgg30 ?_; refine .z 3 rfl (zlen Try.runUnderlying30) ?_; refine .z 4 rfl zsub ?_
        refine .e1 (i := 5) (by kernel_rfl) rfl rfl .none hs ?_
        refine .call Try.call160 rfl (bound_within_spec hs) ?_; rintro _ w ⟨rfl, hs⟩
        refine .go ?_
        refine .z 6 rfl znot ?_; refine .z 7 rfl zm ?_
        refine .bif (t' := 41) rfl (fun hb41 => ?_) (fun hb41 => ?_)
        · refine .qF (i := 8) rfl (by kernel_rfl) rfl rfl ?_
          refine .qF (i := 9) rfl (by kernel_rfl) rfl rfl ?_
          refine .qF (i := 10) rfl (by kernel_rfl) rfl rfl ?_
          refine .qF (i := 11) rfl (by kernel_rfl) rfl rfl ?_
          refine .qF (i := 12) rfl (by kernel_rfl) rfl rfl ?_
          refine .qF (i := 13) rfl (by kernel_rfl) rfl rfl ?_
          refine .qF (i := 14) rfl (by kernel_rfl) rfl rfl ?_
          refine .z 15 rfl zpT ?_; refine .z 16 rfl zm ?_
          refine .qF (i := 17) rfl (by kernel_rfl) rfl rfl ?_
          refine .qF (i := 18) rfl (by kernel_rfl) rfl rfl ?_
          refine .qF (i := 19) rfl (by kernel_rfl) rfl rfl ?_
          refine .qF (i := 20) rfl (by kernel_rfl) rfl rfl ?_
          refine .qF (i := 21) rfl (by kernel_rfl) rfl rfl ?_
          refine .qF (i := 22) rfl (by kernel_rfl) rfl rfl ?_
          refine .qF (i := 23) rfl (by kernel_rfl) rfl rfl ?_
          refine .qF (i := 24) rfl (by kernel_rfl) rfl rfl ?_
          refine .qF (i := 25) rfl (by kernel_rfl) rfl rfl ?_
          refine .qF (i := 26) rfl (by kernel_rfl) rfl rfl ?_
          refine .qF (i := 27) rfl (by kernel_rfl) rfl rfl ?_
          refine .qF (i := 28) rfl (by kernel_rfl) rfl rfl ?_
          refine .qF (i := 29) rfl (by kernel_rfl) rfl rfl ?_
          refine .z 30 rfl zpT ?_; refine .done (by kernel_rfl) hs ?_
          refine (.condT rfl rfl ?_)
          refine .regSeq (.z zg (.nil ?_))
          refine .ret (rT (rB (rT (rB (rT (Fin.ret1 Try.results83 rfl ?_))))))
          exact ⟨_, rfl, .no hok (fun h => by
            have h9 := h.inn k hk
            have h7 := hb41
            rw [decide_eq_true (show 0 ≤ gi l k ∧ gi l k ≤ (s.lims.length : Int) - 1 by omega)] at h7
            simp at h7), hs.out⟩
        · have hik : 0 ≤ gi l k ∧ gi l k ≤ (s.lims.length : Int) - 1 := by simpa using hb41
          have hgk := lmA_get (s := s) (i := gi l k) (by omega)
          obtain ⟨_, _, _, hMk, _⟩ := hok.lim _ (List.mem_of_getElem? hgk)
          refine .z 8 rfl zm ?_; refine .z 9 rfl (zfa fa_api_System_1) ?_; refine .y 10 rfl hs Try.isAgg30 ?_; refine .z 11 rfl (zlen Try.runUnderlying30) ?_; refine .z 12 rfl zsub ?_
          refine .e1 (i := 13) (by kernel_rfl) rfl rfl (.some rfl rfl) hs ?_
          refine .call Try.call160 rfl (bound_within_spec hs) ?_; rintro _ w ⟨rfl, hs⟩
          refine .go ?_
          refine .z 14 rfl znot ?_; refine .z 15 rfl zpF ?_; refine .z 16 rfl zm ?_
          refine .bif (t' := 50) rfl (fun hb50 => ?_) (fun hb50 => ?_)
          · refine .qF (i := 17) rfl (by kernel_rfl) rfl rfl ?_
            refine .qF (i := 18) rfl (by kernel_rfl) rfl rfl ?_
            refine .qF (i := 19) rfl (by kernel_rfl) rfl rfl ?_
            refine .qF (i := 20) rfl (by kernel_rfl) rfl rfl ?_
            refine .qF (i := 21) rfl (by kernel_rfl) rfl rfl ?_
            refine .qF (i := 22) rfl (by kernel_rfl) rfl rfl ?_
            refine .qF (i := 23) rfl (by kernel_rfl) rfl rfl ?_
            refine .qF (i := 24) rfl (by kernel_rfl) rfl rfl ?_
            refine .qF (i := 25) rfl (by kernel_rfl) rfl rfl ?_
            refine .qF (i := 26) rfl (by kernel_rfl) rfl rfl ?_
            refine .qF (i := 27) rfl (by kernel_rfl) rfl rfl ?_
            refine .qF (i := 28) rfl (by kernel_rfl) rfl rfl ?_
            refine .qF (i := 29) rfl (by kernel_rfl) rfl rfl ?_
            refine .z 30 rfl zpT ?_; refine .done (by kernel_rfl) hs ?_
            refine (.condT rfl rfl ?_)
            refine .regSeq (.z zg (.nil ?_))
            refine .ret (rT (rB (rT (rB (rT (Fin.ret1 Try.results83 rfl ?_))))))
            exact ⟨_, rfl, .no hok (fun h => by
              have h9 := h.inn ((k + 1) % l.length) hmd
              have h7 := hb50
              rw [decide_eq_true (show 0 ≤ gi l ((k + 1) % l.length) ∧ gi l ((k + 1) % l.length) ≤ (s.lims.length : Int) - 1 by omega)] at h7
              simp at h7), hs.out⟩
          · refine .z 17 rfl (zfa fa_api_System_1) ?_; refine .y 18 rfl hs Try.isAgg30 ?_
            have hin2 : 0 ≤ gi l ((k + 1) % l.length) ∧ gi l ((k + 1) % l.length) ≤ (s.lims.length : Int) - 1 := by simpa using hb50
            have hgn := lmA_get (s := s) (i := gi l ((k + 1) % l.length)) (by omega)
            refine .z 19 rfl zm ?_
            refine .ixX (enc := Lim.c) (i := 20) hs rfl (by kernel_rfl) (.some rfl rfl) hls rfl rfl Try.runUnderlying30 Try.sizeOf100 hgk (by first | rfl | assumption | omega) ?_; intro b54 o54 hc54
            refine .z 21 rfl (zfa fa_api_Limit_1) ?_
            refine .r (i := 22) hs rfl (by kernel_rfl) (.some rfl rfl) (q_loadR rfl Try.isAgg3 (hc54.get 1 rfl)) ?_
            refine .z 23 rfl (zfa fa_api_System_1) ?_; refine .y 24 rfl hs Try.isAgg30 ?_; refine .z 25 rfl zm ?_
            refine .ixX (enc := Lim.c) (i := 26) hs rfl (by kernel_rfl) (.some rfl rfl) hls rfl rfl Try.runUnderlying30 Try.sizeOf100 hgn (by first | rfl | assumption | omega) ?_; intro b60 o60 hc60
            refine .z 27 rfl (zfa fa_api_Limit_0) ?_
            refine .r (i := 28) hs rfl (by kernel_rfl) (.some rfl rfl) (q_loadR rfl Try.isAgg3 (hc60.get 0 rfl)) ?_
            refine .z 29 rfl zneq ?_; refine .z 30 rfl zpF ?_; refine .done (by kernel_rfl) hs ?_
            refine (.condN rfl (fun hc64 => ?_) (fun hc64 => ?_))
            · refine .regSeq (.z zg (.nil ?_))
              refine .ret (rT (rB (rT (rB (rT (Fin.ret1 Try.results83 rfl ?_))))))
              exact ⟨_, rfl, .no hok (fun h => hc64 (h.link k hk)), hs.out⟩
            · refine .skip ?_
              refine nT ?_
              refine .region (.z zm (.z (zfa fa_api_System_1) (.y hs (zld Try.isAgg30) (.z zm ?_))))
              refine .ixX (enc := Lim.c) hs hls rfl rfl Try.runUnderlying30 Try.sizeOf100 hgk (by first | rfl | assumption | omega) ?_; intro b69 o69 hc69
              refine .z (zfa fa_api_Limit_2) ?_
              refine .q hs (q_loadR rfl Try.isAgg3 (hc69.get 2 rfl)) ?_
              refine .z zadd (.z zg (.nil ?_))
              refine nB (nT ?_)
              exact .mk ⟨rfl, fun j hj => by
                by_cases e : j = k
                · subst e; omega
                · exact hin j (by omega), fun j hj => by
                by_cases e : j = k
                · subst e; simpa using hc64
                · exact hlk j (by omega), hs⟩
      · have hlen : (1 : Int) ≤ (l.length : Int) ∧ (l.length : Int) ≤ 400 := by simpa using hc18
        rintro fr w ⟨rfl, hin, hlk, hs⟩
        refine nT ?_
        refine .seq (.regSeq (.z zm (.z zgeq (.nil ?_))))
        refine (.condD rfl (fun hc75 => ?_) (fun hc75 => ?_))
        · refine .regSeq (.z zg (.nil ?_))
          refine .ret (rT (Fin.ret1 Try.results83 rfl ?_))
          exact ⟨_, rfl, .no hok (fun h => by have := h.neg; omega), hs.out⟩
        · refine .skip ?_
          refine nT ?_
          refine .regSeq (.z zg (.nil ?_))
          refine .ret (Fin.ret1 Try.results83 rfl ?_)
          exact ⟨_, rfl, .ok hok ⟨by omega, by omega, hin, hlk, by omega⟩, hs.out⟩
end Go.Proofs.Ytiiokdeehlfeeaa

namespace Go.Proofs.Ytiiokdeehlfeeaa
open Go.MW
theorem CycR.round {s : Syst} {xs : List Int} (h : CycR s xs 0) (hn : ¬ s.Sound) : RoundP s xs ∧ xs.length ≤ s.n := by
  generalize hz : (0 : Int) = y at h
  cases h with
  | bad h => exact (h hz.symm).elim
  | sound _ h1 _ => exact (hn h1).elim
  | @chain st x z k hok h1 h2 h3 h4 h5 h6 h7 =>
    obtain ⟨r, hN, hr⟩ := h2
    have hr' := hr (by simp)
    have hxin := hok.arcs.2 x (hN.ovm x rfl)
    have hreal := par_real hN hr' hxin.2.1
    have hre : ∀ i, ga st.by_ (parK st.by_ z i) ∈ s.arcs ∧ (ga st.by_ (parK st.by_ z i)).t = parK st.by_ z i := fun i => by
      have := hreal (s.n + 1 + i)
      rw [parK_add, ← h3] at this
      exact this
    have hlim : ∀ i, 0 ≤ (ga st.by_ (parK st.by_ z i)).l ∧ (ga st.by_ (parK st.by_ z i)).l < s.lims.length ∧ (lmA s (ga st.by_ (parK st.by_ z i)).l).A = ((ga st.by_ (parK st.by_ z i)).f : Int) ∧ (lmA s (ga st.by_ (parK st.by_ z i)).l).B = ((ga st.by_ (parK st.by_ z i)).t : Int) ∧ (lmA s (ga st.by_ (parK st.by_ z i)).l).M = (ga st.by_ (parK st.by_ z i)).c := fun i => by
      obtain ⟨q, l, g1, g2⟩ := arcsOf_mem (hre i).1
      rw [g2]
      have hq := (List.getElem?_eq_some_iff.1 g1).1
      have ha := hok.arc (List.mem_of_getElem? g1) q
      have e1 : (l.arc q).l = (q : Int) := rfl
      have e2 : lmA s (l.arc q).l = l := by
        rw [e1]
        have := lmA_get (s := s) (i := (q : Int)) (by omega)
        rw [Int.toNat_natCast, g1] at this
        exact (Option.some.inj this).symm
      rw [e2]
      exact ⟨by omega, by omega, ha.1.symm, ha.2.1.symm, rfl⟩
    have hxl : xs.length = k := by rw [h7, List.length_reverse, idxTo_length]
    have hget : ∀ p < k, gi xs p = (ga st.by_ (parK st.by_ z (k - 1 - p))).l := fun p hp => by
      have hp' : p < (idxTo st.by_ z k).reverse.length := by rw [List.length_reverse, idxTo_length]; exact hp
      have := gi_get hp'
      rw [List.getElem?_reverse (by simpa using hp'), idxTo_length] at this
      rw [h7]
      have e : (idxTo st.by_ z k)[k - 1 - p]? = some (ga st.by_ (parK st.by_ z (k - 1 - p))).l := by
        simp [idxTo, show k - 1 - p < k by omega]
      rw [e] at this
      exact (Option.some.inj this).symm
    have hpar : ∀ i, (ga st.by_ (parK st.by_ z i)).f = parK st.by_ z (i + 1) := fun _ => rfl
    have hn65 := hok.n65
    refine ⟨⟨by omega, by omega, fun p hp => ?_, fun p hp => ?_, ?_⟩, by omega⟩
    · rw [hget p (by omega)]
      exact ⟨(hlim _).1, (hlim _).2.1⟩
    · rw [hxl] at hp ⊢
      have hm := Nat.mod_lt (p + 1) (show k > 0 by omega)
      rw [hget p hp, hget _ hm, (hlim _).2.2.2.1, (hlim _).2.2.1, (hre _).2, hpar]
      by_cases e : p + 1 < k
      · rw [Nat.mod_eq_of_lt e, show k - 1 - (p + 1) + 1 = k - 1 - p by omega]
      · rw [show p + 1 = k by omega, Nat.mod_self, show k - 1 - 0 + 1 = k by omega, h6, show k - 1 - p = 0 by omega]; rfl
    · rw [hxl, sumTo_congr (g := fun p => (ga st.by_ (parK st.by_ z (k - 1 - p))).c) (fun p hp => by rw [hget p hp, (hlim _).2.2.2.2]), sumTo_rev (fun i => (ga st.by_ (parK st.by_ z i)).c) k]
      have hb := par_back (b := st.by_) (v := z) (k := k) fun i _ => (hlim i).1
      rw [h6] at hb
      obtain ⟨k', rfl⟩ : ∃ k', k = k' + 1 := ⟨k - 1, by omega⟩
      refine hN.cyc z ?_ k' _ hb
      have := (hok.arcs.2 _ (hre 0).1).2.1
      rw [(hre 0).2] at this
      exact this
set_option maxHeartbeats 2000000 in
theorem law_BoundEither_walk {H : Heap} {w : World} {σ : List Ent} {v vp vx : Value} {s : Syst} {picks y : List Int} (hs : St H w σ) (hr : RSy H v s) (hp : RI H vp picks) (hy : RI H vx y) :
    Cl Try.prog 18 [v, vp, vx] w fun v w' => v = .bool true ∧ ∃ H', HLe H H' ∧ St H' w' σ := by
  obtain ⟨ul, rfl, hl⟩ := hr
  obtain ⟨al, cl, rfl⟩ := RL.shape hl
  obtain ⟨ap, cp, rfl⟩ := RI.shape hp
  obtain ⟨ay, cy, rfl⟩ := RI.shape hy
  refine Cl.of Try.func18 rfl Try.ntmps18 (by simp) (args_cons (k := 0) rfl (args_cons (k := 1) rfl (args_cons (k := 2) rfl (args0)))) ?_
  refine .regSeq ?_
  refine .o (.box hs rfl rfl ?_); intro b3 w hs
  refine .z zg (.nil (.regSeq (.y hs (zls [_, _] Try.isAgg32 Try.sizeOf32) (.z zm ?_))))
  refine .o (.call Try.call53 rfl (bound_Point_spec (s := s) hs ⟨_, rfl, hl⟩ hp) ?_); rintro _ w ⟨H1, vx1, x, e, hle1, rfl, hRx, hPx, hs⟩
  obtain ⟨ax, cx, rfl⟩ := RI.shape hRx
  refine .z zm (.z zex (.z zex (.z zg (.z zg (.nil (.regSeq (.y hs (zls [_, _] Try.isAgg32 Try.sizeOf32) ?_)))))))
  refine .o (.call Try.call86 rfl (bound_Cycle_spec (s := s) hs ⟨_, rfl, hl.mono hle1⟩) ?_); rintro _ w ⟨H2, vc, xs, f, hle2, rfl, hRc, hC, hs⟩
  obtain ⟨ac, cc, rfl⟩ := RI.shape hRc
  obtain rfl := hC.err
  have hle12 := hle1.trans hle2
  replace hRx := hRx.mono hle2
  have hcase : (s.check ≠ 0 ∧ e = s.check) ∨ (s.check = 0 ∧ e = 23 ∧ ¬ s.Sound) ∨ (s.check = 0 ∧ e = 0 ∧ s.Sound ∧ PointP s picks x) := by
    cases hPx with
    | bad h => exact .inl ⟨h, rfl⟩
    | clash h h1 => exact .inr (.inl ⟨s.ok_iff.2 h, rfl, h1⟩)
    | ok h h1 h2 => exact .inr (.inr ⟨s.ok_iff.2 h, rfl, h1, h2⟩)
  have hef : (s.check ≠ 0 ∧ e = s.check) ∨ (s.check = 0 ∧ e = 23) ∨ (s.check = 0 ∧ e = 0) := by
    rcases hcase with h | ⟨h1, h2, _⟩ | ⟨h1, h2, _⟩
    · exact .inl h
    · exact .inr (.inl ⟨h1, h2⟩)
    · exact .inr (.inr ⟨h1, h2⟩)
  refine .z zm (.z zex (.z zex (.z zg (.z zg (.nil (.seq (.regSeq (.y hs (zls [_, _] Try.isAgg32 Try.sizeOf32) ?_))))))))
  refine .o (.call Try.call73 rfl (ref02_Check_spec (s := s) hs ⟨_, rfl, hl.mono hle12⟩) ?_); rintro _ w ⟨rfl, hs⟩
  refine .z zneq (.nil ?_)
  refine (.condN rfl (fun hc24 => ?_) (fun hc24 => ?_))
  · refine .regSeq (.z zm (.y hs (zls [_, _] Try.isAgg32 Try.sizeOf32) ?_))
    refine .o (.call Try.call73 rfl (ref02_Check_spec (s := s) hs ⟨_, rfl, hl.mono hle12⟩) ?_); rintro _ w ⟨rfl, hs⟩
    refine .z zeql (.z zm ?_)
    refine .bifD (t' := 29) rfl (fun hb29 => ?_) (fun hb29 => ?_)
    · refine .gT rfl rfl ?_
      refine .z zm ?_
      refine .gT rfl rfl ?_
      refine .z zm ?_
      refine .gT rfl rfl ?_
      refine .z zeql (.z zpT (.z zm ?_))
      refine .bifD (t' := 34) rfl (fun hb34 => ?_) (fun hb34 => ?_)
      · refine .gT rfl rfl ?_
        refine .o (.call Try.call54 rfl (law02_sane_spec hs) ?_); rintro _ w ⟨rfl, H3, hle3, hs⟩
        refine .z zpT (.z zg (.nil ?_))
        refine .ret (rT (Fin.ret1 Try.results18 rfl ?_))
        first | (exfalso; omega) | exact ⟨rfl, H3, hle12.trans hle3, hs.out⟩
      · refine .gFs 1 9 true rfl rfl rfl ?_
        refine .z zpF (.z zg (.nil ?_))
        refine .ret (rT (Fin.ret1 Try.results18 rfl ?_))
        first | (exfalso; omega) | exact ⟨rfl, H3, hle12.trans hle3, hs.out⟩
    · refine .gFs 3 4 true rfl rfl rfl ?_
      refine .z zpF (.z zm ?_)
      refine .gFs 1 9 true rfl rfl rfl ?_
      refine .z zpF (.z zg (.nil ?_))
      refine .ret (rT (Fin.ret1 Try.results18 rfl ?_))
      first | (exfalso; omega) | exact ⟨rfl, H3, hle12.trans hle3, hs.out⟩
  · refine .skip ?_
    refine nT ?_
    refine .seq (.regSeq (.z zm (.z zneq (.z zm ?_))))
    refine .bifN (t' := 39) rfl (fun hb39 => ?_) (fun hb39 => ?_)
    · refine .gFs 3 2 false rfl rfl rfl ?_
      refine .gFs 2 5 true rfl rfl rfl ?_
      refine .gFs 1 2 false rfl rfl rfl ?_
      refine .z zpT (.nil ?_)
      refine (.condT rfl rfl ?_)
      refine .regSeq (.z zg (.nil ?_))
      refine .ret (rT (Fin.ret1 Try.results18 rfl ?_))
      first | (exfalso; omega) | exact ⟨rfl, H3, hle12.trans hle3, hs.out⟩
    · refine .gT rfl rfl ?_
      refine .z zm ?_
      refine .gT rfl rfl ?_
      refine .z zneq ?_
      refine .gT rfl rfl ?_
      refine .z zm ?_
      refine .bifN (t' := 42) rfl (fun hb42 => ?_) (fun hb42 => ?_)
      · refine .gT rfl rfl ?_
        refine .z zm ?_
        refine .gT rfl rfl ?_
        refine .z zneq ?_
        refine .gT rfl rfl ?_
        refine .z zpT (.z zpF (.nil ?_))
        refine (.condN rfl (fun hc46 => ?_) (fun hc46 => ?_))
        · refine .regSeq (.z zg (.nil ?_))
          refine .ret (rT (Fin.ret1 Try.results18 rfl ?_))
          first | (exfalso; omega) | exact ⟨rfl, H3, hle12.trans hle3, hs.out⟩
        · refine .skip ?_
          refine nT ?_
          refine .seq (.regSeq (.z zm (.z zeql (.nil ?_))))
          refine (.condD rfl (fun hc48 => ?_) (fun hc48 => ?_))
          · refine .regSeq (.z zm ?_)
            obtain ⟨hsd, hPP⟩ : s.Sound ∧ PointP s picks x := by
              rcases hcase with ⟨h1, h2⟩ | ⟨_, h2, _⟩ | ⟨_, _, h⟩
              · omega
              · omega
              · exact h
            have hok : s.Ok := s.ok_iff.1 (by omega)
            obtain ⟨f1, f2, f3, f4⟩ := hPP.feas hok hsd
            have hK : KeepsP s x := ⟨f1, f2, f3, f4⟩
            have hC0 : CycR s xs 0 := by rw [← s.ok_iff.2 hok]; exact hC
            have hx0 := hC0.sound_iff.2 hsd
            have hxl : xs.length = 0 := by rw [hx0]; rfl
            refine .z (zlen Try.runUnderlying22) (.z zeql (.z zm ?_))
            refine .bifD (t' := 52) rfl (fun hb52 => ?_) (fun hb52 => ?_)
            · refine .gT rfl rfl ?_
              refine .y hs (zls [_, _] Try.isAgg32 Try.sizeOf32) ?_
              refine .gT rfl rfl ?_
              refine .z zm ?_
              refine .gT rfl rfl ?_
              refine .o (.call Try.call85 rfl (bound_CheckPoint_spec (s := s) hs ⟨_, rfl, hl.mono hle12⟩ hRx) ?_); rintro _ w ⟨g, rfl, hg, hs⟩
              obtain rfl := hg.uniq (.ok hok hK)
              refine .gT rfl rfl ?_
              refine .z zeql (.z zpT (.z zm ?_))
              refine .bifD (t' := 58) rfl (fun hb58 => ?_) (fun hb58 => ?_)
              · refine .gT rfl rfl ?_
                refine .y hs (zls [_, _] Try.isAgg32 Try.sizeOf32) ?_
                refine .gT rfl rfl ?_
                refine .z zm ?_
                refine .gT rfl rfl ?_
                refine .o (.call Try.call49 rfl (ref02_CheckPoint_spec (s := s) hs ⟨_, rfl, hl.mono hle12⟩ hRx) ?_); rintro _ w ⟨g, rfl, hg, hs⟩
                obtain rfl := hg.uniq (.ok hok hK)
                refine .gT rfl rfl ?_
                refine .z zeql (.z zpT (.z zm ?_))
                refine .bifD (t' := 64) rfl (fun hb64 => ?_) (fun hb64 => ?_)
                · refine .gT rfl rfl ?_
                  refine .o (.call Try.call54 rfl (law02_sane_spec hs) ?_); rintro _ w ⟨rfl, H3, hle3, hs⟩
                  refine .z zpT (.z zg (.nil ?_))
                  refine .ret (rT (Fin.ret1 Try.results18 rfl ?_))
                  first | (exfalso; omega) | exact ⟨rfl, H3, hle12.trans hle3, hs.out⟩
                · refine .gFs 1 15 true rfl rfl rfl ?_
                  refine .z zpF (.z zg (.nil ?_))
                  refine .ret (rT (Fin.ret1 Try.results18 rfl ?_))
                  first | (exfalso; omega) | exact ⟨rfl, H3, hle12.trans hle3, hs.out⟩
              · refine .gFs 4 9 true rfl rfl rfl ?_
                refine .z zpF (.z zm ?_)
                refine .gFs 1 15 true rfl rfl rfl ?_
                refine .z zpF (.z zg (.nil ?_))
                refine .ret (rT (Fin.ret1 Try.results18 rfl ?_))
                first | (exfalso; omega) | exact ⟨rfl, H3, hle12.trans hle3, hs.out⟩
            · refine .gFs 4 3 true rfl rfl rfl ?_
              refine .z zpF (.z zm ?_)
              refine .gFs 4 9 true rfl rfl rfl ?_
              refine .z zpF (.z zm ?_)
              refine .gFs 1 15 true rfl rfl rfl ?_
              refine .z zpF (.z zg (.nil ?_))
              refine .ret (rT (Fin.ret1 Try.results18 rfl ?_))
              first | (exfalso; omega) | exact ⟨rfl, H3, hle12.trans hle3, hs.out⟩
          · refine .skip ?_
            refine nT ?_
            refine .regSeq (.z zm ?_)
            have hns : ¬ s.Sound := by
              rcases hcase with ⟨h1, h2⟩ | ⟨_, _, h⟩ | ⟨_, h2, _⟩
              · omega
              · exact h
              · omega
            have hok : s.Ok := s.ok_iff.1 (by omega)
            have hm0 := hok.m0
            have hm1 := hok.m1
            have hnn : (s.n : Int) = s.many + 1 := by simp only [Syst.n]; omega
            have hC0 : CycR s xs 0 := by rw [← s.ok_iff.2 hok]; exact hC
            obtain ⟨hRP, hxl⟩ := hC0.round hns
            have hx1 := hRP.l0
            refine .z (zlen Try.runUnderlying22) (.z zgtr (.z zm ?_))
            refine .bifD (t' := 70) rfl (fun hb70 => ?_) (fun hb70 => ?_)
            · refine .gT rfl rfl ?_
              refine .z zm ?_
              refine .gT rfl rfl ?_
              refine .z (zlen Try.runUnderlying22) ?_
              refine .gT rfl rfl ?_
              refine .z (zfa fa_api_System_0) ?_
              refine .gT rfl rfl ?_
              refine .y hs (zld Try.isAgg3) ?_
              refine .gT rfl rfl ?_
              refine .z zadd ?_
              refine .gT rfl rfl ?_
              refine .z zleq (.z zpT (.z zm ?_))
              refine .bifD (t' := 78) rfl (fun hb78 => ?_) (fun hb78 => ?_)
              · refine .gT rfl rfl ?_
                refine .y hs (zls [_, _] Try.isAgg32 Try.sizeOf32) ?_
                refine .gT rfl rfl ?_
                refine .z zm ?_
                refine .gT rfl rfl ?_
                refine .o (.call Try.call83 rfl (bound_CheckCycle_spec (s := s) hs ⟨_, rfl, hl.mono hle12⟩ hRc) ?_); rintro _ w ⟨g, rfl, hg, hs⟩
                obtain rfl := hg.uniq (.ok hok hRP)
                refine .gT rfl rfl ?_
                refine .z zeql (.z zpT (.z zm ?_))
                refine .bifD (t' := 84) rfl (fun hb84 => ?_) (fun hb84 => ?_)
                · refine .gT rfl rfl ?_
                  refine .y hs (zls [_, _] Try.isAgg32 Try.sizeOf32) ?_
                  refine .gT rfl rfl ?_
                  refine .z zm ?_
                  refine .gT rfl rfl ?_
                  refine .o (.call Try.call85 rfl (bound_CheckPoint_spec (s := s) hs ⟨_, rfl, hl.mono hle12⟩ (hy.mono hle12)) ?_); rintro _ w ⟨g, rfl, hg, hs⟩
                  obtain rfl := hg.uniq (.off hok fun h => hns ⟨_, h.feas⟩)
                  refine .gT rfl rfl ?_
                  refine .z zeql (.z zpT (.z zm ?_))
                  refine .bifD (t' := 90) rfl (fun hb90 => ?_) (fun hb90 => ?_)
                  · refine .gT rfl rfl ?_
                    refine .o (.call Try.call54 rfl (law02_sane_spec hs) ?_); rintro _ w ⟨rfl, H3, hle3, hs⟩
                    refine .z zpT (.z zg (.nil ?_))
                    refine .ret (Fin.ret1 Try.results18 rfl ?_)
                    first | (exfalso; omega) | exact ⟨rfl, H3, hle12.trans hle3, hs.out⟩
                  · refine .gFs 1 23 true rfl rfl rfl ?_
                    refine .z zpF (.z zg (.nil ?_))
                    refine .ret (Fin.ret1 Try.results18 rfl ?_)
                    first | (exfalso; omega) | exact ⟨rfl, H3, hle12.trans hle3, hs.out⟩
                · refine .gFs 4 17 true rfl rfl rfl ?_
                  refine .z zpF (.z zm ?_)
                  refine .gFs 1 23 true rfl rfl rfl ?_
                  refine .z zpF (.z zg (.nil ?_))
                  refine .ret (Fin.ret1 Try.results18 rfl ?_)
                  first | (exfalso; omega) | exact ⟨rfl, H3, hle12.trans hle3, hs.out⟩
              · refine .gFs 4 11 true rfl rfl rfl ?_
                refine .z zpF (.z zm ?_)
                refine .gFs 4 17 true rfl rfl rfl ?_
                refine .z zpF (.z zm ?_)
                refine .gFs 1 23 true rfl rfl rfl ?_
                refine .z zpF (.z zg (.nil ?_))
                refine .ret (Fin.ret1 Try.results18 rfl ?_)
                first | (exfalso; omega) | exact ⟨rfl, H3, hle12.trans hle3, hs.out⟩
            · refine .gFs 6 3 true rfl rfl rfl ?_
              refine .z zpF (.z zm ?_)
              refine .gFs 4 11 true rfl rfl rfl ?_
              refine .z zpF (.z zm ?_)
              refine .gFs 4 17 true rfl rfl rfl ?_
              refine .z zpF (.z zm ?_)
              refine .gFs 1 23 true rfl rfl rfl ?_
              refine .z zpF (.z zg (.nil ?_))
              refine .ret (Fin.ret1 Try.results18 rfl ?_)
              first | (exfalso; omega) | exact ⟨rfl, H3, hle12.trans hle3, hs.out⟩
      · refine .gFs 2 5 true rfl rfl rfl ?_
        refine .gT rfl rfl ?_
        refine .z zpF (.z zpF (.nil ?_))
        refine (.condF rfl rfl ?_)
        refine .skip ?_
        refine nT ?_
        refine .seq (.regSeq (.z zm (.z zeql (.nil ?_))))
        refine (.condD rfl (fun hc48 => ?_) (fun hc48 => ?_))
        · refine .regSeq (.z zm ?_)
          obtain ⟨hsd, hPP⟩ : s.Sound ∧ PointP s picks x := by
            rcases hcase with ⟨h1, h2⟩ | ⟨_, h2, _⟩ | ⟨_, _, h⟩
            · omega
            · omega
            · exact h
          have hok : s.Ok := s.ok_iff.1 (by omega)
          obtain ⟨f1, f2, f3, f4⟩ := hPP.feas hok hsd
          have hK : KeepsP s x := ⟨f1, f2, f3, f4⟩
          have hC0 : CycR s xs 0 := by rw [← s.ok_iff.2 hok]; exact hC
          have hx0 := hC0.sound_iff.2 hsd
          have hxl : xs.length = 0 := by rw [hx0]; rfl
          refine .z (zlen Try.runUnderlying22) (.z zeql (.z zm ?_))
          refine .bifD (t' := 52) rfl (fun hb52 => ?_) (fun hb52 => ?_)
          · refine .gT rfl rfl ?_
            refine .y hs (zls [_, _] Try.isAgg32 Try.sizeOf32) ?_
            refine .gT rfl rfl ?_
            refine .z zm ?_
            refine .gT rfl rfl ?_
            refine .o (.call Try.call85 rfl (bound_CheckPoint_spec (s := s) hs ⟨_, rfl, hl.mono hle12⟩ hRx) ?_); rintro _ w ⟨g, rfl, hg, hs⟩
            obtain rfl := hg.uniq (.ok hok hK)
            refine .gT rfl rfl ?_
            refine .z zeql (.z zpT (.z zm ?_))
            refine .bifD (t' := 58) rfl (fun hb58 => ?_) (fun hb58 => ?_)
            · refine .gT rfl rfl ?_
              refine .y hs (zls [_, _] Try.isAgg32 Try.sizeOf32) ?_
              refine .gT rfl rfl ?_
              refine .z zm ?_
              refine .gT rfl rfl ?_
              refine .o (.call Try.call49 rfl (ref02_CheckPoint_spec (s := s) hs ⟨_, rfl, hl.mono hle12⟩ hRx) ?_); rintro _ w ⟨g, rfl, hg, hs⟩
              obtain rfl := hg.uniq (.ok hok hK)
              refine .gT rfl rfl ?_
              refine .z zeql (.z zpT (.z zm ?_))
              refine .bifD (t' := 64) rfl (fun hb64 => ?_) (fun hb64 => ?_)
              · refine .gT rfl rfl ?_
                refine .o (.call Try.call54 rfl (law02_sane_spec hs) ?_); rintro _ w ⟨rfl, H3, hle3, hs⟩
                refine .z zpT (.z zg (.nil ?_))
                refine .ret (rT (Fin.ret1 Try.results18 rfl ?_))
                first | (exfalso; omega) | exact ⟨rfl, H3, hle12.trans hle3, hs.out⟩
              · refine .gFs 1 15 true rfl rfl rfl ?_
                refine .z zpF (.z zg (.nil ?_))
                refine .ret (rT (Fin.ret1 Try.results18 rfl ?_))
                first | (exfalso; omega) | exact ⟨rfl, H3, hle12.trans hle3, hs.out⟩
            · refine .gFs 4 9 true rfl rfl rfl ?_
              refine .z zpF (.z zm ?_)
              refine .gFs 1 15 true rfl rfl rfl ?_
              refine .z zpF (.z zg (.nil ?_))
              refine .ret (rT (Fin.ret1 Try.results18 rfl ?_))
              first | (exfalso; omega) | exact ⟨rfl, H3, hle12.trans hle3, hs.out⟩
          · refine .gFs 4 3 true rfl rfl rfl ?_
            refine .z zpF (.z zm ?_)
            refine .gFs 4 9 true rfl rfl rfl ?_
            refine .z zpF (.z zm ?_)
            refine .gFs 1 15 true rfl rfl rfl ?_
            refine .z zpF (.z zg (.nil ?_))
            refine .ret (rT (Fin.ret1 Try.results18 rfl ?_))
            first | (exfalso; omega) | exact ⟨rfl, H3, hle12.trans hle3, hs.out⟩
        · refine .skip ?_
          refine nT ?_
          refine .regSeq (.z zm ?_)
          have hns : ¬ s.Sound := by
            rcases hcase with ⟨h1, h2⟩ | ⟨_, _, h⟩ | ⟨_, h2, _⟩
            · omega
            · exact h
            · omega
          have hok : s.Ok := s.ok_iff.1 (by omega)
          have hm0 := hok.m0
          have hm1 := hok.m1
          have hnn : (s.n : Int) = s.many + 1 := by simp only [Syst.n]; omega
          have hC0 : CycR s xs 0 := by rw [← s.ok_iff.2 hok]; exact hC
          obtain ⟨hRP, hxl⟩ := hC0.round hns
          have hx1 := hRP.l0
          refine .z (zlen Try.runUnderlying22) (.z zgtr (.z zm ?_))
          refine .bifD (t' := 70) rfl (fun hb70 => ?_) (fun hb70 => ?_)
          · refine .gT rfl rfl ?_
            refine .z zm ?_
            refine .gT rfl rfl ?_
            refine .z (zlen Try.runUnderlying22) ?_
            refine .gT rfl rfl ?_
            refine .z (zfa fa_api_System_0) ?_
            refine .gT rfl rfl ?_
            refine .y hs (zld Try.isAgg3) ?_
            refine .gT rfl rfl ?_
            refine .z zadd ?_
            refine .gT rfl rfl ?_
            refine .z zleq (.z zpT (.z zm ?_))
            refine .bifD (t' := 78) rfl (fun hb78 => ?_) (fun hb78 => ?_)
            · refine .gT rfl rfl ?_
              refine .y hs (zls [_, _] Try.isAgg32 Try.sizeOf32) ?_
              refine .gT rfl rfl ?_
              refine .z zm ?_
              refine .gT rfl rfl ?_
              refine .o (.call Try.call83 rfl (bound_CheckCycle_spec (s := s) hs ⟨_, rfl, hl.mono hle12⟩ hRc) ?_); rintro _ w ⟨g, rfl, hg, hs⟩
              obtain rfl := hg.uniq (.ok hok hRP)
              refine .gT rfl rfl ?_
              refine .z zeql (.z zpT (.z zm ?_))
              refine .bifD (t' := 84) rfl (fun hb84 => ?_) (fun hb84 => ?_)
              · refine .gT rfl rfl ?_
                refine .y hs (zls [_, _] Try.isAgg32 Try.sizeOf32) ?_
                refine .gT rfl rfl ?_
                refine .z zm ?_
                refine .gT rfl rfl ?_
                refine .o (.call Try.call85 rfl (bound_CheckPoint_spec (s := s) hs ⟨_, rfl, hl.mono hle12⟩ (hy.mono hle12)) ?_); rintro _ w ⟨g, rfl, hg, hs⟩
                obtain rfl := hg.uniq (.off hok fun h => hns ⟨_, h.feas⟩)
                refine .gT rfl rfl ?_
                refine .z zeql (.z zpT (.z zm ?_))
                refine .bifD (t' := 90) rfl (fun hb90 => ?_) (fun hb90 => ?_)
                · refine .gT rfl rfl ?_
                  refine .o (.call Try.call54 rfl (law02_sane_spec hs) ?_); rintro _ w ⟨rfl, H3, hle3, hs⟩
                  refine .z zpT (.z zg (.nil ?_))
                  refine .ret (Fin.ret1 Try.results18 rfl ?_)
                  first | (exfalso; omega) | exact ⟨rfl, H3, hle12.trans hle3, hs.out⟩
                · refine .gFs 1 23 true rfl rfl rfl ?_
                  refine .z zpF (.z zg (.nil ?_))
                  refine .ret (Fin.ret1 Try.results18 rfl ?_)
                  first | (exfalso; omega) | exact ⟨rfl, H3, hle12.trans hle3, hs.out⟩
              · refine .gFs 4 17 true rfl rfl rfl ?_
                refine .z zpF (.z zm ?_)
                refine .gFs 1 23 true rfl rfl rfl ?_
                refine .z zpF (.z zg (.nil ?_))
                refine .ret (Fin.ret1 Try.results18 rfl ?_)
                first | (exfalso; omega) | exact ⟨rfl, H3, hle12.trans hle3, hs.out⟩
            · refine .gFs 4 11 true rfl rfl rfl ?_
              refine .z zpF (.z zm ?_)
              refine .gFs 4 17 true rfl rfl rfl ?_
              refine .z zpF (.z zm ?_)
              refine .gFs 1 23 true rfl rfl rfl ?_
              refine .z zpF (.z zg (.nil ?_))
              refine .ret (Fin.ret1 Try.results18 rfl ?_)
              first | (exfalso; omega) | exact ⟨rfl, H3, hle12.trans hle3, hs.out⟩
          · refine .gFs 6 3 true rfl rfl rfl ?_
            refine .z zpF (.z zm ?_)
            refine .gFs 4 11 true rfl rfl rfl ?_
            refine .z zpF (.z zm ?_)
            refine .gFs 4 17 true rfl rfl rfl ?_
            refine .z zpF (.z zm ?_)
            refine .gFs 1 23 true rfl rfl rfl ?_
            refine .z zpF (.z zg (.nil ?_))
            refine .ret (Fin.ret1 Try.results18 rfl ?_)
            first | (exfalso; omega) | exact ⟨rfl, H3, hle12.trans hle3, hs.out⟩
set_option maxHeartbeats 2000000 in
theorem law_BoundCloses_walk {H : Heap} {w : World} {σ : List Ent} {v vp vx : Value} {s : Syst} {l y : List Int} (hs : St H w σ) (hr : RSy H v s) (hp : RI H vp l) (hy : RI H vx y) :
    Cl Try.prog 17 [v, vp, vx] w fun v w' => v = .bool true ∧ ∃ H', HLe H H' ∧ St H' w' σ := by
  obtain ⟨ul, rfl, hl⟩ := hr
  obtain ⟨al, cl, rfl⟩ := RL.shape hl
  obtain ⟨ap, cp, rfl⟩ := RI.shape hp
  obtain ⟨ay, cy, rfl⟩ := RI.shape hy
  refine Cl.of Try.func17 rfl Try.ntmps17 (by simp) (args_cons (k := 0) rfl (args_cons (k := 1) rfl (args_cons (k := 2) rfl (args0)))) ?_
  refine .regSeq ?_
  refine .o (.box hs rfl rfl ?_); intro b3 w hs
  refine .z zg (.nil (.regSeq (.y hs (zls [_, _] Try.isAgg32 Try.sizeOf32) ?_)))
  refine .o (.call Try.call52 rfl (bound_Close_spec (s := s) hs ⟨_, rfl, hl⟩) ?_); rintro _ w ⟨H1, v1, e1, hle1, rfl, hC1, hs⟩
  refine .z zm (.z zex (.z zex (.z zg (.z zg (.nil (.regSeq (.y hs (zls [_, _] Try.isAgg32 Try.sizeOf32) ?_)))))))
  refine .o (.call Try.call79 rfl (ref02_Close_spec (s := s) hs ⟨_, rfl, hl.mono hle1⟩) ?_); rintro _ w ⟨H2, v2, e2, hle2, rfl, hC2, hs⟩
  obtain ⟨rfl, rs, hT1, hT2⟩ : e1 = e2 ∧ ∃ rs, RT H2 v1 rs ∧ RT H2 v2 rs := by
    rcases hC1 with ⟨h, rfl, rfl⟩ | ⟨h, h1, rfl, rfl⟩ | ⟨h, h1, rfl, rs, r1, r2, r3⟩ <;> rcases hC2 with ⟨g, rfl, rfl⟩ | ⟨g, g1, rfl, rfl⟩ | ⟨g, g1, rfl, qs, q1, q2, q3⟩
    · exact ⟨rfl, [], RT.nil _, RT.nil _⟩
    · exact (h (s.ok_iff.2 g)).elim
    · exact (h (s.ok_iff.2 g)).elim
    · exact (g (s.ok_iff.2 h)).elim
    · exact ⟨rfl, [], RT.nil _, RT.nil _⟩
    · exact (h1 g1).elim
    · exact (g (s.ok_iff.2 h)).elim
    · exact (g1 h1).elim
    · obtain rfl := rows_same h h1 r2 q2 r3 q3
      exact ⟨rfl, rs, r1.mono hle2, q1⟩
  have hle12 := hle1.trans hle2
  refine .z zm (.z zex (.z zex (.z zg (.z zg (.nil (.regSeq (.y hs (zls [_, _] Try.isAgg32 Try.sizeOf32) (.z zm ?_))))))))
  refine .o (.call Try.call53 rfl (bound_Point_spec (s := s) hs ⟨_, rfl, hl.mono hle12⟩ (hp.mono hle12)) ?_); rintro _ w ⟨H3, v3, x3, e3, hle3, rfl, hR3, hP3, hs⟩
  have hle13 := hle12.trans hle3
  refine .z zm (.z zex (.z zex (.z zg (.z zg (.nil (.regSeq (.y hs (zls [_, _] Try.isAgg32 Try.sizeOf32) (.z zm ?_))))))))
  refine .o (.call Try.call80 rfl (ref02_Point_spec (s := s) hs ⟨_, rfl, hl.mono hle13⟩ (hp.mono hle13)) ?_); rintro _ w ⟨H4, v4, x4, e4, hle4, rfl, hR4, hP4, hs⟩
  obtain ⟨rfl, rfl⟩ := hP3.uniq hP4
  have hle14 := hle13.trans hle4
  replace hR3 := hR3.mono hle4
  refine .z zm (.z zex (.z zex (.z zg (.z zg (.nil (.regSeq (.z zm (.z zm ?_))))))))
  refine .o (.call Try.call81 rfl (bound_Value_spec hs (hp.mono hle14) (hy.mono hle14)) ?_); rintro _ w ⟨n5, e5, rfl, hV5, hs⟩
  refine .z zm (.z zex (.z zex (.z zg (.z zg (.nil (.regSeq (.z zm (.z zm ?_))))))))
  refine .o (.call Try.call82 rfl (ref02_Value_spec hs (hp.mono hle14) (hy.mono hle14)) ?_); rintro _ w ⟨n6, e6, rfl, hV6, hs⟩
  obtain ⟨rfl, rfl⟩ := hV5.uniq hV6
  refine .z zm (.z zex (.z zex (.z zg (.z zg (.nil (.seq (.regSeq (.z zm (.z zm ?_)))))))))
  refine .z zneq (.z zm ?_)
  refine .bifN (t' := 56) rfl (fun hb56 => ?_) (fun hb56 => ?_)
  · refine .gFs 4 3 false rfl rfl rfl ?_
    refine .z zpT (.z zm ?_)
    refine .gFs 3 9 false rfl rfl rfl ?_
    refine .z zpT (.z zm ?_)
    refine .gFs 4 14 false rfl rfl rfl ?_
    refine .z zpT (.z zm ?_)
    refine .gFs 3 20 false rfl rfl rfl ?_
    refine .z zpT (.z zm ?_)
    refine .gFs 3 25 false rfl rfl rfl ?_
    refine .z zpT (.nil ?_)
    refine (.condT rfl rfl ?_)
    refine .regSeq (.z zg (.nil ?_))
    refine .ret (rT (Fin.ret1 Try.results17 rfl ?_))
    first | exact ⟨rfl, H5, hle14.trans hle5, hs.out⟩ | (exfalso; simp_all; done)
  · refine .gT rfl rfl ?_
    refine .z zm ?_
    refine .gT rfl rfl ?_
    refine .z zm ?_
    refine .gT rfl rfl ?_
    refine .o (.call Try.call78 rfl (ref02_SameTable_spec hs (hT1.mono (hle3.trans hle4)) (hT2.mono (hle3.trans hle4))) ?_); rintro _ w ⟨rfl, hs⟩
    rw [decide_eq_true (rfl : rs = rs)]
    refine .gT rfl rfl ?_
    refine .z znot (.z zpF (.z zm ?_))
    refine .bif (t' := 62) rfl (fun hb62 => ?_) (fun hb62 => ?_)
    · refine .gFs 3 9 false rfl rfl rfl ?_
      refine .z zpT (.z zm ?_)
      refine .gFs 4 14 false rfl rfl rfl ?_
      refine .z zpT (.z zm ?_)
      refine .gFs 3 20 false rfl rfl rfl ?_
      refine .z zpT (.z zm ?_)
      refine .gFs 3 25 false rfl rfl rfl ?_
      refine .z zpT (.nil ?_)
      refine (.condT rfl rfl ?_)
      refine .regSeq (.z zg (.nil ?_))
      refine .ret (rT (Fin.ret1 Try.results17 rfl ?_))
      first | exact ⟨rfl, H5, hle14.trans hle5, hs.out⟩ | (exfalso; simp_all; done)
    · refine .gT rfl rfl ?_
      refine .z zm ?_
      refine .gT rfl rfl ?_
      refine .z zm ?_
      refine .gT rfl rfl ?_
      refine .z zneq (.z zpF (.z zm ?_))
      refine .bifN (t' := 67) rfl (fun hb67 => ?_) (fun hb67 => ?_)
      · refine .gFs 4 14 false rfl rfl rfl ?_
        refine .z zpT (.z zm ?_)
        refine .gFs 3 20 false rfl rfl rfl ?_
        refine .z zpT (.z zm ?_)
        refine .gFs 3 25 false rfl rfl rfl ?_
        refine .z zpT (.nil ?_)
        refine (.condT rfl rfl ?_)
        refine .regSeq (.z zg (.nil ?_))
        refine .ret (rT (Fin.ret1 Try.results17 rfl ?_))
        first | exact ⟨rfl, H5, hle14.trans hle5, hs.out⟩ | (exfalso; simp_all; done)
      · refine .gT rfl rfl ?_
        refine .z zm ?_
        refine .gT rfl rfl ?_
        refine .z zm ?_
        refine .gT rfl rfl ?_
        refine .o (.call Try.call31 rfl (ref02_Same_spec hs hR3 hR4) ?_); rintro _ w ⟨rfl, hs⟩
        rw [decide_eq_true (rfl : x3 = x3)]
        refine .gT rfl rfl ?_
        refine .z znot (.z zpF (.z zm ?_))
        refine .bif (t' := 73) rfl (fun hb73 => ?_) (fun hb73 => ?_)
        · refine .gFs 3 20 false rfl rfl rfl ?_
          refine .z zpT (.z zm ?_)
          refine .gFs 3 25 false rfl rfl rfl ?_
          refine .z zpT (.nil ?_)
          refine (.condT rfl rfl ?_)
          refine .regSeq (.z zg (.nil ?_))
          refine .ret (rT (Fin.ret1 Try.results17 rfl ?_))
          first | exact ⟨rfl, H5, hle14.trans hle5, hs.out⟩ | (exfalso; simp_all; done)
        · refine .gT rfl rfl ?_
          refine .z zm ?_
          refine .gT rfl rfl ?_
          refine .z zm ?_
          refine .gT rfl rfl ?_
          refine .z zneq (.z zpF (.z zm ?_))
          refine .bifN (t' := 78) rfl (fun hb78 => ?_) (fun hb78 => ?_)
          · refine .gFs 3 25 false rfl rfl rfl ?_
            refine .z zpT (.nil ?_)
            refine (.condT rfl rfl ?_)
            refine .regSeq (.z zg (.nil ?_))
            refine .ret (rT (Fin.ret1 Try.results17 rfl ?_))
            first | exact ⟨rfl, H5, hle14.trans hle5, hs.out⟩ | (exfalso; simp_all; done)
          · refine .gT rfl rfl ?_
            refine .z zm ?_
            refine .gT rfl rfl ?_
            refine .z zm ?_
            refine .gT rfl rfl ?_
            refine .z zneq (.z zpF (.nil ?_))
            refine (.condN rfl (fun hc82 => ?_) (fun hc82 => ?_))
            · refine .regSeq (.z zg (.nil ?_))
              refine .ret (rT (Fin.ret1 Try.results17 rfl ?_))
              first | exact ⟨rfl, H5, hle14.trans hle5, hs.out⟩ | (exfalso; simp_all; done)
            · refine .skip ?_
              refine nT ?_
              refine .seq (.draw mix rfl hs ?_); intro w hs
              refine .ys 0 rfl hs [_, _] Try.isAgg32 Try.sizeOf32 ?_; refine .z 1 rfl zm ?_; refine .ys 3 rfl hs [_, _] Try.isAgg32 Try.sizeOf32 ?_; refine .z 4 rfl zm ?_
              refine .e1 (i := 2) (by kernel_rfl) rfl rfl .none hs ?_
              refine .call Try.call83 rfl (bound_CheckCycle_spec (s := s) hs ⟨_, rfl, hl.mono hle14⟩ (hp.mono hle14)) ?_; rintro _ w ⟨g1, rfl, hg1, hs⟩
              try obtain rfl := hg2.uniq hg1
              refine .go ?_
              refine .e1 (i := 5) (by kernel_rfl) rfl rfl .none hs ?_
              refine .call Try.call84 rfl (ref02_CheckCycle_spec (s := s) hs ⟨_, rfl, hl.mono hle14⟩ (hp.mono hle14)) ?_; rintro _ w ⟨g2, rfl, hg2, hs⟩
              try obtain rfl := hg1.uniq hg2
              refine .go ?_
              refine .z 6 rfl zeql ?_; refine .z 7 rfl zm ?_
              refine .bifD (t' := 90) rfl (fun hb90 => ?_) (fun hb90 => ?_)
              · refine .ys 8 rfl hs [_, _] Try.isAgg32 Try.sizeOf32 ?_; refine .z 9 rfl zm ?_; refine .ys 11 rfl hs [_, _] Try.isAgg32 Try.sizeOf32 ?_; refine .z 12 rfl zm ?_
                refine .e1 (i := 10) (by kernel_rfl) rfl rfl (.some rfl rfl) hs ?_
                refine .call Try.call85 rfl (bound_CheckPoint_spec (s := s) hs ⟨_, rfl, hl.mono hle14⟩ (hy.mono hle14)) ?_; rintro _ w ⟨g3, rfl, hg3, hs⟩
                try obtain rfl := hg4.uniq hg3
                refine .go ?_
                refine .e1 (i := 13) (by kernel_rfl) rfl rfl (.some rfl rfl) hs ?_
                refine .call Try.call49 rfl (ref02_CheckPoint_spec (s := s) hs ⟨_, rfl, hl.mono hle14⟩ (hy.mono hle14)) ?_; rintro _ w ⟨g4, rfl, hg4, hs⟩
                try obtain rfl := hg3.uniq hg4
                refine .go ?_
                refine .z 14 rfl zeql ?_; refine .z 15 rfl zpT ?_; refine .z 16 rfl zm ?_
                refine .bifD (t' := 99) rfl (fun hb99 => ?_) (fun hb99 => ?_)
                · refine .e1 (i := 17) (by kernel_rfl) rfl rfl (.some rfl rfl) hs ?_
                  refine .call Try.call54 rfl (law02_sane_spec hs) ?_; rintro _ w ⟨rfl, H5, hle5, hs⟩
                  refine .go ?_
                  refine .z 18 rfl zpT ?_; refine .z 19 rfl zg ?_; refine .done (by kernel_rfl) hs ?_
                  refine .ret (Fin.ret1 Try.results17 rfl ?_)
                  first | exact ⟨rfl, H5, hle14.trans hle5, hs.out⟩ | (exfalso; simp_all; done)
                · refine .qF (i := 17) rfl (by kernel_rfl) rfl rfl ?_
                  refine .z 18 rfl zpF ?_; refine .z 19 rfl zg ?_; refine .done (by kernel_rfl) hs ?_
                  refine .ret (Fin.ret1 Try.results17 rfl ?_)
                  first | exact ⟨rfl, H5, hle14.trans hle5, hs.out⟩ | (exfalso; simp_all; done)
              · refine .qF (i := 8) rfl (by kernel_rfl) rfl rfl ?_
                refine .qF (i := 9) rfl (by kernel_rfl) rfl rfl ?_
                refine .qF (i := 10) rfl (by kernel_rfl) rfl rfl ?_
                refine .qF (i := 11) rfl (by kernel_rfl) rfl rfl ?_
                refine .qF (i := 12) rfl (by kernel_rfl) rfl rfl ?_
                refine .qF (i := 13) rfl (by kernel_rfl) rfl rfl ?_
                refine .qF (i := 14) rfl (by kernel_rfl) rfl rfl ?_
                refine .z 15 rfl zpF ?_; refine .z 16 rfl zm ?_
                refine .qF (i := 17) rfl (by kernel_rfl) rfl rfl ?_
                refine .z 18 rfl zpF ?_; refine .z 19 rfl zg ?_; refine .done (by kernel_rfl) hs ?_
                refine .ret (Fin.ret1 Try.results17 rfl ?_)
                first | exact ⟨rfl, H5, hle14.trans hle5, hs.out⟩ | (exfalso; simp_all; done)
set_option maxHeartbeats 2000000 in
theorem law_BoundEnds_walk {H : Heap} {w : World} {σ : List Ent} {v vw : Value} {s : Syst} {ws : List Int} (hs : St H w σ) (hr : RSy H v s) (hw : RI H vw ws) :
    Cl Try.prog 12 [v, vw] w fun v w' => v = .bool true ∧ ∃ H', HLe H H' ∧ St H' w' σ := by
  obtain ⟨ul, rfl, hl⟩ := hr
  obtain ⟨al, cl, rfl⟩ := RL.shape hl
  obtain ⟨aw, cw, rfl⟩ := RI.shape hw
  refine Cl.of Try.func12 rfl Try.ntmps12 (by simp) (args_cons (k := 0) rfl (args_cons (k := 1) rfl (args0))) ?_
  refine .regSeq ?_
  refine .o (.box hs rfl rfl ?_); intro b2 w hs
  refine .z zg (.nil (.regSeq (.y hs (zls [_, _] Try.isAgg32 Try.sizeOf32) (.z zm ?_))))
  refine .o (.call Try.call56 rfl (bound_Most_spec (s := s) hs ⟨_, rfl, hl⟩ hw) ?_); rintro _ w ⟨H1, n1, e1, hle1, rfl, hM1, hs⟩
  refine .z zm (.z zex (.z zex (.z zg (.z zg (.nil (.regSeq (.y hs (zls [_, _] Try.isAgg32 Try.sizeOf32) (.z zm ?_))))))))
  refine .o (.call Try.call59 rfl (ref02_Most_spec (s := s) hs ⟨_, rfl, hl.mono hle1⟩ (hw.mono hle1)) ?_); rintro _ w ⟨H2, n2, e2, hle2, rfl, hM2, hs⟩
  obtain ⟨rfl, rfl⟩ := hM1.uniq hM2
  have hle12 := hle1.trans hle2
  refine .z zm (.z zex (.z zex (.z zg (.z zg (.nil (.regSeq (.y hs (zls [_, _] Try.isAgg32 Try.sizeOf32) (.z zm ?_))))))))
  refine .o (.call Try.call60 rfl (bound_Range_spec (s := s) hs ⟨_, rfl, hl.mono hle12⟩ (hw.mono hle12)) ?_); rintro _ w ⟨H3, lo3, hi3, e3, hle3, rfl, hR3, hs⟩
  have hle13 := hle12.trans hle3
  refine .z zm (.z zex (.z zex (.z zex (.z zg (.z zg (.z zg (.nil (.regSeq (.y hs (zls [_, _] Try.isAgg32 Try.sizeOf32) ?_)))))))))
  refine .z zm ?_
  refine .o (.call Try.call50 rfl (ref02_Range_spec (s := s) hs ⟨_, rfl, hl.mono hle13⟩ (hw.mono hle13)) ?_); rintro _ w ⟨H4, lo4, hi4, e4, hle4, rfl, hR4, hs⟩
  obtain ⟨rfl, rfl, rfl⟩ := hR3.uniq hR4
  have hle14 := hle13.trans hle4
  refine .z zm (.z zex (.z zex (.z zex (.z zg (.z zg (.z zg (.nil (.regSeq (.y hs (zls [_, _] Try.isAgg32 Try.sizeOf32) ?_)))))))))
  refine .z zm ?_
  refine .o (.call Try.call61 rfl (bound_Best_spec (s := s) hs ⟨_, rfl, hl.mono hle14⟩ (hw.mono hle14)) ?_); rintro _ w ⟨H5, v5, x5, e5, hle5, rfl, hA5, hRx, hX0, hX, hs⟩
  obtain rfl := hM1.1.uniq hA5
  obtain ⟨a5, c5, rfl⟩ := RI.shape hRx
  have hle15 := hle14.trans hle5
  refine .z zm (.z zex (.z zex (.z zg (.z zg (.nil (.regSeq (.y hs (zls [_, _] Try.isAgg32 Try.sizeOf32) (.z zm ?_))))))))
  refine .o (.call Try.call62 rfl (bound_Prove_spec (s := s) hs ⟨_, rfl, hl.mono hle15⟩ (hw.mono hle15)) ?_); rintro _ w ⟨H6, v6, n6, us, e6, hle6, rfl, hM6, ⟨u6, rfl, hU6⟩, hU0, hF6, hs⟩
  obtain ⟨rfl, rfl⟩ := hM1.uniq hM6
  obtain ⟨a6, c6, rfl⟩ := RU.shape hU6
  have hle16 := hle15.trans hle6
  replace hRx := hRx.mono hle6
  refine .z zm (.z zex (.z zex ?_))
  refine .o (.alloc hs Try.zeroValue40 rfl ?_); intro b17 w hs
  refine .o (.stores (vs := [_, _]) hs rfl rfl Try.sizeOf40 ?_); intro w hs
  refine .z zg (.nil (.seq (.regSeq (.z zm (.z zm (.z zneq (.z zm ?_)))))))
  refine .bifN (t' := 60) rfl (fun hb60 => ?_) (fun hb60 => ?_)
  · refine .gFs 3 3 false rfl rfl rfl ?_
    refine .z zpT (.z zm ?_)
    refine .gFs 3 8 false rfl rfl rfl ?_
    refine .z zpT (.z zm ?_)
    refine .gFs 3 13 false rfl rfl rfl ?_
    refine .z zpT (.z zm ?_)
    refine .gFs 3 18 false rfl rfl rfl ?_
    refine .z zpT (.z zm ?_)
    refine .gFs 3 23 false rfl rfl rfl ?_
    refine .z zpT (.z zm ?_)
    refine .gFs 3 28 false rfl rfl rfl ?_
    refine .z zpT (.nil ?_)
    refine (.condT rfl rfl ?_)
    refine .regSeq (.z zg (.nil ?_))
    refine .ret (rT (Fin.ret1 Try.results12 rfl ?_))
    first | exact ⟨rfl, H8, hle17.trans hle8, hs.out⟩ | exact ⟨rfl, H7, hle16.trans hle7, hs.out⟩ | (exfalso; omega) | contradiction
  · refine .gT rfl rfl ?_
    refine .z zm ?_
    refine .gT rfl rfl ?_
    refine .z zm ?_
    refine .gT rfl rfl ?_
    refine .z zneq (.z zpF (.z zm ?_))
    refine .bifN (t' := 65) rfl (fun hb65 => ?_) (fun hb65 => ?_)
    · refine .gFs 3 8 false rfl rfl rfl ?_
      refine .z zpT (.z zm ?_)
      refine .gFs 3 13 false rfl rfl rfl ?_
      refine .z zpT (.z zm ?_)
      refine .gFs 3 18 false rfl rfl rfl ?_
      refine .z zpT (.z zm ?_)
      refine .gFs 3 23 false rfl rfl rfl ?_
      refine .z zpT (.z zm ?_)
      refine .gFs 3 28 false rfl rfl rfl ?_
      refine .z zpT (.nil ?_)
      refine (.condT rfl rfl ?_)
      refine .regSeq (.z zg (.nil ?_))
      refine .ret (rT (Fin.ret1 Try.results12 rfl ?_))
      first | exact ⟨rfl, H8, hle17.trans hle8, hs.out⟩ | exact ⟨rfl, H7, hle16.trans hle7, hs.out⟩ | (exfalso; omega) | contradiction
    · refine .gT rfl rfl ?_
      refine .z zm ?_
      refine .gT rfl rfl ?_
      refine .z zm ?_
      refine .gT rfl rfl ?_
      refine .z zneq (.z zpF (.z zm ?_))
      refine .bifN (t' := 70) rfl (fun hb70 => ?_) (fun hb70 => ?_)
      · refine .gFs 3 13 false rfl rfl rfl ?_
        refine .z zpT (.z zm ?_)
        refine .gFs 3 18 false rfl rfl rfl ?_
        refine .z zpT (.z zm ?_)
        refine .gFs 3 23 false rfl rfl rfl ?_
        refine .z zpT (.z zm ?_)
        refine .gFs 3 28 false rfl rfl rfl ?_
        refine .z zpT (.nil ?_)
        refine (.condT rfl rfl ?_)
        refine .regSeq (.z zg (.nil ?_))
        refine .ret (rT (Fin.ret1 Try.results12 rfl ?_))
        first | exact ⟨rfl, H8, hle17.trans hle8, hs.out⟩ | exact ⟨rfl, H7, hle16.trans hle7, hs.out⟩ | (exfalso; omega) | contradiction
      · refine .gT rfl rfl ?_
        refine .z zm ?_
        refine .gT rfl rfl ?_
        refine .z zm ?_
        refine .gT rfl rfl ?_
        refine .z zneq (.z zpF (.z zm ?_))
        refine .bifN (t' := 75) rfl (fun hb75 => ?_) (fun hb75 => ?_)
        · refine .gFs 3 18 false rfl rfl rfl ?_
          refine .z zpT (.z zm ?_)
          refine .gFs 3 23 false rfl rfl rfl ?_
          refine .z zpT (.z zm ?_)
          refine .gFs 3 28 false rfl rfl rfl ?_
          refine .z zpT (.nil ?_)
          refine (.condT rfl rfl ?_)
          refine .regSeq (.z zg (.nil ?_))
          refine .ret (rT (Fin.ret1 Try.results12 rfl ?_))
          first | exact ⟨rfl, H8, hle17.trans hle8, hs.out⟩ | exact ⟨rfl, H7, hle16.trans hle7, hs.out⟩ | (exfalso; omega) | contradiction
        · refine .gT rfl rfl ?_
          refine .z zm ?_
          refine .gT rfl rfl ?_
          refine .z zm ?_
          refine .gT rfl rfl ?_
          refine .z zneq (.z zpF (.z zm ?_))
          refine .bifN (t' := 80) rfl (fun hb80 => ?_) (fun hb80 => ?_)
          · refine .gFs 3 23 false rfl rfl rfl ?_
            refine .z zpT (.z zm ?_)
            refine .gFs 3 28 false rfl rfl rfl ?_
            refine .z zpT (.nil ?_)
            refine (.condT rfl rfl ?_)
            refine .regSeq (.z zg (.nil ?_))
            refine .ret (rT (Fin.ret1 Try.results12 rfl ?_))
            first | exact ⟨rfl, H8, hle17.trans hle8, hs.out⟩ | exact ⟨rfl, H7, hle16.trans hle7, hs.out⟩ | (exfalso; omega) | contradiction
          · refine .gT rfl rfl ?_
            refine .z zm ?_
            refine .gT rfl rfl ?_
            refine .z zm ?_
            refine .gT rfl rfl ?_
            refine .z zneq (.z zpF (.z zm ?_))
            refine .bifN (t' := 85) rfl (fun hb85 => ?_) (fun hb85 => ?_)
            · refine .gFs 3 28 false rfl rfl rfl ?_
              refine .z zpT (.nil ?_)
              refine (.condT rfl rfl ?_)
              refine .regSeq (.z zg (.nil ?_))
              refine .ret (rT (Fin.ret1 Try.results12 rfl ?_))
              first | exact ⟨rfl, H8, hle17.trans hle8, hs.out⟩ | exact ⟨rfl, H7, hle16.trans hle7, hs.out⟩ | (exfalso; omega) | contradiction
            · refine .gT rfl rfl ?_
              refine .z zm ?_
              refine .gT rfl rfl ?_
              refine .z zm ?_
              refine .gT rfl rfl ?_
              refine .z zneq (.z zpF (.nil ?_))
              refine (.condN rfl (fun hc89 => ?_) (fun hc89 => ?_))
              · refine .regSeq (.z zg (.nil ?_))
                refine .ret (rT (Fin.ret1 Try.results12 rfl ?_))
                first | exact ⟨rfl, H8, hle17.trans hle8, hs.out⟩ | exact ⟨rfl, H7, hle16.trans hle7, hs.out⟩ | (exfalso; omega) | contradiction
              · refine .skip ?_
                refine nT ?_
                refine .seq (.regSeq (.z zm (.z zneq (.nil ?_))))
                refine (.condN rfl (fun hc91 => ?_) (fun hc91 => ?_))
                · refine .regSeq ?_
                  have hx0 : x5.length = 0 := by rw [hX0 hc91]; rfl
                  have hu0 : us.length = 0 := by rw [hU0 hc91]; rfl
                  refine .z zm (.z (zlen Try.runUnderlying22) (.z zeql (.z zm ?_)))
                  refine .bifD (t' := 95) rfl (fun hb95 => ?_) (fun hb95 => ?_)
                  · refine .gT rfl rfl ?_
                    refine .z (zfa fa_api_Proof_1) ?_
                    refine .gT rfl rfl ?_
                    refine .y hs (zld Try.isAgg38) ?_
                    refine .gT rfl rfl ?_
                    refine .z (zlen Try.runUnderlying38) ?_
                    refine .gT rfl rfl ?_
                    refine .z zeql (.z zpT (.z zm ?_))
                    refine .bifD (t' := 101) rfl (fun hb101 => ?_) (fun hb101 => ?_)
                    · refine .gT rfl rfl ?_
                      refine .o (.call Try.call54 rfl (law02_sane_spec hs) ?_); rintro _ w ⟨rfl, H7, hle7, hs⟩
                      refine .z zpT (.z zg (.nil ?_))
                      refine .ret (rT (Fin.ret1 Try.results12 rfl ?_))
                      first | exact ⟨rfl, H8, hle17.trans hle8, hs.out⟩ | exact ⟨rfl, H7, hle16.trans hle7, hs.out⟩ | (exfalso; omega) | contradiction
                    · refine .gFs 1 9 true rfl rfl rfl ?_
                      refine .z zpF (.z zg (.nil ?_))
                      refine .ret (rT (Fin.ret1 Try.results12 rfl ?_))
                      first | exact ⟨rfl, H8, hle17.trans hle8, hs.out⟩ | exact ⟨rfl, H7, hle16.trans hle7, hs.out⟩ | (exfalso; omega) | contradiction
                  · refine .gFs 4 3 true rfl rfl rfl ?_
                    refine .z zpF (.z zm ?_)
                    refine .gFs 1 9 true rfl rfl rfl ?_
                    refine .z zpF (.z zg (.nil ?_))
                    refine .ret (rT (Fin.ret1 Try.results12 rfl ?_))
                    first | exact ⟨rfl, H8, hle17.trans hle8, hs.out⟩ | exact ⟨rfl, H7, hle16.trans hle7, hs.out⟩ | (exfalso; omega) | contradiction
                · refine .skip ?_
                  refine nT ?_
                  refine .regSeq ?_
                  subst hc91
                  have hBR := hX rfl
                  obtain ⟨hV, hok, hxl, hx0, hxb, hxf⟩ := hBR.value hM1
                  have hK : KeepsP s x5 := ⟨hxl, hx0, fun v hv => by have := hxb v hv; omega, hxf⟩
                  refine .y hs (zls [_, _] Try.isAgg32 Try.sizeOf32) (.z zm (.z zm ?_))
                  refine .o (.call Try.call63 rfl (ref02_Best_spec (s := s) hs ⟨_, rfl, hl.mono hle16⟩ (hw.mono hle16) hRx) ?_); rintro _ w ⟨H7, b7, hle7, rfl, hb7, hs⟩
                  obtain rfl := hb7.2 ⟨_, hM1, hK, hV⟩
                  have hle17 := hle16.trans hle7
                  refine .z zm ?_
                  refine .bif (t' := 108) rfl (fun hb108 => ?_) (fun hb108 => ?_)
                  · refine .gT rfl rfl ?_
                    refine .y hs (zls [_, _] Try.isAgg32 Try.sizeOf32) ?_
                    refine .gT rfl rfl ?_
                    refine .z zm ?_
                    refine .gT rfl rfl ?_
                    refine .y hs (zls [_, _] Try.isAgg40 Try.sizeOf40) ?_
                    refine .gT rfl rfl ?_
                    refine .o (.call Try.call32 rfl (ref02_CheckProof_spec (s := s) hs ⟨_, rfl, hl.mono hle17⟩ (hw.mono hle17) ⟨_, rfl, hU6.mono hle7⟩) ?_); rintro _ w ⟨e8, rfl, hP8, hs⟩
                    obtain ⟨_, _, ts, hFo, hn6, hus⟩ := hF6 rfl
                    obtain rfl := hP8.uniq (.ok hM1.1.zero.1 (by rw [hn6, hus]; exact flow_proof hok hFo))
                    refine .gT rfl rfl ?_
                    refine .z zeql (.z zpT (.z zm ?_))
                    refine .bifD (t' := 115) rfl (fun hb115 => ?_) (fun hb115 => ?_)
                    · refine .gT rfl rfl ?_
                      refine .z (zfa fa_api_Proof_0) ?_
                      refine .gT rfl rfl ?_
                      refine .y hs (zld Try.isAgg3) ?_
                      refine .gT rfl rfl ?_
                      refine .z zm ?_
                      refine .gT rfl rfl ?_
                      refine .z zeql (.z zpT (.z zm ?_))
                      refine .bifD (t' := 121) rfl (fun hb121 => ?_) (fun hb121 => ?_)
                      · refine .gT rfl rfl ?_
                        refine .o (.call Try.call54 rfl (law02_sane_spec hs) ?_); rintro _ w ⟨rfl, H8, hle8, hs⟩
                        refine .z zpT (.z zg (.nil ?_))
                        refine .ret (Fin.ret1 Try.results12 rfl ?_)
                        first | exact ⟨rfl, H8, hle17.trans hle8, hs.out⟩ | exact ⟨rfl, H7, hle16.trans hle7, hs.out⟩ | (exfalso; omega) | contradiction
                      · refine .gFs 1 17 true rfl rfl rfl ?_
                        refine .z zpF (.z zg (.nil ?_))
                        refine .ret (Fin.ret1 Try.results12 rfl ?_)
                        first | exact ⟨rfl, H8, hle17.trans hle8, hs.out⟩ | exact ⟨rfl, H7, hle16.trans hle7, hs.out⟩ | (exfalso; omega) | contradiction
                    · refine .gFs 4 11 true rfl rfl rfl ?_
                      refine .z zpF (.z zm ?_)
                      refine .gFs 1 17 true rfl rfl rfl ?_
                      refine .z zpF (.z zg (.nil ?_))
                      refine .ret (Fin.ret1 Try.results12 rfl ?_)
                      first | exact ⟨rfl, H8, hle17.trans hle8, hs.out⟩ | exact ⟨rfl, H7, hle16.trans hle7, hs.out⟩ | (exfalso; omega) | contradiction
                  · refine .gFs 5 4 true rfl rfl rfl ?_
                    refine .z zpF (.z zm ?_)
                    refine .gFs 4 11 true rfl rfl rfl ?_
                    refine .z zpF (.z zm ?_)
                    refine .gFs 1 17 true rfl rfl rfl ?_
                    refine .z zpF (.z zg (.nil ?_))
                    refine .ret (Fin.ret1 Try.results12 rfl ?_)
                    first | exact ⟨rfl, H8, hle17.trans hle8, hs.out⟩ | exact ⟨rfl, H7, hle16.trans hle7, hs.out⟩ | (exfalso; omega) | contradiction
end Go.Proofs.Ytiiokdeehlfeeaa
