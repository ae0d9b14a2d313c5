/-
  Texts of these claims, joined: Yf Yg Yh Yl Ym Yr Yw.
-/
import Derived.Test.YtiiokdeehlfeeaaFc
namespace Go.Proofs.Ytiiokdeehlfeeaa
open Go.MW
def backL (L : List Int) : List (List Value) := (List.range L.length).map fun j => [I ((L.length - 1 - j : Nat) : Int), I (gi L (L.length - 1 - j))]
theorem backL_length (L : List Int) : (backL L).length = L.length := by simp [backL]
theorem backL_get {L : List Int} {j : Nat} (h : j < (backL L).length) : (backL L)[j] = [I ((L.length - 1 - j : Nat) : Int), I (gi L (L.length - 1 - j))] := by simp [backL]
theorem slices_Backward_1_iter {H : Heap} {b : Nat} {v : Value} {L : List Int} (hb : Row H b [v]) (hr : RI H v L) : Iter Try.prog 196 [.pointer (some ⟨b, 0, none⟩)] H (backL L) := by
  intro l II Ix _ _ hy H0 σb0 σf w hle hI0 hs
  obtain ⟨a, c, rfl⟩ := RI.shape hr
  have hlen := (RI.len hr).2.2
  have hb0 : cellAt H0 b 0 = some (.slice a L.length c) := cellAt.mono (hb.at 0) hle
  refine Cl.of Try.func196 rfl Try.ntmps196 (by simp) (args_cons (k := 0) rfl (args_cons (k := 1) rfl (args0))) ?_
  refine .regSeq (.y hs (zld Try.isAgg22) (.z (zlen Try.runUnderlying22) (.z zsub (.z zg (.nil (.block ?_))))))
  refine .loop (fun j : Nat => ⟨19, [], [(3, I ((L.length : Int) - 1 - (j : Int))), (0, .func (.yield l) #[] #[]), (1, .pointer (some ⟨b, 0, none⟩))]⟩)
    (fun j w => j ≤ L.length ∧ ∃ H1 σb, HLe H H1 ∧ HLe H0 H1 ∧ II j H1 σb ∧ St H1 w (σb ++ σf)) (fun j => L.length - j) 0 (.consI rfl (by simp) (by repeat (first | exact .nil rfl rfl | refine .cons rfl ?_)))
    ⟨Nat.zero_le _, H0, σb0, hle, HLe.refl _, hI0, hs⟩ ?_
  clear hs hI0
  rintro j w ⟨hj, H1, σb, hle1, hle0, hI, hs⟩
  have hb1 : cellAt H1 b 0 = some (.slice a L.length c) := cellAt.mono hb0 hle0
  refine .seq (.regSeq (.z zm (.z zgeq (.nil ?_))))
  refine (.condD rfl (fun hc8 => ?_) (fun hc8 => ?_))
  · refine .skip ?_
    refine nT ?_
    refine .seq (.block (.regSeq (.z zm (.z zm (.y hs (zld Try.isAgg22) (.z zm ?_))))))
    refine .ixY hs (hr.mono hle1) rfl rfl Try.runUnderlying22 Try.sizeOf3 (gi_get (l := L) (i := L.length - 1 - j) (by omega)) (by omega) ?_; intro b15 o15 hc15
    refine .q hs (q_loadR rfl Try.isAgg3 hc15) ?_
    have hk' : j < (backL L).length := by rw [backL_length]; omega
    have hyd := hy j hk' H1 σb σf w hle1 hI hs
    rw [backL_get hk', show ((L.length - 1 - j : Nat) : Int) = (L.length : Int) - 1 - (j : Int) by omega] at hyd
    refine .o (.yield rfl rfl hyd ?_); rintro v17 w ⟨H2, σ2, g1, hs, g3⟩
    obtain ⟨bb, rfl, gT, gF⟩ := yd_bool g3
    refine .z znot (.nil ?_)
    refine (.cond rfl (fun hc18 => ?_) (fun hc18 => ?_))
    · refine .ret (rB (rT (rT (rB (Fin.ret0 Try.results196 ?_)))))
      exact ⟨H2, σ2, hle0.trans g1, hs, .inr (gF (by simpa using hc18))⟩
    · refine .skip ?_
      refine nB (nT ?_)
      refine .region (.z zm (.z zsub (.z zg (.nil ?_))))
      refine nT ?_
      exact ⟨j + 1, .consI rfl (by simp; omega) (by repeat (first | exact .nil rfl rfl | refine .cons rfl ?_)), ⟨by omega, H2, σ2, hle1.trans g1, hle0.trans g1, gT (by simpa using hc18), hs⟩, by omega⟩
  · refine .exit ?_
    refine xT (xT (xB ?_))
    obtain rfl : L.length = j := by omega
    exact Fin.end0 Try.results196 ⟨H1, σb, hle0, hs, .inl (by rw [backL_length]; exact hI)⟩
theorem slices_Backward_spec {H : Heap} {w : World} {σ : List Ent} {v : Value} {L : List Int} (hs : St H w σ) (hr : RI H v L) :
    Cl Try.prog 150 [v] w fun u w' => ∃ H1 b, HLe H H1 ∧ u = .func (.func 196) #[] #[.pointer (some ⟨b, 0, none⟩)] ∧ Iter Try.prog 196 [.pointer (some ⟨b, 0, none⟩)] H1 (backL L) ∧ St H1 w' σ := by
  obtain ⟨a, c, rfl⟩ := RI.shape hr
  refine Cl.of Try.func150 rfl Try.ntmps150 (by simp) (args_cons (k := 0) rfl (args0)) ?_
  refine .regSeq ?_
  refine .o (.box hs rfl rfl ?_); intro b1 w hs
  refine .z zg (.nil (.regSeq ?_))
  refine .q hs (q_makeFunc (f := []) (c := [_]) rfl rfl) ?_
  refine .z zg (.nil ?_)
  refine .ret (Fin.ret1 Try.results150 rfl ?_)
  obtain ⟨H1, g1, g2, hs⟩ := hs.publish .here
  exact ⟨H1, b1, g1, rfl, slices_Backward_1_iter g2 (hr.mono g1), hs⟩
theorem bound_Conflict_1 {H : Heap} {w : World} {σ : List Ent} {n m : Int} {b : Nat} (hs : St H w σ) (hb : Row H b [I m]) :
    Cl Try.prog 152 [I n, .pointer (some ⟨b, 0, none⟩)] w fun u w' => u = .bool (decide (n = m)) ∧ St H w' σ := by
  have hb0 : cellAt H b 0 = some (I m) := hb.at 0
  refine Cl.of Try.func152 rfl Try.ntmps152 (by simp) (args_cons (k := 0) rfl (args_cons (k := 1) rfl (args0))) ?_
  refine .regSeq (.z zg (.nil (.regSeq (.z zm (.y hs (zld Try.isAgg3) (.z zeql (.z zg (.nil ?_))))))))
  refine .ret (Fin.ret1 Try.results152 rfl ?_)
  exact ⟨rfl, hs⟩
set_option maxHeartbeats 1000000 in
theorem bound_Conflict_spec {H : Heap} {w : World} {σ : List Ent} {v : Value} {s : Syst} (hs : St H w σ) (hr : RSy H v s) :
    Cl Try.prog 64 [v] w fun u w' => ∃ H1 vx out e, HLe H H1 ∧ u = .tuple #[vx, I e] ∧ RI H1 vx out ∧ ConfR s out e ∧ St H1 w' σ := by
  obtain ⟨ul, rfl, hl⟩ := hr
  obtain ⟨al, cl, rfl⟩ := RL.shape hl
  refine Cl.of Try.func64 rfl Try.ntmps64 (by simp) (args_cons (k := 0) rfl (args0)) ?_
  refine .regSeq ?_
  refine .o (.box hs rfl rfl ?_); intro b1 w hs
  refine .z zg (.z zg (.nil (.seq (.regSeq (.y hs (zls [_, _] Try.isAgg32 Try.sizeOf32) ?_)))))
  refine .o (.call Try.call72 rfl (bound_Check_spec (s := s) hs ⟨_, rfl, hl⟩) ?_); rintro _ w ⟨rfl, hs⟩
  refine .z zg (.nil (.regSeq (.z zm (.z zneq (.nil ?_)))))
  refine (.condN rfl (fun hc12 => ?_) (fun hc12 => ?_))
  · refine .regSeq (.z zm (.z zg (.z zg (.nil ?_))))
    refine .ret (rT (?_))
    exact Fin.retD [] [] hs fun w hs => ⟨_, results2 Try.results64 rfl rfl, H, _, [], _, HLe.refl H, rfl, RS.nil H 1 none 0, .bad hc12, hs.out⟩
  · refine .skip ?_
    refine nT ?_
    refine .seq (.regSeq (.y hs (zls [_, _] Try.isAgg32 Try.sizeOf32) ?_))
    have hok : s.Ok := s.ok_iff.1 (by simpa using hc12)
    have hll := hok.len
    refine .o (.call Try.call149 rfl (bound_isSound_spec (s := s) hs hok ⟨_, rfl, hl⟩) ?_); rintro _ w ⟨H1, bb, hle1, rfl, hbb, hs⟩
    refine .nil ?_
    refine (.cond rfl (fun hc15 => ?_) (fun hc15 => ?_))
    · refine .regSeq (.z zg (.z zg (.nil ?_)))
      refine .ret (rT (?_))
      exact Fin.retD [] [] hs fun w hs => ⟨_, results2 Try.results64 rfl rfl, H1, _, [], _, hle1, rfl, RS.nil H1 1 none 0, .none hok (hbb.1 hc15), hs.out⟩
    · refine .skip ?_
      refine nT ?_
      refine .regSeq (.y hs (zls [_, _] Try.isAgg32 Try.sizeOf32) ?_)
      have hns : ¬ s.Sound := fun h => by rw [hbb.2 h] at hc15; cases hc15
      refine .o (.call Try.call66 rfl (bound_Sources_spec (s := s) hs ⟨_, rfl, hl.mono hle1⟩ (by omega)) ?_); rintro v17 w ⟨L, en, hO, hLl, hRise, hs⟩
      obtain ⟨a17, l17, c17, rfl, h17⟩ := hO.shape
      refine .o (.alloc hs Try.zeroValue22 rfl ?_); intro b5 w hs
      refine .o (.store hs rfl rfl Try.sizeOf22 ?_); intro w hs
      refine .nil (.seq (.regSeq (.y hs (zls [_, _] Try.isAgg32 Try.sizeOf32) ?_)))
      refine .o (.call Try.call66 rfl (bound_Sources_spec (s := s) hs ⟨_, rfl, hl.mono hle1⟩ (by omega)) ?_); rintro v19 w ⟨L', en', hO', hLl', hRise', hs⟩
      obtain rfl : L = L' := hRise.uniq hRise'
      obtain ⟨H2, hle2, hR19, hs⟩ := OwnS.publishI hO' (by omega) hs .here
      refine .o (.call Try.call150 rfl (slices_Backward_spec hs hR19) ?_); rintro _ w ⟨H3, b20, hle3, rfl, hit, hs⟩
      have hle03 := hle1.trans (hle2.trans hle3)
      refine .nil (.block ?_)
      refine .rangeFunc (gf := 196) (cap := [.pointer (some ⟨b20, 0, none⟩)]) (xs := backL L) (σb := [.blk b1 [I s.many, .slice al s.lims.length cl], .blk b5 [.slice a17 l17 c17], en]) (σf := σ) (hs.sub (by repeat (first | exact Sub.refl _ | constructor | apply Sub.weaken)) : St H3 w (.blk b1 _ :: .blk b5 _ :: en :: σ)) trivial rfl hit Try.call196 (fun x hx => by
          simp only [backL, List.mem_map] at hx
          obtain ⟨j, _, rfl⟩ := hx; rfl) rfl
        (I := fun j H' σb => ∃ (t : Syst) (ut vo : Value) (out : List Int) (en : Ent), σb = [.blk b1 [I t.many, ut], .blk b5 [vo], en] ∧ RL H' ut t.lims ∧ OwnS 1 vo (Is out) en ∧ out.length ≤ L.length ∧ t.Ok ∧ ConfI s L (L.length - j) t out) (Ix := fun _ _ _ => False)
        (fun j _ _ σ g1 ⟨t, ut, vo, out, en, g2, g3, g4⟩ => ⟨t, ut, vo, out, en, g2, g3.mono g1, g4⟩) (fun _ _ _ _ _ h => h)
        ⟨s, _, _, L, en, rfl, hl.mono hle03, hO, Nat.le_refl _, hok, .start⟩ ?_ ?_ (fun D c H' σb w _ h _ => h.elim)
      · rintro l j hj H4 σb2 σf2 w hle4 ⟨t, ut, vo, out, en, rfl, hut, hOo, hol, htok, hC⟩ hs ⟨rr, hrr⟩
        rw [backL_get hj]
        have hjL : j < L.length := by rw [backL_length] at hj; exact hj
        obtain ⟨at', ct, rfl⟩ := RL.shape hut
        obtain ⟨ao, lo, co, rfl, hlo⟩ := hOo.shape
        refine .region ?_
        refine .o (.alloc hs Try.zeroValue3 rfl ?_); intro b7 w hs
        refine .o (.store hs rfl rfl Try.sizeOf3 ?_); intro w hs
        refine .nil ?_
        refine nT ?_
        refine ⟨H4, [.blk b7 [I (gi L (L.length - 1 - j))], .blk b1 [I t.many, .slice at' t.lims.length ct], .blk b5 [.slice ao lo co], en], HLe.refl _, hs, ?_⟩; rintro w σf4 - hs
        refine .block (.regSeq (.y hs (zls [_, _] Try.isAgg32 Try.sizeOf32) (.y hs (zld Try.isAgg3) ?_)))
        refine .o (.buildSlice (cells := [_]) hs bls_sl_int_1 rfl rfl ?_); intro b25 w hs
        obtain ⟨H5, hle5, r25, hs⟩ := OwnS.publishI (xs := [gi L (L.length - 1 - j)]) (v := .slice (some ⟨b25, 0, none⟩) 1 1) (.full (len := 1) rfl) (by simp) hs (by repeat constructor)
        refine .o (.call Try.call68 rfl (bound_Without_spec (s := t) hs ⟨_, rfl, hut.mono hle5⟩ r25 (by have := htok.len; omega)) ?_); rintro _ w ⟨H6, hle6, ⟨u26, rfl, hL26⟩, hs⟩
        obtain ⟨a26, c26, rfl⟩ := RL.shape hL26
        refine .o (.alloc hs Try.zeroValue32 rfl ?_); intro b8 w hs
        refine .o (.stores (vs := [_, _]) hs rfl rfl Try.sizeOf32 ?_); intro w hs
        refine .nil (.regSeq (.y hs (zls [_, _] Try.isAgg32 Try.sizeOf32) ?_))
        refine .o (.call Try.call149 rfl (bound_isSound_spec (s := t.wo [gi L (L.length - 1 - j)]) hs (htok.wo _) ⟨_, rfl, hL26⟩) ?_); rintro _ w ⟨H7, b28, hle7, rfl, hb28, hs⟩
        have hle47 := hle5.trans (hle6.trans hle7)
        refine .z znot (.nil ?_)
        refine (.cond rfl (fun hc29 => ?_) (fun hc29 => ?_))
        · refine .regSeq (.y hs (zls [_, _] Try.isAgg32 Try.sizeOf32) ?_)
          refine .o (.stores (vs := [_, _]) hs rfl rfl Try.sizeOf32 ?_); intro w hs
          refine .nil (.region (.y hs (zld Try.isAgg22) ?_))
          refine .q hs (q_makeFunc (f := []) (c := [_]) rfl rfl) ?_
          obtain ⟨H8, hle8, r7, hs⟩ := hs.publish (b := b7) (by repeat constructor)
          replace hs : St H8 w (en :: .blk b1 [I t.many, .slice a26 (t.wo [gi L (L.length - 1 - j)]).lims.length c26] :: .blk b5 [.slice ao lo co] :: σf4) := hs.sub (by repeat (first | exact Sub.refl _ | constructor | apply Sub.weaken))
          refine .o (.call Try.call151 rfl (slices_DeleteFunc_spec (g := 152) (cap := [.pointer (some ⟨b7, 0, none⟩)]) (fun n => decide (n = gi L (L.length - 1 - j))) hs hOo (by omega) Try.call152
            (fun H' w σ n _ hle hs => (bound_Conflict_1 hs (r7.mono hle)).mono fun u w' ⟨g1, g2⟩ => ⟨H', HLe.refl _, g1, g2⟩)) ?_); rintro v33 w ⟨H9, en9, hle9, hO9, hs⟩
          obtain ⟨a33, l33, c33, rfl, h33⟩ := hO9.shape
          refine .o (.store hs rfl rfl Try.sizeOf22 ?_); intro w hs
          refine .nil ?_
          refine nB ?_
          have hfl := List.length_filter_le (fun n => !decide (n = gi L (L.length - 1 - j))) out
          have e : L.length - (j + 1) = L.length - 1 - j := by omega
          have hns' : ¬ (t.wo [gi L (L.length - 1 - j)]).Sound := fun h => by rw [hb28.2 h] at hc29; cases hc29
          exact ⟨H9, [.blk b1 [I t.many, .slice a26 (t.wo [gi L (L.length - 1 - j)]).lims.length c26], .blk b5 [.slice a33 l33 c33], en9], hle47.trans (hle8.trans hle9), (hs.sub (by repeat (first | exact Sub.refl _ | constructor | apply Sub.weaken)) : St H9 w (.blk b1 _ :: .blk b5 _ :: en9 :: σf4)), t.wo [gi L (L.length - 1 - j)], _, _, _, _, rfl, hL26.mono (hle7.trans (hle8.trans hle9)), hO9, by omega, htok.wo _, by
            rw [e]
            exact .drop (by rw [show L.length - 1 - j + 1 = L.length - j by omega]; exact hC) hns'⟩
        · refine .skip ?_
          refine nB ?_
          have e : L.length - (j + 1) = L.length - 1 - j := by omega
          have hsd' : (t.wo [gi L (L.length - 1 - j)]).Sound := hb28.1 (by simpa using hc29)
          exact ⟨H7, [.blk b1 [I t.many, .slice at' t.lims.length ct], .blk b5 [.slice ao lo co], en], hle47, (hs.sub (by repeat (first | exact Sub.refl _ | constructor | apply Sub.weaken)) : St H7 w (.blk b1 _ :: .blk b5 _ :: en :: σf4)), t, _, _, _, _, rfl, hut.mono hle47, hOo, hol, htok, by
            rw [e]
            exact .keep (by rw [show L.length - 1 - j + 1 = L.length - j by omega]; exact hC) hsd'⟩
      · rintro D H4 σb2 w hle4 ⟨t, ut, vo, out, en, rfl, hut, hOo, hol, htok, hC⟩ hs
        rw [backL_length, Nat.sub_self] at hC
        obtain ⟨ao, lo, co, rfl, hlo⟩ := hOo.shape
        replace hs : St H4 w (.obj D (.deferred (some [])) :: .blk b1 [I t.many, ut] :: .blk b5 [.slice ao lo co] :: en :: σ) := hs
        refine nB (nT ?_)
        refine .regSeq (.y hs (zld Try.isAgg22) (.z zg (.z zg (.nil ?_))))
        refine .ret ?_
        obtain ⟨H5, hle5, hR5, hs⟩ := OwnS.publishI hOo (by omega) hs (by repeat constructor)
        exact Fin.retD [D] [] hs fun w hs => ⟨_, results2 Try.results64 rfl rfl, H5, _, out, 0, hle03.trans (hle4.trans hle5), rfl, hR5, .ok hok hns hRise hC, hs.out⟩
end Go.Proofs.Ytiiokdeehlfeeaa

namespace Go.Proofs.Ytiiokdeehlfeeaa
open Go.MW
theorem law02_system_spec {H : Heap} {w : World} {σ : List Ent} (hs : St H w σ) : Cl Try.prog 139 [] w fun v w' => ∃ b, v = .agg #[I 3, .slice (some ⟨b, 0, none⟩) 7 7] ∧ St H w' (.blk b (Lims exT.lims) :: σ) := by
  refine Cl.of Try.func139 rfl Try.ntmps139 (by simp) (args0) ?_
  refine .regSeq ?_
  refine .o (.alloc hs Try.zeroValue32 rfl ?_); intro b0 w hs
  refine .nil (.regSeq (.z (zbd [_, _, _, _] bld_api_Limit) (.z (zbd [_, _, _, _] bld_api_Limit) (.z (zbd [_, _, _, _] bld_api_Limit) (.z (zbd [_, _, _, _] bld_api_Limit) (.z (zbd [_, _, _, _] bld_api_Limit) (.z (zbd [_, _, _, _] bld_api_Limit) (.z (zbd [_, _, _, _] bld_api_Limit) ?_))))))))
  refine .o (.buildSlice (cells := Lims exT.lims) hs bls_sl_api_Limit_7 rfl (by kernel_rfl) ?_); intro b8 w hs
  refine .z (zbd [_, _] bld_api_System) ?_
  refine .o (.stores (vs := [_, _]) hs rfl rfl Try.sizeOf32 ?_); intro w hs
  refine .nil ?_
  refine .ret ?_
  exact Fin.retD [] [] hs fun w hs => ⟨_, results1 Try.results139 (rcells (vs := [_, _]) hs rfl Try.isAgg32 Try.sizeOf32), b8, rfl, hs.sub (by repeat (first | exact Sub.refl _ | constructor | apply Sub.weaken))⟩
set_option maxHeartbeats 2000000 in
theorem law02_sane_spec {H : Heap} {w : World} {σ : List Ent} (hs : St H w σ) : Cl Try.prog 54 [] w fun v w' => v = .bool true ∧ ∃ H1, HLe H H1 ∧ St H1 w' σ := by
  refine Cl.of Try.func54 rfl Try.ntmps54 (by simp) (args0) ?_
  refine .regSeq (.z zg (.nil (.regSeq ?_)))
  refine .o (.call Try.call139 rfl (law02_system_spec hs) ?_); rintro _ w ⟨bs, rfl, hs⟩
  obtain ⟨H1, hle, hl, hs⟩ := OwnS.publish (m := 4) (v := .slice (some ⟨bs, 0, none⟩) 7 7) (cs := exT.lims.map Lim.c) (.full rfl) (by decide) (by decide) (by decide) hs .here
  refine .o (.alloc hs Try.zeroValue32 rfl ?_); intro b1 w hs
  refine .o (.stores (vs := [_, _]) hs rfl rfl Try.sizeOf32 ?_); intro w hs
  refine .nil (.regSeq ?_)
  refine .o (.buildSlice (cells := Is [0, 1, 1, -2]) hs bls_sl_int_4 rfl (by kernel_rfl) ?_); intro b20 w hs
  obtain ⟨H2, hle2, hw, hs⟩ := OwnS.publishI (v := .slice (some ⟨b20, 0, none⟩) 4 4) (xs := [0, 1, 1, -2]) (.full rfl) (by decide) hs .here
  replace hl : RL H2 _ exT.lims := RS.mono hl hle2
  replace hle := hle.trans hle2
  refine .z zg (.nil (.regSeq (.y hs (zls [_, _] Try.isAgg32 Try.sizeOf32) ?_)))
  refine .o (.call Try.call52 rfl (bound_Close_spec (s := exT) hs ⟨_, rfl, hl⟩) ?_); rintro _ w ⟨H3, vt, e, hle3, rfl, hcase, hs⟩
  obtain ⟨rfl, rs, hRT, hSq, hWT⟩ : e = 0 ∧ ∃ rs, RT H3 vt rs ∧ Sq exT.n rs ∧ WaysT exT.n exT.arcs (gt rs) := by
    rcases hcase with ⟨h, _⟩ | ⟨_, h, _⟩ | ⟨_, _, h1, h2⟩
    · exact (h (exT.ok_iff.2 exT_ok)).elim
    · exact (h exT_sound).elim
    · exact ⟨h1, h2⟩
  obtain rfl := exT_rows hSq hWT
  obtain ⟨at', ct, rfl⟩ := hRT.shape
  replace hl := hl.mono hle3; replace hw := hw.mono hle3; replace hle := hle.trans hle3
  refine .z zm (.z zex (.z zex (.z zg (.z zg (.nil (.regSeq (.y hs (zls [_, _] Try.isAgg32 Try.sizeOf32) ?_)))))))
  refine .o (.buildSlice (cells := Is [1, 2, 3]) hs bls_sl_int_3 rfl (by kernel_rfl) ?_); intro b28 w hs
  obtain ⟨H4, hle4, hp, hs⟩ := OwnS.publishI (v := .slice (some ⟨b28, 0, none⟩) 3 3) (xs := [1, 2, 3]) (.full rfl) (by decide) hs .here
  replace hl := hl.mono hle4; replace hw := hw.mono hle4; replace hRT := hRT.mono hle4; replace hle := hle.trans hle4
  refine .o (.call Try.call53 rfl (bound_Point_spec (s := exT) hs ⟨_, rfl, hl⟩ hp) ?_); rintro _ w ⟨H5, vx, x, e, hle5, rfl, hRx, hPx, hs⟩
  obtain ⟨rfl, rfl⟩ := exT_point hPx
  obtain ⟨ax, cx, rfl⟩ := RI.shape hRx
  replace hl := hl.mono hle5; replace hw := hw.mono hle5; replace hRT := hRT.mono hle5; replace hle := hle.trans hle5
  refine .z zm (.z zex (.z zex (.z zg (.z zg (.nil (.regSeq (.y hs (zls [_, _] Try.isAgg32 Try.sizeOf32) (.z zm ?_))))))))
  refine .o (.call Try.call56 rfl (bound_Most_spec (s := exT) hs ⟨_, rfl, hl⟩ hw) ?_); rintro _ w ⟨H6, n, e, hle6, rfl, hM, hs⟩
  obtain ⟨rfl, rfl⟩ := exT_most hM
  replace hl := hl.mono hle6; replace hw := hw.mono hle6; replace hRT := hRT.mono hle6; replace hRx := hRx.mono hle6; replace hle := hle.trans hle6
  refine .z zm (.z zex (.z zex (.z zg (.z zg (.nil (.regSeq (.y hs (zls [_, _] Try.isAgg32 Try.sizeOf32) (.z zm ?_))))))))
  refine .o (.call Try.call61 rfl (bound_Best_spec (s := exT) hs ⟨_, rfl, hl⟩ hw) ?_); rintro _ w ⟨H7, vb, xb, e, hle7, rfl, hA, hRb, _, hB, hs⟩
  obtain rfl := hA.uniq hM.1
  obtain rfl := exT_best (hB rfl)
  obtain ⟨ab, cb, rfl⟩ := RI.shape hRb
  replace hl := hl.mono hle7; replace hw := hw.mono hle7; replace hRT := hRT.mono hle7; replace hRx := hRx.mono hle7; replace hle := hle.trans hle7
  refine .z zm (.z zex (.z zex (.z zg (.z zg (.nil (.regSeq (.y hs (zls [_, _] Try.isAgg32 Try.sizeOf32) ?_)))))))
  refine .o (.buildSlice (cells := Is [0, 0, 1, 0]) hs bls_sl_int_4 rfl (by kernel_rfl) ?_); intro b46 w hs
  obtain ⟨H8, hle8, hw8, hs⟩ := OwnS.publishI (v := .slice (some ⟨b46, 0, none⟩) 4 4) (xs := [0, 0, 1, 0]) (.full rfl) (by decide) hs .here
  replace hl := hl.mono hle8; replace hRT := hRT.mono hle8; replace hRx := hRx.mono hle8; replace hRb := hRb.mono hle8; replace hle := hle.trans hle8
  refine .o (.call Try.call93 rfl (bound_Moves_spec (s := exT) hs ⟨_, rfl, hl⟩ hw8) ?_); rintro _ w ⟨H9, vm, L, e, hle9, rfl, hRm, hMv, hs⟩
  obtain ⟨rfl, rfl⟩ := exT_moves hMv
  obtain ⟨am, cm, rfl⟩ := RI.shape hRm
  replace hl := hl.mono hle9; replace hRT := hRT.mono hle9; replace hRx := hRx.mono hle9; replace hRb := hRb.mono hle9; replace hle := hle.trans hle9
  refine .z zm (.z zex (.z zex (.z zg (.z zg (.nil (.regSeq ?_))))))
  refine .o (.call Try.call139 rfl (law02_system_spec hs) ?_); rintro _ w ⟨bs2, rfl, hs⟩
  refine .q hs (q_field (k := 1) rfl Try.runUnderlying32 rfl Try.isAgg30 rfl) ?_
  refine .z (zbd [_, _, _, _] bld_api_Limit) ?_
  refine .o (.buildSlice (cells := (⟨2, 0, -13, 9⟩ : Lim).c) hs bls_sl_api_Limit_1 rfl (by kernel_rfl) ?_); intro b53 w hs
  refine .o (.append (xs := Lims exT.lims) (ys := (⟨2, 0, -13, 9⟩ : Lim).c) hs app_sl_api_Limit_api_Limit rfl rfl (.full (len := 7) rfl) (.own .here rfl rfl) (by simp [Lim.c, Value.oneCell']) (fun l h => by rw [Lims_length] at h; change 7 * 4 = l * 4 at h; omega) ?_); intro v54 en54 w hO54 hs
  rw [← Lims_one, ← Lims_append] at hO54
  obtain ⟨H10, hle10, hl10, hs⟩ := OwnS.publish (m := 4) (cs := exC.lims.map Lim.c) hO54 (by decide) (by decide) (by decide) hs .here
  obtain ⟨a54, c54, rfl⟩ := RL.shape (ls := exC.lims) hl10
  replace hl := hl.mono hle10; replace hRT := hRT.mono hle10; replace hRx := hRx.mono hle10; replace hRb := hRb.mono hle10; replace hRm := hRm.mono hle10; replace hle := hle.trans hle10
  refine .z zg (.nil (.regSeq (.z zm (.z (zbd [_, _] bld_api_System) ?_))))
  refine .o (.call Try.call64 rfl (bound_Conflict_spec (s := exC) hs ⟨_, rfl, hl10⟩) ?_); rintro _ w ⟨H11, vc, out, e, hle11, rfl, hRc, hCf, hs⟩
  obtain ⟨rfl, rfl⟩ := exC_conf hCf
  obtain ⟨ac, cc, rfl⟩ := RI.shape hRc
  replace hl := hl.mono hle11; replace hRT := hRT.mono hle11; replace hRx := hRx.mono hle11; replace hRb := hRb.mono hle11; replace hRm := hRm.mono hle11; replace hle := hle.trans hle11
  refine .z zm (.z zex (.z zex (.z zg (.z zg (.nil (.regSeq (.y hs (zls [_, _] Try.isAgg32 Try.sizeOf32) ?_)))))))
  refine .o (.buildSlice (cells := Is [1, 4]) hs bls_sl_int_2 rfl (by kernel_rfl) ?_); intro b63 w hs
  obtain ⟨H12, hle12, hb12, hs⟩ := OwnS.publishI (v := .slice (some ⟨b63, 0, none⟩) 2 2) (xs := [1, 4]) (.full rfl) (by decide) hs .here
  refine .o (.call Try.call68 rfl (bound_Without_spec (s := exT) hs ⟨_, rfl, hl.mono hle12⟩ hb12 (by decide)) ?_); rintro _ w ⟨H13, hle13, ⟨u64, rfl, hL64⟩, hs⟩
  obtain ⟨a64, c64, rfl⟩ := RL.shape hL64
  refine .o (.buildSlice (cells := Is [0, 1, 0, 0]) hs bls_sl_int_4 rfl (by kernel_rfl) ?_); intro b65 w hs
  obtain ⟨H14, hle14, hw14, hs⟩ := OwnS.publishI (v := .slice (some ⟨b65, 0, none⟩) 4 4) (xs := [0, 1, 0, 0]) (.full rfl) (by decide) hs .here
  refine .o (.call Try.call56 rfl (bound_Most_spec (s := exT.wo [1, 4]) hs ⟨_, rfl, hL64.mono hle14⟩ hw14) ?_); rintro _ w ⟨H15, n, e, hle15, rfl, hM15, hs⟩
  obtain rfl := exT_open hM15
  have hle5 := hle12.trans (hle13.trans (hle14.trans hle15))
  replace hl := hl.mono hle5; replace hRT := hRT.mono hle5; replace hRx := hRx.mono hle5; replace hRb := hRb.mono hle5; replace hRm := hRm.mono hle5; replace hRc := hRc.mono hle5; replace hle := hle.trans hle5
  refine .z zm (.z zex (.z zex (.z zg (.z zg (.nil (.regSeq (.z zm (.z zeql (.z zm ?_)))))))))
  refine .gT rfl rfl ?_
  refine .z zm ?_
  refine .gT rfl rfl ?_
  refine .z zeql (.z zpT (.z zm ?_))
  refine .gT rfl rfl ?_
  refine .z zm ?_
  refine .gT rfl rfl ?_
  refine .z zeql (.z zpT (.z zm ?_))
  refine .gT rfl rfl ?_
  refine .z zm ?_
  refine .gT rfl rfl ?_
  refine .z zeql (.z zpT (.z zm ?_))
  refine .gT rfl rfl ?_
  refine .z zm ?_
  refine .gT rfl rfl ?_
  refine .z zeql (.z zpT (.z zm ?_))
  refine .gT rfl rfl ?_
  refine .z zm ?_
  refine .gT rfl rfl ?_
  refine .z zeql (.z zpT (.z zg (.nil (.regSeq (.z zm (.z zm ?_))))))
  refine .gT rfl rfl ?_
  refine .z zm ?_
  refine .gT rfl rfl ?_
  refine .z (zlen Try.runUnderlying87) ?_
  refine .gT rfl rfl ?_
  refine .z zeql (.z zpT (.z zm ?_))
  refine .gT rfl rfl ?_
  refine .z zm ?_
  refine .gT rfl rfl ?_
  refine .ixT hs hRT rfl rfl Try.runUnderlying87 Try.sizeOf22 (k := 3) (by decide) rfl ?_; intro b99 o99 a99 c99 hc99 hR99
  refine .gT rfl rfl ?_
  refine .q hs (q_loadR rfl Try.isAgg22 hc99) ?_
  refine .gT rfl rfl ?_
  refine .z (zlen Try.runUnderlying22) ?_
  refine .gT rfl rfl ?_
  refine .z zeql (.z zpT (.z zm ?_))
  refine .gT rfl rfl ?_
  refine .z zm ?_
  refine .gT rfl rfl ?_
  refine .ixT hs hRT rfl rfl Try.runUnderlying87 Try.sizeOf22 (k := 3) (by decide) rfl ?_; intro b106 o106 a106 c106 hc106 hR106
  refine .gT rfl rfl ?_
  refine .q hs (q_loadR rfl Try.isAgg22 hc106) ?_
  refine .gT rfl rfl ?_
  refine .ixY hs hR106 rfl rfl Try.runUnderlying22 Try.sizeOf3 (k := 2) (x' := 12) rfl rfl ?_; intro b108 o108 hc108
  refine .gT rfl rfl ?_
  refine .q hs (q_loadR rfl Try.isAgg3 hc108) ?_
  refine .gT rfl rfl ?_
  refine .z zeql (.z zpT (.z zm ?_))
  refine .gT rfl rfl ?_
  refine .z zm ?_
  refine .gT rfl rfl ?_
  refine .o (.buildSlice (cells := Is [0, 5, 7, 3]) hs bls_sl_int_4 rfl (by kernel_rfl) ?_); intro b114 w hs
  obtain ⟨H16, hle16, hq1, hs⟩ := OwnS.publishI (v := .slice (some ⟨b114, 0, none⟩) 4 4) (xs := [0, 5, 7, 3]) (.full rfl) (by decide) hs .here
  refine .gT rfl rfl ?_
  refine .o (.call Try.call31 rfl (ref02_Same_spec hs (hRx.mono hle16) hq1) ?_); rintro _ w ⟨rfl, hs⟩
  refine .z zpT (.z zm ?_)
  refine .gT rfl rfl ?_
  refine .z zm ?_
  refine .gT rfl rfl ?_
  refine .z zeql (.z zpT (.z zm ?_))
  refine .gT rfl rfl ?_
  refine .z zm ?_
  refine .gT rfl rfl ?_
  refine .o (.buildSlice (cells := Is [0, 10, 12, 0]) hs bls_sl_int_4 rfl (by kernel_rfl) ?_); intro b123 w hs
  obtain ⟨H17, hle17, hq2, hs⟩ := OwnS.publishI (v := .slice (some ⟨b123, 0, none⟩) 4 4) (xs := [0, 10, 12, 0]) (.full rfl) (by decide) hs .here
  refine .gT rfl rfl ?_
  refine .o (.call Try.call31 rfl (ref02_Same_spec hs (hRb.mono (hle16.trans hle17)) hq2) ?_); rintro _ w ⟨rfl, hs⟩
  refine .z zpT (.z zm ?_)
  refine .gT rfl rfl ?_
  refine .z zm ?_
  refine .gT rfl rfl ?_
  refine .o (.buildSlice (cells := Is [1, 2, 4]) hs bls_sl_int_3 rfl (by kernel_rfl) ?_); intro b128 w hs
  obtain ⟨H18, hle18, hq3, hs⟩ := OwnS.publishI (v := .slice (some ⟨b128, 0, none⟩) 3 3) (xs := [1, 2, 4]) (.full rfl) (by decide) hs .here
  refine .gT rfl rfl ?_
  refine .o (.call Try.call31 rfl (ref02_Same_spec hs (hRm.mono (hle16.trans (hle17.trans hle18))) hq3) ?_); rintro _ w ⟨rfl, hs⟩
  refine .z zpT (.z zm ?_)
  refine .gT rfl rfl ?_
  refine .z zm ?_
  refine .gT rfl rfl ?_
  refine .o (.buildSlice (cells := Is [4, 9]) hs bls_sl_int_2 rfl (by kernel_rfl) ?_); intro b133 w hs
  obtain ⟨H19, hle19, hq4, hs⟩ := OwnS.publishI (v := .slice (some ⟨b133, 0, none⟩) 2 2) (xs := [4, 9]) (.full rfl) (by decide) hs .here
  have hle69 := hle16.trans (hle17.trans (hle18.trans hle19))
  refine .gT rfl rfl ?_
  refine .o (.call Try.call31 rfl (ref02_Same_spec hs (hRc.mono hle69) hq4) ?_); rintro _ w ⟨rfl, hs⟩
  refine .z zpT (.z zm ?_)
  refine .gT rfl rfl ?_
  refine .z zm ?_
  refine .gT rfl rfl ?_
  refine .z zeql (.z zpT (.z zg (.nil ?_)))
  refine .ret (Fin.ret1 Try.results54 rfl ?_)
  exact ⟨rfl, H19, hle.trans hle69, hs.out⟩
end Go.Proofs.Ytiiokdeehlfeeaa

namespace Go.Proofs.Ytiiokdeehlfeeaa
open Go.MW
theorem law02_mod_spec {H : Heap} {w : World} {σ : List Ent} {n m : Int} (hs : St H w σ) (hm : 0 < m ∧ m ≤ 4611686018427387904) : Cl Try.prog 55 [I n, I m] w fun v w' => v = I (n % m) ∧ St H w' σ := by
  have h1 := Int.tmod_lt_of_pos n hm.1
  have h2 := Int.lt_tmod_of_pos n hm.1
  have e := rem_emod (n := n) hm.1
  refine Cl.of Try.func55 rfl Try.ntmps55 (by simp) (args_cons (k := 0) rfl (args_cons (k := 1) rfl (args0))) ?_
  refine .regSeq (.z zg (.nil (.regSeq (.z zm (.z zm (.z zrem (.z zm (.z zadd (.z zm ?_)))))))))
  refine .z zrem (.z zg (.nil ?_))
  refine .ret (Fin.ret1 Try.results55 rfl ?_)
  exact ⟨congrArg I e, hs⟩
set_option maxHeartbeats 1000000 in
theorem law02_made_spec {H : Heap} {w : World} {σ : List Ent} {v : Value} {r : Syst} (hs : St H w σ) (hr : RSy H v r) :
    Cl Try.prog 51 [v] w fun u w' => ∃ H1, HLe H H1 ∧ RSy H1 u (madeS r) ∧ St H1 w' σ := by
  obtain ⟨ul, rfl, hl⟩ := hr
  obtain ⟨al, cl, rfl⟩ := RL.shape hl
  have hll := (RS.len (RS.recap hl (Nat.le_refl _) (cap' := r.lims.length))).2.2
  have hnb : 1 ≤ 1 + r.many % 6 ∧ 1 + r.many % 6 ≤ 6 := madeN_bd r
  refine Cl.of Try.func51 rfl Try.ntmps51 (by simp) (args_cons (k := 0) rfl (args0)) ?_
  refine .regSeq ?_
  refine .o (.box hs rfl rfl ?_); intro b1 w hs
  refine .o (.alloc hs Try.zeroValue32 rfl ?_); intro b2 w hs
  refine .nil (.regSeq (.z (zfa fa_moorsomlaw02_Raw_0) (.y hs (zld Try.isAgg3) ?_)))
  refine .o (.call Try.call55 rfl (law02_mod_spec hs (by decide)) ?_); rintro _ w ⟨rfl, hs⟩
  refine .z zadd ?_
  generalize hN : 1 + r.many % 6 = N at hnb ⊢
  have hN' : madeN r = N := hN
  refine .z (zbd [_, _] bld_api_System) ?_
  refine .o (.alloc hs Try.zeroValue32 rfl ?_); intro b3 w hs
  refine .o (.stores (vs := [_, _]) hs rfl rfl Try.sizeOf32 ?_); intro w hs
  refine .nil (.seq (.regSeq (.z (zfa fa_moorsomlaw02_Raw_1) (.y hs (zld Try.isAgg83) (.z (zlen Try.runUnderlying83) (.z zm (.nil ?_)))))))
  refine .for (N := r.lims.length) (J := fun k fr w => fr = [(14, .slice al r.lims.length cl), (3, .pointer (some ⟨b3, 0, none⟩)), (2, .pointer (some ⟨b2, 0, none⟩))] ∧ k ≤ 20 ∧ ∃ vL en, OwnS 4 vL (Lims ((r.lims.take k).map (madeLim N))) en ∧ St H w (.blk b3 [I N, vL] :: .blk b2 [I 0, .slice none 0 0] :: en :: σ)) (by omega) ?_ ?_ ?_
  · exact .mk ⟨rfl, by omega, _, _, .nil 4 none, hs.nul.sub (by repeat (first | exact Sub.refl _ | constructor | apply Sub.weaken))⟩
  · rintro k fr w hk ⟨rfl, hk20, vL, en, hO, hs⟩
    obtain ⟨x, hx⟩ := nth (l := r.lims) hk
    obtain ⟨aL, lL, cL, rfl, hL⟩ := hO.shape
    have ha0 := Int.emod_nonneg x.A (b := N + 1) (by omega)
    have ha1 := Int.emod_lt_of_pos x.A (b := N + 1) (by omega)
    have hb0 := Int.emod_nonneg x.B (b := N) (by omega)
    have hb1 := Int.emod_lt_of_pos x.B (b := N) (by omega)
    refine .block (.regSeq (.z zm ?_))
    refine .ixX (enc := Lim.c) hs hl rfl rfl Try.runUnderlying83 Try.sizeOf95 hx rfl ?_; intro b19 o19 hc19
    refine .q hs (q_loadsR (vs := x.c) rfl Try.isAgg95 Try.sizeOf95 hc19) ?_
    refine .o (.alloc hs Try.zeroValue95 rfl ?_); intro b5 w hs
    refine .z zg ?_
    refine .o (.stores (vs := x.c) hs rfl rfl Try.sizeOf95 ?_); intro w hs
    change St _ _ (.blk b5 x.c :: _) at hs
    refine .nil (.seq (.regSeq (.z zm (.z zeql (.nil ?_)))))
    refine (.condD rfl (fun hc22 => ?_) (fun hc22 => ?_))
    · refine .exit ?_
      refine xT (xN (xT (xB (nT ?_))))
      refine .regSeq (.y hs (zls [_, _] Try.isAgg32 Try.sizeOf32) ?_)
      refine .o (.stores (vs := [_, _]) hs rfl rfl Try.sizeOf32 ?_); intro w hs
      refine .nil ?_
      refine .ret ?_
      obtain rfl : k = 20 := by omega
      have e : (r.lims.take 20).map (madeLim N) = (madeS r).lims := by rw [← hN']; rfl
      rw [e] at hO
      have hml := (madeS_ok r).len
      obtain ⟨H1, g1, r1, hs⟩ := OwnS.publish (m := 4) (cs := (madeS r).lims.map Lim.c) hO (fun c hc => by simp only [List.mem_map] at hc; obtain ⟨x, _, rfl⟩ := hc; rfl) (by omega) (by rw [List.length_map]; omega) hs (by repeat constructor)
      exact Fin.retD [] [] hs fun w hs => ⟨_, results1 Try.results51 (rcells (vs := [_, _]) hs rfl Try.isAgg32 Try.sizeOf32), H1, g1, ⟨_, by rw [← hN']; rfl, r1⟩, hs.out⟩
    · refine .skip ?_
      refine nT ?_
      refine .regSeq ?_
      first | refine .q hs (q_ixA0 (k := 0) rfl rfl Try.runUnderlying95 Try.sizeOf3 rfl (by decide)) ?_ | refine .q hs (q_ixA (k := 0) rfl rfl Try.runUnderlying95 Try.sizeOf3 rfl (by decide)) ?_
      refine .y hs (zld Try.isAgg3) (.z (zfa fa_api_System_0) (.y hs (zld Try.isAgg3) (.z zadd ?_)))
      refine .o (.call Try.call55 rfl (law02_mod_spec hs (by omega)) ?_); rintro _ w ⟨rfl, hs⟩
      refine .z zg (.nil ?_)
      refine .seq (.draw mix rfl hs ?_); intro w hs
      refine .z 0 rfl zm ?_; refine .z 1 rfl zadd ?_
      first | refine .p (i := 2) rfl (by kernel_rfl) .none (q_ixA0 (k := 1) rfl rfl Try.runUnderlying95 Try.sizeOf3 rfl (by decide)) ?_ | refine .p (i := 2) rfl (by kernel_rfl) .none (q_ixA (k := 1) rfl rfl Try.runUnderlying95 Try.sizeOf3 rfl (by decide)) ?_
      refine .y 3 rfl hs Try.isAgg3 ?_; refine .z 4 rfl (zfa fa_api_System_0) ?_; refine .y 5 rfl hs Try.isAgg3 ?_; refine .z 8 rfl (zfa fa_api_System_0) ?_; refine .y 9 rfl hs Try.isAgg3 ?_; refine .z 10 rfl zadd ?_
      refine .e1 (i := 6) (by kernel_rfl) rfl rfl .none hs ?_
      refine .call Try.call55 rfl (law02_mod_spec hs (by omega)) ?_; rintro _ w ⟨rfl, hs⟩
      refine .go ?_
      refine .z 7 rfl zadd ?_
      refine .e1 (i := 11) (by kernel_rfl) rfl rfl .none hs ?_
      refine .call Try.call55 rfl (law02_mod_spec hs (by omega)) ?_; rintro _ w ⟨rfl, hs⟩
      refine .go ?_
      refine .z 12 rfl zg ?_; refine .done (by kernel_rfl) hs ?_
      refine .draw mix rfl hs ?_; intro w hs
      refine .z 0 rfl (zfa fa_api_System_1) ?_; refine .y 1 rfl hs Try.isAgg30 ?_; refine .z 2 rfl zm ?_; refine .z 3 rfl zm ?_
      first | refine .p (i := 4) rfl (by kernel_rfl) .none (q_ixA0 (k := 2) rfl rfl Try.runUnderlying95 Try.sizeOf3 rfl (by decide)) ?_ | refine .p (i := 4) rfl (by kernel_rfl) .none (q_ixA (k := 2) rfl rfl Try.runUnderlying95 Try.sizeOf3 rfl (by decide)) ?_
      refine .y 5 rfl hs Try.isAgg3 ?_
      first | refine .p (i := 8) rfl (by kernel_rfl) .none (q_ixA0 (k := 3) rfl rfl Try.runUnderlying95 Try.sizeOf3 rfl (by decide)) ?_ | refine .p (i := 8) rfl (by kernel_rfl) .none (q_ixA (k := 3) rfl rfl Try.runUnderlying95 Try.sizeOf3 rfl (by decide)) ?_
      refine .y 9 rfl hs Try.isAgg3 ?_
      refine .e1 (i := 6) (by kernel_rfl) rfl rfl .none hs ?_
      refine .call Try.call55 rfl (law02_mod_spec hs (by decide)) ?_; rintro _ w ⟨rfl, hs⟩
      refine .go ?_
      refine .z 7 rfl zsub ?_
      refine .e1 (i := 10) (by kernel_rfl) rfl rfl .none hs ?_
      refine .call Try.call55 rfl (law02_mod_spec hs (by decide)) ?_; rintro _ w ⟨rfl, hs⟩
      refine .go ?_
      refine .z 11 rfl zadd ?_; refine .z 12 rfl (zbd [_, _, _, _] bld_api_Limit) ?_
      refine .e1 (i := 13) (by kernel_rfl) rfl rfl .none hs ?_
      refine .buildSlice (cells := (madeLim N x).c) hs bls_sl_api_Limit_1 rfl rfl ?_; intro b54 w hs
      refine .go ?_
      refine .e1 (i := 14) (by kernel_rfl) rfl rfl .none hs ?_
      refine .append (ys := (madeLim N x).c) hs app_sl_api_Limit_api_Limit rfl rfl hO (.own .here rfl rfl) (by simp [Lim.c, Value.oneCell']) (fun l h => by rw [Lims_length] at h; simp at h; omega) ?_; intro v55 en55 w hO2 hs
      obtain ⟨a55, l55, c55, rfl, h55⟩ := hO2.shape
      refine .go ?_
      refine .z 15 rfl (zfa fa_api_System_1) ?_
      refine .e1 (i := 16) (by kernel_rfl) rfl rfl .none hs ?_
      refine .store hs rfl rfl Try.sizeOf30 ?_; intro w hs
      refine .go ?_
      refine .done (by kernel_rfl) hs ?_
      refine nB (nT ?_)
      have e : (r.lims.take (k + 1)).map (madeLim N) = (r.lims.take k).map (madeLim N) ++ [madeLim N x] := by rw [take_snoc hx, List.map_append]; rfl
      rw [← Lims_one, ← Lims_append, ← e] at hO2
      exact .mk ⟨rfl, by omega, _, _, hO2, hs.sub (by repeat (first | exact Sub.refl _ | constructor | apply Sub.weaken))⟩
  · rintro fr w ⟨rfl, hk20, vL, en, hO, hs⟩
    obtain ⟨aL, lL, cL, rfl, hL⟩ := hO.shape
    refine nT ?_
    refine .regSeq (.y hs (zls [_, _] Try.isAgg32 Try.sizeOf32) ?_)
    refine .o (.stores (vs := [_, _]) hs rfl rfl Try.sizeOf32 ?_); intro w hs
    refine .nil ?_
    refine .ret ?_
    have e : (r.lims.take r.lims.length).map (madeLim N) = (madeS r).lims := by
      rw [← hN']
      show _ = (r.lims.take 20).map (madeLim (madeN r))
      rw [List.take_of_length_le (Nat.le_refl _), List.take_of_length_le hk20]
    rw [e] at hO
    have hml := (madeS_ok r).len
    obtain ⟨H1, g1, r1, hs⟩ := OwnS.publish (m := 4) (cs := (madeS r).lims.map Lim.c) hO (fun c hc => by simp only [List.mem_map] at hc; obtain ⟨x, _, rfl⟩ := hc; rfl) (by omega) (by rw [List.length_map]; omega) hs (by repeat constructor)
    exact Fin.retD [] [] hs fun w hs => ⟨_, results1 Try.results51 (rcells (vs := [_, _]) hs rfl Try.isAgg32 Try.sizeOf32), H1, g1, ⟨_, by rw [← hN']; rfl, r1⟩, hs.out⟩
theorem law02_weights_spec {H : Heap} {w : World} {σ : List Ent} {v vl : Value} {s : Syst} {l : List Int} (hs : St H w σ) (hr : RSy H v s) (hl : RI H vl l) (hm : 0 ≤ s.many ∧ s.many ≤ 64) :
    Cl Try.prog 57 [v, vl] w fun u w' => ∃ H1, HLe H H1 ∧ RI H1 u (wOf s.n l) ∧ St H1 w' σ := by
  obtain ⟨ul, rfl, hls⟩ := hr
  obtain ⟨al, cl, rfl⟩ := RI.shape hl
  have hll := (RI.len hl).2.2
  have hnn : (s.n : Int) = s.many + 1 := by simp only [Syst.n]; omega
  refine Cl.of Try.func57 rfl Try.ntmps57 (by simp) (args_cons (k := 0) rfl (args_cons (k := 1) rfl (args0))) ?_
  refine .regSeq ?_
  refine .o (.box hs rfl rfl ?_); intro b2 w hs
  refine .z zg (.nil (.regSeq (.z zg (.nil (.seq (.regSeq (.z zg (.nil (.block ?_)))))))))
  refine .loop (fun p : Nat × Value => ⟨31, [], [(6, I (p.1 : Int)), (5, p.2), (2, .pointer (some ⟨b2, 0, none⟩)), (1, .slice al l.length cl)]⟩)
    (fun p w => p.1 ≤ s.n ∧ ∃ en, OwnS 1 p.2 (Is (wOf p.1 l)) en ∧ St H w (en :: .blk b2 [I s.many, ul] :: σ))
    (fun p => s.n - p.1) (0, .slice none 0 0) (by repeat (first | exact .nil rfl rfl | refine .cons rfl ?_))
    ⟨by omega, _, .nil 1 none, hs.nul⟩ ?_
  rintro ⟨k, v5⟩ w ⟨hk, en, hO, hs⟩
  dsimp only at hk hO ⊢
  refine .seq (.regSeq (.z zm (.z (zfa fa_api_System_0) (.y hs (zld Try.isAgg3) (.z zleq (.nil ?_))))))
  refine (.condD rfl (fun hc11 => ?_) (fun hc11 => ?_))
  · refine .skip ?_
    refine nT ?_
    refine .seq (.block (.regSeq (.z zg (.nil ?_))))
    refine .cut (fun fs w => FSub fs ⟨31, [], [(7, I (wAt l k)), (6, I (k : Int)), (5, v5), (2, .pointer (some ⟨b2, 0, none⟩)), (1, .slice al l.length cl)]⟩ ∧ St H w (en :: .blk b2 [I s.many, ul] :: σ)) ?_ ?_
    · refine .regSeq (.z zm (.z (zlen Try.runUnderlying22) (.z zgtr (.nil ?_))))
      refine (.condD rfl (fun hc16 => ?_) (fun hc16 => ?_))
      · refine .region (.z zm (.z zm (.z zm (.z (zlen Try.runUnderlying22) ?_))))
        have hl0 : 0 < l.length := by omega
        have hkm := Nat.mod_lt k hl0
        have e21 : (k : Int).tmod (l.length : Int) = ((k % l.length : Nat) : Int) := by rw [Int.tmod_eq_emod_of_nonneg (by omega)]; exact (Int.natCast_emod k l.length).symm
        refine .z zrem ?_
        refine .ixY hs hl rfl rfl Try.runUnderlying22 Try.sizeOf3 (gi_get (l := l) (i := k % l.length) hkm) e21 ?_; intro b22 o22 hc22
        refine .q hs (q_loadR rfl Try.isAgg3 hc22) ?_
        refine .o (.call Try.call55 rfl (law02_mod_spec hs (by decide)) ?_); rintro _ w ⟨rfl, hs⟩
        refine .z zsub (.z zg (.nil ?_))
        refine nT ?_
        exact ⟨.consI rfl (by unfold wAt; rw [if_neg (fun h => by rw [h] at hl0; exact Nat.lt_irrefl _ hl0)]) (by repeat (first | exact .nil rfl rfl | refine .cons rfl ?_)), hs⟩
      · refine .skip ?_
        refine nT ?_
        exact ⟨.consI rfl (by unfold wAt; rw [if_pos (List.length_eq_zero_iff.1 (by omega))]) (by repeat (first | exact .nil rfl rfl | refine .cons rfl ?_)), hs⟩
    · rintro fs w ⟨hfs, hs⟩
      refine WE.sub ?_ hfs
      have hkn : k < s.n := by omega
      refine .region (.z zm (.z zm ?_))
      refine .o (.buildSlice (cells := [_]) hs bls_sl_int_1 rfl rfl ?_); intro b28 w hs
      refine .o (.append (ys := Is [wAt l k]) hs app_sl_int_int rfl rfl hO (.own .here rfl rfl) (Is_cell _) (fun l' h => by rw [List.length_map, wOf_length] at h; omega) ?_); intro v29 en29 w hO2 hs
      rw [← List.map_append, ← wOf_snoc] at hO2
      refine .z zg (.nil ?_)
      refine nB (nT ?_)
      refine .region (.z zm (.z zadd (.z zg (.nil ?_))))
      refine nT ?_
      exact ⟨(k + 1, v29), .consI rfl (by simp) (by repeat (first | exact .nil rfl rfl | refine .cons rfl ?_)), ⟨by dsimp only; omega, en29, hO2, hs.sub (by repeat (first | exact Sub.refl _ | constructor | apply Sub.weaken))⟩, by dsimp only; omega⟩
  · refine .exit ?_
    refine xT (xT (xB (nT ?_)))
    refine .regSeq (.z zm (.z zg (.nil ?_)))
    refine .ret (Fin.ret1 Try.results57 rfl ?_)
    obtain rfl : s.n = k := by omega
    obtain ⟨H1, g1, r1, hs⟩ := OwnS.publishI hO (by rw [wOf_length]; omega) hs .here
    exact ⟨H1, g1, r1, hs.out⟩
end Go.Proofs.Ytiiokdeehlfeeaa

namespace Go.Proofs.Ytiiokdeehlfeeaa
open Go.MW
theorem CycR.round {s : Syst} {xs : List Int} (h : CycR s xs 0) (hn : ¬ s.Sound) : RoundP s xs ∧ xs.length ≤ s.n := by
  generalize hz : (0 : Int) = y at h
  cases h with
  | bad h => exact (h hz.symm).elim
  | sound _ h1 _ => exact (hn h1).elim
  | @chain st x z k hok h1 h2 h3 h4 h5 h6 h7 =>
    obtain ⟨r, hN, hr⟩ := h2
    have hr' := hr (by simp)
    have hxin := hok.arcs.2 x (hN.ovm x rfl)
    have hreal := par_real hN hr' hxin.2.1
    have hre : ∀ i, ga st.by_ (parK st.by_ z i) ∈ s.arcs ∧ (ga st.by_ (parK st.by_ z i)).t = parK st.by_ z i := fun i => by
      have := hreal (s.n + 1 + i)
      rw [parK_add, ← h3] at this
      exact this
    have hlim : ∀ i, 0 ≤ (ga st.by_ (parK st.by_ z i)).l ∧ (ga st.by_ (parK st.by_ z i)).l < s.lims.length ∧ (lmA s (ga st.by_ (parK st.by_ z i)).l).A = ((ga st.by_ (parK st.by_ z i)).f : Int) ∧ (lmA s (ga st.by_ (parK st.by_ z i)).l).B = ((ga st.by_ (parK st.by_ z i)).t : Int) ∧ (lmA s (ga st.by_ (parK st.by_ z i)).l).M = (ga st.by_ (parK st.by_ z i)).c := fun i => by
      obtain ⟨q, l, g1, g2⟩ := arcsOf_mem (hre i).1
      rw [g2]
      have hq := (List.getElem?_eq_some_iff.1 g1).1
      have ha := hok.arc (List.mem_of_getElem? g1) q
      have e1 : (l.arc q).l = (q : Int) := rfl
      have e2 : lmA s (l.arc q).l = l := by
        rw [e1]
        have := lmA_get (s := s) (i := (q : Int)) (by omega)
        rw [Int.toNat_natCast, g1] at this
        exact (Option.some.inj this).symm
      rw [e2]
      exact ⟨by omega, by omega, ha.1.symm, ha.2.1.symm, rfl⟩
    have hxl : xs.length = k := by rw [h7, List.length_reverse, idxTo_length]
    have hget : ∀ p < k, gi xs p = (ga st.by_ (parK st.by_ z (k - 1 - p))).l := fun p hp => by
      have hp' : p < (idxTo st.by_ z k).reverse.length := by rw [List.length_reverse, idxTo_length]; exact hp
      have := gi_get hp'
      rw [List.getElem?_reverse (by simpa using hp'), idxTo_length] at this
      rw [h7]
      have e : (idxTo st.by_ z k)[k - 1 - p]? = some (ga st.by_ (parK st.by_ z (k - 1 - p))).l := by
        simp [idxTo, show k - 1 - p < k by omega]
      rw [e] at this
      exact (Option.some.inj this).symm
    have hpar : ∀ i, (ga st.by_ (parK st.by_ z i)).f = parK st.by_ z (i + 1) := fun _ => rfl
    have hn65 := hok.n65
    refine ⟨⟨by omega, by omega, fun p hp => ?_, fun p hp => ?_, ?_⟩, by omega⟩
    · rw [hget p (by omega)]
      exact ⟨(hlim _).1, (hlim _).2.1⟩
    · rw [hxl] at hp ⊢
      have hm := Nat.mod_lt (p + 1) (show k > 0 by omega)
      rw [hget p hp, hget _ hm, (hlim _).2.2.2.1, (hlim _).2.2.1, (hre _).2, hpar]
      by_cases e : p + 1 < k
      · rw [Nat.mod_eq_of_lt e, show k - 1 - (p + 1) + 1 = k - 1 - p by omega]
      · rw [show p + 1 = k by omega, Nat.mod_self, show k - 1 - 0 + 1 = k by omega, h6, show k - 1 - p = 0 by omega]; rfl
    · rw [hxl, sumTo_congr (g := fun p => (ga st.by_ (parK st.by_ z (k - 1 - p))).c) (fun p hp => by rw [hget p hp, (hlim _).2.2.2.2]), sumTo_rev (fun i => (ga st.by_ (parK st.by_ z i)).c) k]
      have hb := par_back (b := st.by_) (v := z) (k := k) fun i _ => (hlim i).1
      rw [h6] at hb
      obtain ⟨k', rfl⟩ : ∃ k', k = k' + 1 := ⟨k - 1, by omega⟩
      refine hN.cyc z ?_ k' _ hb
      have := (hok.arcs.2 _ (hre 0).1).2.1
      rw [(hre 0).2] at this
      exact this
end Go.Proofs.Ytiiokdeehlfeeaa

namespace Go.Proofs.Ytiiokdeehlfeeaa
open Go.MW
set_option maxHeartbeats 1000000 in
theorem bound_With_spec {H : Heap} {w : World} {σ : List Ent} {v : Value} {s : Syst} {l : Lim} (hs : St H w σ) (hr : RSy H v s) :
    Cl Try.prog 58 [v, .agg l.c.toArray] w fun u w' => ∃ H1 vt t e, HLe H H1 ∧ u = .tuple #[vt, I e] ∧ RSy H1 vt t ∧ WithR s l t e ∧ St H1 w' σ := by
  obtain ⟨ul, rfl, hl⟩ := hr
  obtain ⟨al, cl, rfl⟩ := RL.shape hl
  refine Cl.of Try.func58 rfl Try.ntmps58 (by simp) (args_cons (k := 0) rfl (args_cons (k := 1) rfl (args0))) ?_
  refine .regSeq ?_
  refine .o (.box hs rfl rfl ?_); intro b2 w hs
  refine .o (.box hs rfl rfl ?_); intro b3 w hs
  refine .o (.alloc hs Try.zeroValue32 rfl ?_); intro b4 w hs
  refine .z zg (.nil (.seq (.regSeq (.y hs (zls [_, _] Try.isAgg32 Try.sizeOf32) ?_))))
  refine .o (.call Try.call72 rfl (bound_Check_spec (s := s) hs ⟨_, rfl, hl⟩) ?_); rintro _ w ⟨rfl, hs⟩
  refine .z zg (.nil (.regSeq (.z zm (.z zneq (.nil ?_)))))
  refine (.condN rfl (fun hc10 => ?_) (fun hc10 => ?_))
  · refine .regSeq (.z (zbd [_, _] bld_api_System) (.z zm ?_))
    refine .o (.stores (vs := [_, _]) hs rfl rfl Try.sizeOf32 ?_); intro w hs
    refine .z zg (.nil ?_)
    refine .ret (rT (?_))
    exact Fin.retD [] [] hs fun w hs => ⟨_, results2 Try.results58 (rcells (vs := [_, _]) hs rfl Try.isAgg32 Try.sizeOf32) rfl, H, _, ⟨0, []⟩, _, HLe.refl H, rfl, ⟨_, rfl, RS.nil H 4 none 0⟩, .bad hc10, hs.out⟩
  · refine .skip ?_
    refine nT ?_
    refine .seq (.regSeq (.z (zfa fa_api_System_0) (.y hs (zld Try.isAgg3) (.y hs (zls [_, _, _, _] Try.isAgg100 Try.sizeOf100) ?_))))
    have hok : s.Ok := s.ok_iff.1 (by simpa using hc10)
    have hll := hok.len
    refine .o (.call Try.call142 rfl (bound_isLimit_spec (l := l) hs) ?_); rintro _ w ⟨rfl, hs⟩
    refine .z znot (.nil ?_)
    refine (.cond rfl (fun hc17 => ?_) (fun hc17 => ?_))
    · refine .regSeq (.z (zbd [_, _] bld_api_System) ?_)
      refine .o (.stores (vs := [_, _]) hs rfl rfl Try.sizeOf32 ?_); intro w hs
      refine .z zg (.nil ?_)
      refine .ret (rT (?_))
      exact Fin.retD [] [] hs fun w hs => ⟨_, results2 Try.results58 (rcells (vs := [_, _]) hs rfl Try.isAgg32 Try.sizeOf32) rfl, H, _, ⟨0, []⟩, _, HLe.refl H, rfl, ⟨_, rfl, RS.nil H 4 none 0⟩, .lim hok (by simpa using hc17), hs.out⟩
    · refine .skip ?_
      refine nT ?_
      refine .seq (.regSeq (.z (zfa fa_api_System_1) (.y hs (zld Try.isAgg30) (.z (zlen Try.runUnderlying30) (.z zeql (.nil ?_))))))
      refine (.condD rfl (fun hc22 => ?_) (fun hc22 => ?_))
      · refine .regSeq (.z (zbd [_, _] bld_api_System) ?_)
        refine .o (.stores (vs := [_, _]) hs rfl rfl Try.sizeOf32 ?_); intro w hs
        refine .z zg (.nil ?_)
        refine .ret (rT (?_))
        exact Fin.retD [] [] hs fun w hs => ⟨_, results2 Try.results58 (rcells (vs := [_, _]) hs rfl Try.isAgg32 Try.sizeOf32) rfl, H, _, ⟨0, []⟩, _, HLe.refl H, rfl, ⟨_, rfl, RS.nil H 4 none 0⟩, .long hok (by simpa using hc17) (by omega), hs.out⟩
      · refine .skip ?_
        refine nT ?_
        refine .seq (.draw mix rfl hs ?_); intro w hs
        refine .z 0 rfl (zfa fa_api_System_0) ?_; refine .y 1 rfl hs Try.isAgg3 ?_; refine .z 2 rfl (zfa fa_api_System_1) ?_; refine .y 3 rfl hs Try.isAgg30 ?_; refine .ys 5 rfl hs [_, _, _, _] Try.isAgg100 Try.sizeOf100 ?_
        refine .e2 (i := 4) (j := 6) (by kernel_rfl) rfl rfl rfl rfl .none .none hs ?_ ?_
        · refine .call Try.call143 rfl (slices_Clone_Lim hs hl (by omega)) ?_; rintro v28 w ⟨en28, hO28, hs⟩
          obtain ⟨a28, l28, c28, rfl, h28⟩ := hO28.shape
          refine .go ?_
          refine .e1 (i := 6) (by kernel_rfl) rfl rfl .none hs ?_
          refine .buildSlice (cells := l.c) hs bls_sl_api_Limit_1 rfl rfl ?_; intro b30 w hs
          refine .go ?_
          refine .e1 (i := 7) (by kernel_rfl) rfl rfl .none hs ?_
          refine .append (ys := l.c) hs app_sl_api_Limit_api_Limit rfl rfl hO28 (.own (by repeat (first | exact .here | refine .there ?_)) rfl rfl) (by simp [Lim.c, Value.oneCell']) (fun l' h => by rw [Lims_length] at h; omega) ?_; intro v31 en31 w hO31 hs
          obtain ⟨a31, l31, c31, rfl, h31⟩ := hO31.shape
          rw [← Lims_one, ← Lims_append] at hO31
          refine .go ?_
          refine .z 8 rfl (zbd [_, _] bld_api_System) ?_
          refine .e1 (i := 9) (by kernel_rfl) rfl rfl .none hs ?_
          refine .stores (vs := [_, _]) hs rfl rfl Try.sizeOf32 ?_; intro w hs
          refine .go ?_
          refine .z 10 rfl zg ?_; refine .done (by kernel_rfl) hs ?_
          refine .ret ?_
          obtain ⟨H1, g1, r1, hs⟩ := OwnS.publish (m := 4) (cs := (s.lims ++ [l]).map Lim.c) hO31 (fun c hc => by simp only [List.mem_map] at hc; obtain ⟨x, _, rfl⟩ := hc; rfl) (by omega) (by simp; omega) hs (by repeat constructor)
          exact Fin.retD [] [] hs fun w hs => ⟨_, results2 Try.results58 (rcells (vs := [_, _]) hs rfl Try.isAgg32 Try.sizeOf32) rfl, H1, _, ⟨s.many, s.lims ++ [l]⟩, _, g1, rfl, ⟨_, rfl, r1⟩, .ok hok (by simpa using hc17) (by omega), hs.out⟩
        · refine .buildSlice (cells := l.c) hs bls_sl_api_Limit_1 rfl rfl ?_; intro b30 w hs
          refine .go ?_
          refine .e1 (i := 4) (by kernel_rfl) rfl rfl .none hs ?_
          refine .call Try.call143 rfl (slices_Clone_Lim hs hl (by omega)) ?_; rintro v28 w ⟨en28, hO28, hs⟩
          obtain ⟨a28, l28, c28, rfl, h28⟩ := hO28.shape
          refine .go ?_
          refine .e1 (i := 7) (by kernel_rfl) rfl rfl .none hs ?_
          refine .append (ys := l.c) hs app_sl_api_Limit_api_Limit rfl rfl hO28 (.own (by repeat (first | exact .here | refine .there ?_)) rfl rfl) (by simp [Lim.c, Value.oneCell']) (fun l' h => by rw [Lims_length] at h; omega) ?_; intro v31 en31 w hO31 hs
          obtain ⟨a31, l31, c31, rfl, h31⟩ := hO31.shape
          rw [← Lims_one, ← Lims_append] at hO31
          refine .go ?_
          refine .z 8 rfl (zbd [_, _] bld_api_System) ?_
          refine .e1 (i := 9) (by kernel_rfl) rfl rfl .none hs ?_
          refine .stores (vs := [_, _]) hs rfl rfl Try.sizeOf32 ?_; intro w hs
          refine .go ?_
          refine .z 10 rfl zg ?_; refine .done (by kernel_rfl) hs ?_
          refine .ret ?_
          obtain ⟨H1, g1, r1, hs⟩ := OwnS.publish (m := 4) (cs := (s.lims ++ [l]).map Lim.c) hO31 (fun c hc => by simp only [List.mem_map] at hc; obtain ⟨x, _, rfl⟩ := hc; rfl) (by omega) (by simp; omega) hs (by repeat constructor)
          exact Fin.retD [] [] hs fun w hs => ⟨_, results2 Try.results58 (rcells (vs := [_, _]) hs rfl Try.isAgg32 Try.sizeOf32) rfl, H1, _, ⟨s.many, s.lims ++ [l]⟩, _, g1, rfl, ⟨_, rfl, r1⟩, .ok hok (by simpa using hc17) (by omega), hs.out⟩
end Go.Proofs.Ytiiokdeehlfeeaa

namespace Go.Proofs.Ytiiokdeehlfeeaa
open Go.MW
theorem RI.one {H : Heap} {a : Option Addr} {len cap k : Nat} {xs : List Int} (h : RI H (.slice a len cap) xs) (hk : k < len) : RI H (.slice (if cap = k then a else a.map (·.add (k * 1))) (k + 1 - k) (cap - k)) [gi xs k] := by
  have hl := (RI.len h).1
  have h1 := RS.part h (lo := k) (hi := k + 1) (by omega) (by omega)
  have e : (((xs.map fun x => [I x]).take (k + 1)).drop k) = [gi xs k].map fun x => [I x] := by
    rw [← List.map_take, ← List.map_drop]
    congr 1
    have hx := gi_get (l := xs) (i := k) (by omega)
    rw [take_snoc hx]
    exact List.drop_left' (by rw [List.length_take]; omega)
  rw [e] at h1
  exact h1
end Go.Proofs.Ytiiokdeehlfeeaa

namespace Go.Proofs.Ytiiokdeehlfeeaa
open Go.MW
theorem made_one {s : Syst} {l : Lim} (h : 1 ≤ s.many ∧ s.many ≤ 6) : madeS ⟨s.many - 1, [l]⟩ = ⟨s.many, [madeLim s.many l]⟩ := by
  have e : madeN ⟨s.many - 1, [l]⟩ = s.many := by simp only [madeN]; omega
  unfold madeS
  rw [e]; rfl
theorem madeLim_valid {n : Int} (h : 1 ≤ n ∧ n ≤ 6) (l : Lim) : (madeLim n l).ok n = true := by
  obtain ⟨h1, h2, h3, h4, h5⟩ := madeLim_ok h l
  unfold Lim.ok
  exact decide_eq_true ⟨h1, h2, h3, by omega, by omega⟩
set_option maxHeartbeats 8000000 in
theorem law_BoundOpens_walk {H : Heap} {w : World} {σ : List Ent} {v vn : Value} {r : Syst} {ns : List Int} {l : Lim} (hs : St H w σ) (hr : RSy H v r) (hn : RI H vn ns) :
    Cl Try.prog 11 [v, vn, .agg l.c.toArray] w fun v w' => v = .bool true ∧ ∃ H', HLe H H' ∧ St H' w' σ := by
  obtain ⟨ul, rfl, hl⟩ := hr
  obtain ⟨al, cl, rfl⟩ := RL.shape hl
  obtain ⟨an, cn, rfl⟩ := RI.shape hn
  refine Cl.of Try.func11 rfl Try.ntmps11 (by simp) (args_cons (k := 0) rfl (args_cons (k := 1) rfl (args_cons (k := 2) rfl (args0)))) ?_
  refine .regSeq ?_
  refine .o (.box hs rfl rfl ?_); intro b3 w hs
  refine .o (.box hs rfl rfl ?_); intro b5 w hs
  refine .z zg (.nil (.regSeq (.y hs (zls [_, _] Try.isAgg85 Try.sizeOf85) ?_)))
  refine .o (.call Try.call51 rfl (law02_made_spec (r := r) hs ⟨_, rfl, hl⟩) ?_); rintro _ w ⟨H1, hle1, ⟨u24, rfl, hL⟩, hs⟩
  obtain ⟨a24, c24, rfl⟩ := RL.shape hL
  have hok := madeS_ok r
  have hmade := made_ask r ns
  have hmn : 1 ≤ (madeS r).many ∧ (madeS r).many ≤ 6 := madeN_bd r
  have hl20 : (madeS r).lims.length ≤ 20 := by simp only [madeS, List.length_map, List.length_take]; omega
  generalize madeS r = s at hL hok hmade hmn hl20 ⊢
  have hnn : (s.n : Int) = s.many + 1 := by have := hok.m0; simp only [Syst.n]; omega
  have hWb := wOf_bd s.n ns
  have hWl := wOf_length s.n ns
  refine .o (.alloc hs Try.zeroValue32 rfl ?_); intro b7 w hs
  refine .o (.stores (vs := [_, _]) hs rfl rfl Try.sizeOf32 ?_); intro w hs
  refine .nil (.regSeq (.y hs (zls [_, _] Try.isAgg32 Try.sizeOf32) (.z zm ?_)))
  refine .o (.call Try.call57 rfl (law02_weights_spec (s := s) hs ⟨_, rfl, hL⟩ (hn.mono hle1) ⟨hok.m0, hok.m1⟩) ?_); rintro v27 w ⟨H2, hle2, rw8, hs⟩
  obtain ⟨a8, c8, rfl⟩ := RI.shape rw8
  generalize wOf s.n ns = W at rw8 hmade hWb hWl
  obtain ⟨_, _, hWz⟩ := askErr_ok hmade
  have hle12 := hle1.trans hle2
  have hL2 := hL.mono hle2
  refine .z zg (.nil (.regSeq (.y hs (zls [_, _] Try.isAgg32 Try.sizeOf32) (.z zm ?_))))
  refine .o (.call Try.call56 rfl (bound_Most_spec (s := s) hs ⟨_, rfl, hL2⟩ rw8) ?_); rintro _ w ⟨H3, n1, e, hle3, rfl, hM, hs⟩
  have hkinds := ask_kinds hmade hM.1
  have hle13 := hle12.trans hle3
  refine .z zm (.z zex (.z zex (.z zg (.z zg (.nil (.regSeq (.z (zfa fa_api_System_0) (.y hs (zld Try.isAgg3) (.z zsub ?_)))))))))
  refine .y hs (zls [_, _, _, _] Try.isAgg95 Try.sizeOf95) ?_
  refine .o (.buildSlice (cells := [_, _, _, _]) hs bls_sl_4_int_1 rfl rfl ?_); intro b38 w hs
  refine .z (zbd [_, _] bld_moorsomlaw02_Raw) ?_
  change St _ _ (.blk b38 ([l].map Lim.c).flatten :: _) at hs
  obtain ⟨H4, hle4, r38, hs⟩ := OwnS.publish (m := 4) (v := .slice (some ⟨b38, 0, none⟩) 1 1) (cs := [l].map Lim.c) (.full (len := 1) rfl) (fun c hc => by simp at hc; subst hc; rfl) (by omega) (by simp) hs (by repeat constructor)
  refine .o (.call Try.call51 rfl (law02_made_spec (r := ⟨s.many - 1, [l]⟩) hs ⟨_, rfl, r38⟩) ?_); rintro _ w ⟨H5, hle5, ⟨u40, rfl, hL40⟩, hs⟩
  rw [made_one hmn] at hL40 ⊢
  have hlv := madeLim_valid hmn l
  generalize madeLim s.many l = l2 at hL40 hlv ⊢
  obtain ⟨a40, c40, rfl⟩ := RL.shape hL40
  have hle25 := hle3.trans (hle4.trans hle5)
  have hle15 := hle12.trans hle25
  have hbig := with_ok hok hlv (by omega)
  have hbA : askErr ⟨s.many, s.lims ++ [l2]⟩ W = 0 := askErr_zero hbig (by rw [hWl]; rfl) hWz
  refine .o (.alloc hs Try.zeroValue32 rfl ?_); intro b11 w hs
  refine .o (.stores (vs := [_, _]) hs rfl rfl Try.sizeOf32 ?_); intro w hs
  refine .nil ?_
  refine .cut (fun fs w => ∃ b12 u12 Hm, FSub fs ⟨161, [], [(13, I 0), (12, .pointer (some ⟨b12, 0, none⟩)), (10, I e), (8, .slice a8 W.length c8), (7, .pointer (some ⟨b7, 0, none⟩))]⟩ ∧ HLe H5 Hm ∧ RL Hm u12 (s.lims ++ [l2]) ∧ St Hm w (.blk b12 [I s.many, u12] :: .blk b7 [I s.many, .slice a24 s.lims.length c24] :: σ)) ?_ ?_
  · refine .draw mix rfl hs ?_; intro w hs
    refine .ys 0 rfl hs [_, _] Try.isAgg32 Try.sizeOf32 ?_; refine .z 1 rfl (zfa fa_api_System_1) ?_; refine .y 2 rfl hs Try.isAgg30 ?_
    refine .ixX (enc := Lim.c) (i := 3) hs rfl (by kernel_rfl) .none hL40 rfl rfl Try.runUnderlying30 Try.sizeOf100 (rfl : [l2][0]? = some l2) (by first | rfl | assumption | omega) ?_; intro b45 o45 hc45
    refine .r (i := 4) hs rfl (by kernel_rfl) .none (q_loadsR (vs := (Lim.c l2)) rfl Try.isAgg100 Try.sizeOf100 hc45) ?_
    refine .e2 (i := 5) (j := 9) (by kernel_rfl) rfl rfl rfl rfl .none .none hs ?_ ?_
    · refine .call Try.call58 rfl (bound_With_spec (s := s) (l := l2) hs ⟨_, rfl, hL2.mono hle25⟩) ?_; rintro _ w ⟨H6, vt, t, e13, hle6, rfl, ⟨ut, rfl, hLt⟩, hWi, hs⟩
      obtain ⟨rfl, rfl⟩ := hWi.uniq (.ok hok hlv (by omega))
      obtain ⟨at6, ct6, rfl⟩ := RL.shape hLt
      refine .go ?_
      refine .z 6 rfl zm ?_; refine .z 7 rfl zex ?_; refine .z 8 rfl zex ?_
      refine .e1 (i := 9) (by kernel_rfl) rfl rfl .none hs ?_
      refine .alloc hs Try.zeroValue32 rfl ?_; intro b12 w hs
      refine .go ?_
      refine .e1 (i := 10) (by kernel_rfl) rfl rfl .none hs ?_
      refine .stores (vs := [_, _]) hs rfl rfl Try.sizeOf32 ?_; intro w hs
      refine .go ?_
      refine .z 11 rfl zg ?_; refine .done (by kernel_rfl) hs ?_
      exact nT ⟨b12, _, H6, by repeat (first | exact .nil rfl rfl | refine .cons rfl ?_), hle6, hLt, hs.sub (by repeat (first | exact Sub.refl _ | constructor | apply Sub.weaken))⟩
    · refine .alloc hs Try.zeroValue32 rfl ?_; intro b12 w hs
      refine .go ?_
      refine .e1 (i := 5) (by kernel_rfl) rfl rfl .none hs ?_
      refine .call Try.call58 rfl (bound_With_spec (s := s) (l := l2) hs ⟨_, rfl, hL2.mono hle25⟩) ?_; rintro _ w ⟨H6, vt, t, e13, hle6, rfl, ⟨ut, rfl, hLt⟩, hWi, hs⟩
      obtain ⟨rfl, rfl⟩ := hWi.uniq (.ok hok hlv (by omega))
      obtain ⟨at6, ct6, rfl⟩ := RL.shape hLt
      refine .go ?_
      refine .z 6 rfl zm ?_; refine .z 7 rfl zex ?_; refine .z 8 rfl zex ?_
      refine .e1 (i := 10) (by kernel_rfl) rfl rfl .none hs ?_
      refine .stores (vs := [_, _]) hs rfl rfl Try.sizeOf32 ?_; intro w hs
      refine .go ?_
      refine .z 11 rfl zg ?_; refine .done (by kernel_rfl) hs ?_
      exact nT ⟨b12, _, H6, by repeat (first | exact .nil rfl rfl | refine .cons rfl ?_), hle6, hLt, hs.sub (by repeat (first | exact Sub.refl _ | constructor | apply Sub.weaken))⟩
  · rintro fs w ⟨b12, u12, H6, hfs, hle6, hL12, hs⟩
    refine WE.sub ?_ hfs
    obtain ⟨a12, c12, rfl⟩ := RL.shape hL12
    refine .regSeq (.y hs (zls [_, _] Try.isAgg32 Try.sizeOf32) (.z zm ?_))
    refine .o (.call Try.call56 rfl (bound_Most_spec (s := ⟨s.many, s.lims ++ [l2]⟩) hs ⟨_, rfl, hL12⟩ (rw8.mono (hle25.trans hle6))) ?_); rintro _ w ⟨H7, n2, g, hle7, rfl, hM2, hs⟩
    have hcmp := most_sub (s := ⟨s.many, s.lims ++ [l2]⟩) (t := s) hok rfl (fun l hl => List.mem_append.2 (.inl hl)) hbA hM2 hM
    have hle27 := hle25.trans (hle6.trans hle7)
    have hle17 := hle12.trans hle27
    have hL7 := hL2.mono hle27
    have rw7 := rw8.mono hle27
    refine .z zm (.z zex (.z zex (.z zg (.z zg (.nil ?_)))))
    refine .cut (fun fs w => FSub fs ⟨161, [], [(10, I e), (8, .slice a8 W.length c8), (7, .pointer (some ⟨b7, 0, none⟩))]⟩ ∧ St H7 w (.blk b7 [I s.many, .slice a24 s.lims.length c24] :: σ)) ?_ ?_
    · refine .regSeq (.z zm (.z zneq (.z zm ?_)))
      refine .bifN (t' := 58) rfl (fun hb58 => ?_) (fun hb58 => ?_)
      · refine .gFs 3 2 false rfl rfl rfl ?_
        refine .gFs 2 5 true rfl rfl rfl ?_
        refine .gFs 2 2 false rfl rfl rfl ?_
        refine .gFs 2 9 true rfl rfl rfl ?_
        refine .gFs 1 2 false rfl rfl rfl ?_
        refine .z zpT (.nil ?_)
        refine (.condT rfl rfl ?_)
        refine .regSeq (.z zg (.nil ?_))
        refine .ret (rT (Fin.ret1 Try.results11 rfl ?_))
        first | exact ⟨rfl, H12, hleF, hs.out⟩ | contradiction | (exfalso; omega) | (exfalso; obtain ⟨q, q1, q2, q3⟩ := hfree; exact hno q q1 (by omega) q3) | (exfalso; simp_all; done)
      · refine .gT rfl rfl ?_
        refine .z zm ?_
        refine .gT rfl rfl ?_
        refine .z zeql ?_
        refine .gT rfl rfl ?_
        refine .z zm ?_
        refine .bifD (t' := 61) rfl (fun hb61 => ?_) (fun hb61 => ?_)
        · refine .gT rfl rfl ?_
          refine .z zm ?_
          refine .gT rfl rfl ?_
          refine .z zneq ?_
          refine .gT rfl rfl ?_
          refine .z zpT ?_
          refine .gT rfl rfl ?_
          refine .z zm ?_
          refine .bifN (t' := 65) rfl (fun hb65 => ?_) (fun hb65 => ?_)
          · refine .gT rfl rfl ?_
            refine .z zm ?_
            refine .gT rfl rfl ?_
            refine .z zneq ?_
            refine .gT rfl rfl ?_
            refine .z zpT (.z zpF (.nil ?_))
            refine (.condN rfl (fun hc69 => ?_) (fun hc69 => ?_))
            · refine .regSeq (.z zg (.nil ?_))
              refine .ret (rT (Fin.ret1 Try.results11 rfl ?_))
              first | exact ⟨rfl, H12, hleF, hs.out⟩ | contradiction | (exfalso; omega) | (exfalso; obtain ⟨q, q1, q2, q3⟩ := hfree; exact hno q q1 (by omega) q3) | (exfalso; simp_all; done)
            · refine .skip ?_
              refine nT ?_
              exact ⟨by repeat (first | exact .nil rfl rfl | refine .cons rfl ?_), hs.sub (by repeat (first | exact Sub.refl _ | constructor | apply Sub.weaken))⟩
          · refine .gFs 2 9 true rfl rfl rfl ?_
            refine .gT rfl rfl ?_
            refine .z zpF (.z zpF (.nil ?_))
            refine (.condF rfl rfl ?_)
            refine .skip ?_
            refine nT ?_
            exact ⟨by repeat (first | exact .nil rfl rfl | refine .cons rfl ?_), hs.sub (by repeat (first | exact Sub.refl _ | constructor | apply Sub.weaken))⟩
        · refine .gFs 2 5 true rfl rfl rfl ?_
          refine .gT rfl rfl ?_
          refine .z zpF ?_
          refine .gT rfl rfl ?_
          refine .z zm ?_
          refine .gFs 2 9 true rfl rfl rfl ?_
          refine .gT rfl rfl ?_
          refine .z zpF (.z zpF (.nil ?_))
          refine (.condF rfl rfl ?_)
          refine .skip ?_
          refine nT ?_
          exact ⟨by repeat (first | exact .nil rfl rfl | refine .cons rfl ?_), hs.sub (by repeat (first | exact Sub.refl _ | constructor | apply Sub.weaken))⟩
    · rintro fs w ⟨hfs, hs⟩
      refine WE.sub ?_ hfs
      refine .seq (.regSeq (.z zm (.z zneq (.nil ?_))))
      refine (.condN rfl (fun hc71 => ?_) (fun hc71 => ?_))
      · refine .regSeq (.z zm (.z zeql (.z zm ?_)))
        refine .bifD (t' := 74) rfl (fun hb74 => ?_) (fun hb74 => ?_)
        · refine .gFs 2 2 false rfl rfl rfl ?_
          refine .z zpT (.z zm ?_)
          refine .gT rfl rfl ?_
          refine .o (.call Try.call54 rfl (law02_sane_spec hs) ?_); rintro _ w ⟨rfl, H12, hle12', hs⟩
          have hleF := hle17.trans hle12'
          refine .z zpT (.z zg (.nil ?_))
          refine .ret (rT (Fin.ret1 Try.results11 rfl ?_))
          first | exact ⟨rfl, H12, hleF, hs.out⟩ | contradiction | (exfalso; omega) | (exfalso; obtain ⟨q, q1, q2, q3⟩ := hfree; exact hno q q1 (by omega) q3) | (exfalso; simp_all; done)
        · refine .gT rfl rfl ?_
          refine .z zm ?_
          refine .gT rfl rfl ?_
          refine .z zeql (.z zpF (.z zm ?_))
          refine .bifD (t' := 78) rfl (fun hb78 => ?_) (fun hb78 => ?_)
          · refine .gT rfl rfl ?_
            refine .o (.call Try.call54 rfl (law02_sane_spec hs) ?_); rintro _ w ⟨rfl, H12, hle12', hs⟩
            have hleF := hle17.trans hle12'
            refine .z zpT (.z zg (.nil ?_))
            refine .ret (rT (Fin.ret1 Try.results11 rfl ?_))
            first | exact ⟨rfl, H12, hleF, hs.out⟩ | contradiction | (exfalso; omega) | (exfalso; obtain ⟨q, q1, q2, q3⟩ := hfree; exact hno q q1 (by omega) q3) | (exfalso; simp_all; done)
          · refine .gFs 1 6 true rfl rfl rfl ?_
            refine .z zpF (.z zg (.nil ?_))
            refine .ret (rT (Fin.ret1 Try.results11 rfl ?_))
            first | exact ⟨rfl, H12, hleF, hs.out⟩ | contradiction | (exfalso; omega) | (exfalso; obtain ⟨q, q1, q2, q3⟩ := hfree; exact hno q q1 (by omega) q3) | (exfalso; simp_all; done)
      · refine .skip ?_
        refine nT ?_
        refine .seq (.regSeq ?_)
        have he22 : e = 22 := hc71
        have hfree : ∃ m, 1 ≤ m ∧ m < 2 ^ s.n ∧ FreeS s W m := by
          subst he22
          refine free_exists hok ?_
          by_cases hsd : s.Sound
          · rcases ask_sound hmade hsd hM.1 with ⟨_, h⟩ | ⟨h, _⟩
            · exact h
            · omega
          · have := hM.1.uniq (.clash hmade hsd); omega
        have h128 : 2 ^ s.n ≤ 128 := Nat.le_trans (Nat.pow_le_pow_right (by omega) (show s.n ≤ 7 by omega)) (by decide)
        refine .z zg (.nil (.block ?_))
        refine .loop (fun m : Nat => ⟨161, [], [(16, I (m : Int)), (8, .slice a8 W.length c8), (7, .pointer (some ⟨b7, 0, none⟩))]⟩)
          (fun m w => 1 ≤ m ∧ m ≤ 2 ^ s.n ∧ (∀ j, 1 ≤ j → j < m → ¬ FreeS s W j) ∧ St H7 w (.blk b7 [I s.many, .slice a24 s.lims.length c24] :: σ)) (fun m => 2 ^ s.n - m) 1 (.consI rfl (by rfl) (by repeat (first | exact .nil rfl rfl | refine .cons rfl ?_)))
          ⟨Nat.le_refl _, Nat.one_le_two_pow, fun j h1 h2 => by omega, hs⟩ ?_
        clear hs
        rintro m w ⟨hm1, hm2, hno, hs⟩
        refine .seq (.regSeq (.z zm (.z (zfa fa_api_System_0) (.y hs (zld Try.isAgg3) (.z zadd ?_)))))
        rw [show s.many + 1 = (s.n : Int) from hnn.symm]
        refine .z (q_shl1 (k := s.n) rfl rfl (by omega)) (.z zlss (.nil ?_))
        refine (.condD rfl (fun hc86 => ?_) (fun hc86 => ?_))
        · refine .skip ?_
          refine nT ?_
          refine .seq (.block (.regSeq (.z zg (.nil (.regSeq (.z zg (.nil (.seq (.regSeq ?_)))))))))
          refine .z zg (.nil (.block ?_))
          refine .loop (fun i : Nat => ⟨161, [], [(19, I (i : Int)), (17, I (upI W m i)), (18, .bool true), (16, I (m : Int)), (8, .slice a8 W.length c8), (7, .pointer (some ⟨b7, 0, none⟩))]⟩)
            (fun i w => i ≤ s.n ∧ St H7 w (.blk b7 [I s.many, .slice a24 s.lims.length c24] :: σ)) (fun i => s.n - i) 0 (by repeat (first | exact .nil rfl rfl | refine .cons rfl ?_))
            ⟨by omega, hs⟩ ?_
          clear hs
          rintro i w ⟨hi, hs⟩
          have hub := upI_bd hWb m i
          have hdi : m / 2 ^ i ≤ m := Nat.div_le_self _ _
          refine .seq (.regSeq (.z zm (.z (zfa fa_api_System_0) (.y hs (zld Try.isAgg3) (.z zleq (.nil ?_))))))
          refine (.condD rfl (fun hc92 => ?_) (fun hc92 => ?_))
          · refine .skip ?_
            refine nT ?_
            refine .seq (.block (.regSeq (.z zm (.z zm (.z (q_shrI (m := m) (i := i) rfl rfl (by omega)) (.z (q_and1 (m := m / 2 ^ i) rfl rfl (by omega)) ?_))))))
            change WO _ _ _ _ _ ⟨_, _, (98, I ((bit m i : Nat) : Int)) :: _⟩ _
            refine .z zeql (.z zm ?_)
            refine .bifD (t' := 100) rfl (fun hb100 => ?_) (fun hb100 => ?_)
            · refine .gT rfl rfl ?_
              refine .z zm ?_
              refine .gT rfl rfl ?_
              refine .z zgtr (.z zpT (.nil ?_))
              refine (.condD rfl (fun hc103 => ?_) (fun hc103 => ?_))
              · refine .region (.z zm (.z zm (.z zm ?_)))
                have hwi := hWb i
                refine .ixY hs rw7 rfl rfl Try.runUnderlying22 Try.sizeOf3 (gi_get (l := W) (i := i) (by omega)) rfl ?_; intro b107 o107 hc107
                refine .q hs (q_loadR rfl Try.isAgg3 hc107) ?_
                refine .z zadd (.z zg (.nil ?_))
                refine nB (nT ?_)
                refine .region (.z zm (.z zadd (.z zg (.nil ?_))))
                refine nT ?_
                have e1 : upI W m (i + 1) = upI W m i + gi W i := by simp only [upI]; rw [if_pos ⟨by omega, by omega⟩]
                exact ⟨i + 1, .cons rfl (.consI rfl e1.symm (by repeat (first | exact .nil rfl rfl | refine .cons rfl ?_))), ⟨by omega, hs⟩, by omega⟩
              · refine .skip ?_
                refine nB (nT ?_)
                refine .region (.z zm (.z zadd (.z zg (.nil ?_))))
                refine nT ?_
                have e1 : upI W m (i + 1) = upI W m i := by simp only [upI]; rw [if_neg (by omega)]; omega
                exact ⟨i + 1, .cons rfl (.consI rfl e1.symm (by repeat (first | exact .nil rfl rfl | refine .cons rfl ?_))), ⟨by omega, hs⟩, by omega⟩
            · refine .gFs 2 5 true rfl rfl rfl ?_
              refine .z zpF (.nil ?_)
              refine (.condF rfl rfl ?_)
              refine .skip ?_
              refine nB (nT ?_)
              refine .region (.z zm (.z zadd (.z zg (.nil ?_))))
              refine nT ?_
              have e1 : upI W m (i + 1) = upI W m i := by simp only [upI]; rw [if_neg (by omega)]; omega
              exact ⟨i + 1, .cons rfl (.consI rfl e1.symm (by repeat (first | exact .nil rfl rfl | refine .cons rfl ?_))), ⟨by omega, hs⟩, by omega⟩
          · refine .exit ?_
            refine xT (xT (xB (nT ?_)))
            refine .seq (.regSeq (.z (zfa fa_api_System_1) (.y hs (zld Try.isAgg30) (.z (zlen Try.runUnderlying30) (.z zm (.nil ?_))))))
            refine .for (N := s.lims.length) (J := fun k fr w => ∃ ff : Bool, fr = [(18, .bool ff), (111, .slice a24 s.lims.length c24), (17, I (upI W m s.n)), (16, I (m : Int)), (8, .slice a8 W.length c8), (7, .pointer (some ⟨b7, 0, none⟩))] ∧ (ff = true ↔ ∀ j < k, ∀ x, s.lims[j]? = some x → (bit m x.B.toNat = 0 ∨ bit m x.A.toNat = 1)) ∧ St H7 w (.blk b7 [I s.many, .slice a24 s.lims.length c24] :: σ)) (by omega) ?_ ?_ ?_
            · obtain rfl : i = s.n := by omega
              exact .mk ⟨true, rfl, ⟨fun _ j hj => by omega, fun _ => rfl⟩, hs⟩
            · rintro k fr w hk ⟨ff, rfl, hff, hs⟩
              have hx := gl_get hk
              obtain ⟨⟨hA1, hA2⟩, ⟨hB1, hB2⟩, _⟩ := hok.lim _ (gl_mem hk)
              generalize gl s.lims k = x at hx hA1 hA2 hB1 hB2
              have hstep : (∀ j < k + 1, ∀ y, s.lims[j]? = some y → (bit m y.B.toNat = 0 ∨ bit m y.A.toNat = 1)) ↔ (∀ j < k, ∀ y, s.lims[j]? = some y → (bit m y.B.toNat = 0 ∨ bit m y.A.toNat = 1)) ∧ (bit m x.B.toNat = 0 ∨ bit m x.A.toNat = 1) :=
                ⟨fun h => ⟨fun j hj y hy => h j (by omega) y hy, h k (by omega) x hx⟩, fun ⟨h1, h2⟩ => upto_succ h1 hx h2⟩
              have hbA := bit_01 m x.A.toNat
              have hdA : m / 2 ^ x.A.toNat ≤ m := Nat.div_le_self _ _
              have hdB : m / 2 ^ x.B.toNat ≤ m := Nat.div_le_self _ _
              have hAn : x.A = (x.A.toNat : Int) := by omega
              have hBn : x.B = (x.B.toNat : Int) := by omega
              refine .block (.regSeq ?_)
              refine .ixX (enc := Lim.c) hs hL7 rfl rfl Try.runUnderlying30 Try.sizeOf100 hx (by first | rfl | assumption | omega) ?_; intro b115 o115 hc115
              refine .q hs (q_loadsR (vs := (Lim.c x)) rfl Try.isAgg100 Try.sizeOf100 hc115) ?_
              refine .o (.alloc hs Try.zeroValue100 rfl ?_); intro b21 w hs
              refine .o (.stores (vs := x.c) hs rfl rfl Try.sizeOf100 ?_); intro w hs
              change St _ _ (.blk b21 [I x.A, I x.B, I x.M, I x.S] :: _) at hs
              refine .nil (.region (.z zm (.z zm ?_)))
              refine .bif (t' := 118) rfl (fun hb118 => ?_) (fun hb118 => ?_)
              · refine .gT rfl rfl ?_
                refine .z zm ?_
                refine .gT rfl rfl ?_
                refine .z (zfa fa_api_Limit_1) ?_
                refine .gT rfl rfl ?_
                refine .y hs (zld Try.isAgg3) ?_
                refine .gT rfl rfl ?_
                refine .z (q_shrI (m := m) (i := x.B.toNat) rfl (by rw [← hBn]; rfl) (by omega)) ?_
                refine .gT rfl rfl ?_
                refine .z (q_and1 (m := m / 2 ^ x.B.toNat) rfl rfl (by omega)) ?_
                change WO _ _ _ _ _ ⟨_, _, (123, I ((bit m x.B.toNat : Nat) : Int)) :: _⟩ _
                refine .gT rfl rfl ?_
                refine .z zeql ?_
                refine .gT rfl rfl ?_
                refine .z zm ?_
                refine .bifD (t' := 125) rfl (fun hb125 => ?_) (fun hb125 => ?_)
                · refine .gFs 6 8 false rfl rfl rfl ?_
                  refine .gT rfl rfl ?_
                  refine .z zpT (.z zpT (.z zg (.nil ?_)))
                  refine nB (nT ?_)
                  exact .mk ⟨true, rfl, by rw [hstep]; exact ⟨fun _ => ⟨hff.1 (by assumption), .inl (by omega)⟩, fun _ => rfl⟩, hs.sub (by repeat (first | exact Sub.refl _ | constructor | apply Sub.weaken))⟩
                · refine .gT rfl rfl ?_
                  refine .z zm ?_
                  refine .gT rfl rfl ?_
                  refine .z (zfa fa_api_Limit_0) ?_
                  refine .gT rfl rfl ?_
                  refine .y hs (zld Try.isAgg3) ?_
                  refine .gT rfl rfl ?_
                  refine .z (q_shrI (m := m) (i := x.A.toNat) rfl (by rw [← hAn]; rfl) (by omega)) ?_
                  refine .gT rfl rfl ?_
                  refine .z (q_and1 (m := m / 2 ^ x.A.toNat) rfl rfl (by omega)) ?_
                  change WO _ _ _ _ _ ⟨_, _, (130, I ((bit m x.A.toNat : Nat) : Int)) :: _⟩ _
                  refine .gT rfl rfl ?_
                  refine .z zeql ?_
                  refine .gT rfl rfl ?_
                  refine .z zpF (.z zpT (.z zg (.nil ?_)))
                  refine nB (nT ?_)
                  exact .mk ⟨decide (((bit m x.A.toNat : Nat) : Int) = 1), rfl, by
                    rw [hstep, decide_eq_true_eq]
                    exact ⟨fun h => ⟨hff.1 (by assumption), .inr (by omega)⟩, fun h => by omega⟩, hs.sub (by repeat (first | exact Sub.refl _ | constructor | apply Sub.weaken))⟩
              · refine .gFs 7 1 true rfl rfl rfl ?_
                refine .gFs 6 8 false rfl rfl rfl ?_
                refine .gFs 1 1 true rfl rfl rfl ?_
                refine .z zpF (.z zg (.nil ?_))
                refine nB (nT ?_)
                exact .mk ⟨false, rfl, by
                  rw [hstep]
                  exact ⟨fun h => (by cases h), fun h => by have h1 := hff.2 h.1; rw [h1] at hb118; cases hb118⟩, hs.sub (by repeat (first | exact Sub.refl _ | constructor | apply Sub.weaken))⟩
            · rintro fr w ⟨ff, rfl, hff, hs⟩
              have hub2 := upI_bd hWb m s.n
              refine nT ?_
              refine .cut (fun fs w => ∃ U : Int, FSub fs ⟨161, [], [(18, .bool ff), (17, I U), (16, I (m : Int)), (8, .slice a8 W.length c8), (7, .pointer (some ⟨b7, 0, none⟩))]⟩ ∧ U = (if bit m 0 = 1 then upO W m (s.n - 1) else upI W m s.n) ∧ St H7 w (.blk b7 [I s.many, .slice a24 s.lims.length c24] :: σ)) ?_ ?_
              · refine .regSeq (.z zm (.z (q_and1 (m := m) rfl rfl (by omega)) ?_))
                rw [show m % 2 = bit m 0 by unfold bit; rw [Nat.pow_zero, Nat.div_one]]
                refine .z zeql (.nil ?_)
                refine (.condD rfl (fun hc137 => ?_) (fun hc137 => ?_))
                · refine .regSeq (.z zg (.nil (.regSeq (.z zg (.nil (.block ?_))))))
                  refine .loop (fun i : Nat => ⟨161, [], [(22, I ((i + 1 : Nat) : Int)), (17, I (upO W m i)), (18, .bool ff), (16, I (m : Int)), (8, .slice a8 W.length c8), (7, .pointer (some ⟨b7, 0, none⟩))]⟩)
                    (fun i w => i + 1 ≤ s.n ∧ St H7 w (.blk b7 [I s.many, .slice a24 s.lims.length c24] :: σ)) (fun i => s.n - i) 0 (by repeat (first | exact .nil rfl rfl | refine .cons rfl ?_))
                    ⟨by omega, hs⟩ ?_
                  clear hs
                  rintro i w ⟨hi, hs⟩
                  have hub := upO_bd hWb m i
                  have hdi : m / 2 ^ (i + 1) ≤ m := Nat.div_le_self _ _
                  have hb01 := bit_01 m (i + 1)
                  refine .seq (.regSeq (.z zm (.z (zfa fa_api_System_0) (.y hs (zld Try.isAgg3) (.z zleq (.nil ?_))))))
                  refine (.condD rfl (fun hc141 => ?_) (fun hc141 => ?_))
                  · refine .skip ?_
                    refine nT ?_
                    refine .seq (.block (.regSeq (.z zm (.z zm (.z (q_shrI (m := m) (i := i + 1) rfl rfl (by omega)) (.z (q_and1 (m := m / 2 ^ (i + 1)) rfl rfl (by omega)) ?_))))))
                    change WO _ _ _ _ _ ⟨_, _, (147, I ((bit m (i + 1) : Nat) : Int)) :: _⟩ _
                    refine .z zeql (.nil ?_)
                    refine (.condD rfl (fun hc148 => ?_) (fun hc148 => ?_))
                    · refine .region (.z zm (.z zm (.z zm ?_)))
                      have hwi := hWb (i + 1)
                      refine .ixY hs rw7 rfl rfl Try.runUnderlying22 Try.sizeOf3 (gi_get (l := W) (i := i + 1) (by omega)) rfl ?_; intro b152 o152 hc152
                      refine .q hs (q_loadR rfl Try.isAgg3 hc152) ?_
                      refine .z zsub (.z zg (.nil ?_))
                      refine nB (nT ?_)
                      refine .region (.z zm (.z zadd (.z zg (.nil ?_))))
                      refine nT ?_
                      have e1 : upO W m (i + 1) = upO W m i - gi W (i + 1) := by simp only [upO]; rw [if_pos (by omega)]
                      exact ⟨i + 1, .consI rfl (by omega) (.consI rfl e1.symm (by repeat (first | exact .nil rfl rfl | refine .cons rfl ?_))), ⟨by omega, hs⟩, by omega⟩
                    · refine .skip ?_
                      refine nB (nT ?_)
                      refine .region (.z zm (.z zadd (.z zg (.nil ?_))))
                      refine nT ?_
                      have e1 : upO W m (i + 1) = upO W m i := by simp only [upO]; rw [if_neg (by omega)]; omega
                      exact ⟨i + 1, .consI rfl (by omega) (.consI rfl e1.symm (by repeat (first | exact .nil rfl rfl | refine .cons rfl ?_))), ⟨by omega, hs⟩, by omega⟩
                  · refine .exit ?_
                    refine xT (xT (xB (nT ?_)))
                    obtain rfl : i = s.n - 1 := by omega
                    exact ⟨_, by repeat (first | exact .nil rfl rfl | refine .cons rfl ?_), by rw [if_pos (by omega)], hs⟩
                · refine .skip ?_
                  refine nT ?_
                  exact ⟨_, by repeat (first | exact .nil rfl rfl | refine .cons rfl ?_), by rw [if_neg (by omega)], hs⟩
              · rintro fs w ⟨U, hfs, hU, hs⟩
                refine WE.sub ?_ hfs
                have hFS : FreeS s W m ↔ ff = true ∧ 0 < U := by
                  rw [hU]
                  constructor
                  · rintro ⟨h1, h2⟩
                    exact ⟨hff.2 fun j hj x hx => h1 x (List.mem_of_getElem? hx), h2⟩
                  · rintro ⟨h1, h2⟩
                    refine ⟨fun x hx => ?_, h2⟩
                    obtain ⟨j, hj⟩ := List.getElem?_of_mem hx
                    exact hff.1 h1 j (List.getElem?_eq_some_iff.1 hj).1 x hj
                refine .regSeq (.z zm (.z zm ?_))
                refine .bif (t' := 156) rfl (fun hb156 => ?_) (fun hb156 => ?_)
                · refine .gT rfl rfl ?_
                  refine .z zm ?_
                  refine .gT rfl rfl ?_
                  refine .z zgtr (.z zpT (.nil ?_))
                  refine (.condD rfl (fun hc159 => ?_) (fun hc159 => ?_))
                  · refine .regSeq ?_
                    refine .o (.call Try.call54 rfl (law02_sane_spec hs) ?_); rintro _ w ⟨rfl, H12, hle12', hs⟩
                    have hleF := hle17.trans hle12'
                    refine .z zg (.nil ?_)
                    refine .ret (rB (rT (rT (rB (rT (Fin.ret1 Try.results11 rfl ?_))))))
                    first | exact ⟨rfl, H12, hleF, hs.out⟩ | contradiction | (exfalso; omega) | (exfalso; obtain ⟨q, q1, q2, q3⟩ := hfree; exact hno q q1 (by omega) q3) | (exfalso; simp_all; done)
                  · refine .skip ?_
                    refine nB (nT ?_)
                    refine .region (.z zm (.z zadd ?_))
                    have he22 : e = 22 := hc71
                    have hfree : ∃ m, 1 ≤ m ∧ m < 2 ^ s.n ∧ FreeS s W m := by
                      subst he22
                      refine free_exists hok ?_
                      by_cases hsd : s.Sound
                      · rcases ask_sound hmade hsd hM.1 with ⟨_, h⟩ | ⟨h, _⟩
                        · exact h
                        · omega
                      · have := hM.1.uniq (.clash hmade hsd); omega
                    have h128 : 2 ^ s.n ≤ 128 := Nat.le_trans (Nat.pow_le_pow_right (by omega) (show s.n ≤ 7 by omega)) (by decide)
                    refine .z zg (.nil ?_)
                    refine nT ?_
                    have hnf : ¬ FreeS s W m := by rw [hFS]; first | (rintro ⟨_, h⟩; omega) | (rintro ⟨h, _⟩; simp_all)
                    exact ⟨m + 1, by repeat (first | exact .nil rfl rfl | refine .cons rfl ?_), ⟨by omega, by omega, fun j h1 h2 => by
                      by_cases e : j = m
                      · subst e; exact hnf
                      · exact hno j h1 (by omega), hs⟩, by omega⟩
                · refine .gFs 2 1 true rfl rfl rfl ?_
                  refine .z zpF (.nil ?_)
                  refine (.condF rfl rfl ?_)
                  refine .skip ?_
                  refine nB (nT ?_)
                  refine .region (.z zm (.z zadd ?_))
                  have he22 : e = 22 := hc71
                  have hfree : ∃ m, 1 ≤ m ∧ m < 2 ^ s.n ∧ FreeS s W m := by
                    subst he22
                    refine free_exists hok ?_
                    by_cases hsd : s.Sound
                    · rcases ask_sound hmade hsd hM.1 with ⟨_, h⟩ | ⟨h, _⟩
                      · exact h
                      · omega
                    · have := hM.1.uniq (.clash hmade hsd); omega
                  have h128 : 2 ^ s.n ≤ 128 := Nat.le_trans (Nat.pow_le_pow_right (by omega) (show s.n ≤ 7 by omega)) (by decide)
                  refine .z zg (.nil ?_)
                  refine nT ?_
                  have hnf : ¬ FreeS s W m := by rw [hFS]; first | (rintro ⟨_, h⟩; omega) | (rintro ⟨h, _⟩; simp_all)
                  exact ⟨m + 1, by repeat (first | exact .nil rfl rfl | refine .cons rfl ?_), ⟨by omega, by omega, fun j h1 h2 => by
                    by_cases e : j = m
                    · subst e; exact hnf
                    · exact hno j h1 (by omega), hs⟩, by omega⟩
        · refine .exit ?_
          refine xT (xT (xB (nT ?_)))
          refine .regSeq (.z zg (.nil ?_))
          refine .ret (Fin.ret1 Try.results11 rfl ?_)
          first | exact ⟨rfl, H12, hleF, hs.out⟩ | contradiction | (exfalso; omega) | (exfalso; obtain ⟨q, q1, q2, q3⟩ := hfree; exact hno q q1 (by omega) q3) | (exfalso; simp_all; done)
end Go.Proofs.Ytiiokdeehlfeeaa
