/-
  Texts of these claims, joined: Yf Yg Yh Yi.
-/
import Derived.Test.YtiiokdeehlfeeaaCc
namespace Go.Proofs.Ytiiokdeehlfeeaa
open Go.MW
def backL (L : List Int) : List (List Value) := (List.range L.length).map fun j => [I ((L.length - 1 - j : Nat) : Int), I (gi L (L.length - 1 - j))]
theorem backL_length (L : List Int) : (backL L).length = L.length := by simp [backL]
theorem backL_get {L : List Int} {j : Nat} (h : j < (backL L).length) : (backL L)[j] = [I ((L.length - 1 - j : Nat) : Int), I (gi L (L.length - 1 - j))] := by simp [backL]
theorem slices_Backward_1_iter {H : Heap} {b : Nat} {v : Value} {L : List Int} (hb : Row H b [v]) (hr : RI H v L) : Iter Try.prog 196 [.pointer (some ⟨b, 0, none⟩)] H (backL L) := by
  intro l II Ix _ _ hy H0 σb0 σf w hle hI0 hs
  obtain ⟨a, c, rfl⟩ := RI.shape hr
  have hlen := (RI.len hr).2.2
  have hb0 : cellAt H0 b 0 = some (.slice a L.length c) := cellAt.mono (hb.at 0) hle
  refine Cl.of Try.func196 rfl Try.ntmps196 (by simp) (args_cons (k := 0) rfl (args_cons (k := 1) rfl (args0))) ?_
  refine .regSeq (.y hs (zld Try.isAgg22) (.z (zlen Try.runUnderlying22) (.z zsub (.z zg (.nil (.block ?_))))))
  refine .loop (fun j : Nat => ⟨19, [], [(3, I ((L.length : Int) - 1 - (j : Int))), (0, .func (.yield l) #[] #[]), (1, .pointer (some ⟨b, 0, none⟩))]⟩)
    (fun j w => j ≤ L.length ∧ ∃ H1 σb, HLe H H1 ∧ HLe H0 H1 ∧ II j H1 σb ∧ St H1 w (σb ++ σf)) (fun j => L.length - j) 0 (.consI rfl (by simp) (by repeat (first | exact .nil rfl rfl | refine .cons rfl ?_)))
    ⟨Nat.zero_le _, H0, σb0, hle, HLe.refl _, hI0, hs⟩ ?_
  clear hs hI0
  rintro j w ⟨hj, H1, σb, hle1, hle0, hI, hs⟩
  have hb1 : cellAt H1 b 0 = some (.slice a L.length c) := cellAt.mono hb0 hle0
  refine .seq (.regSeq (.z zm (.z zgeq (.nil ?_))))
  refine (.condD rfl (fun hc8 => ?_) (fun hc8 => ?_))
  · refine .skip ?_
    refine nT ?_
    refine .seq (.block (.regSeq (.z zm (.z zm (.y hs (zld Try.isAgg22) (.z zm ?_))))))
    refine .ixY hs (hr.mono hle1) rfl rfl Try.runUnderlying22 Try.sizeOf3 (gi_get (l := L) (i := L.length - 1 - j) (by omega)) (by omega) ?_; intro b15 o15 hc15
    refine .q hs (q_loadR rfl Try.isAgg3 hc15) ?_
    have hk' : j < (backL L).length := by rw [backL_length]; omega
    have hyd := hy j hk' H1 σb σf w hle1 hI hs
    rw [backL_get hk', show ((L.length - 1 - j : Nat) : Int) = (L.length : Int) - 1 - (j : Int) by omega] at hyd
    refine .o (.yield rfl rfl hyd ?_); rintro v17 w ⟨H2, σ2, g1, hs, g3⟩
    obtain ⟨bb, rfl, gT, gF⟩ := yd_bool g3
    refine .z znot (.nil ?_)
    refine (.cond rfl (fun hc18 => ?_) (fun hc18 => ?_))
    · refine .ret (rB (rT (rT (rB (Fin.ret0 Try.results196 ?_)))))
      exact ⟨H2, σ2, hle0.trans g1, hs, .inr (gF (by simpa using hc18))⟩
    · refine .skip ?_
      refine nB (nT ?_)
      refine .region (.z zm (.z zsub (.z zg (.nil ?_))))
      refine nT ?_
      exact ⟨j + 1, .consI rfl (by simp; omega) (by repeat (first | exact .nil rfl rfl | refine .cons rfl ?_)), ⟨by omega, H2, σ2, hle1.trans g1, hle0.trans g1, gT (by simpa using hc18), hs⟩, by omega⟩
  · refine .exit ?_
    refine xT (xT (xB ?_))
    obtain rfl : L.length = j := by omega
    exact Fin.end0 Try.results196 ⟨H1, σb, hle0, hs, .inl (by rw [backL_length]; exact hI)⟩
theorem slices_Backward_spec {H : Heap} {w : World} {σ : List Ent} {v : Value} {L : List Int} (hs : St H w σ) (hr : RI H v L) :
    Cl Try.prog 150 [v] w fun u w' => ∃ H1 b, HLe H H1 ∧ u = .func (.func 196) #[] #[.pointer (some ⟨b, 0, none⟩)] ∧ Iter Try.prog 196 [.pointer (some ⟨b, 0, none⟩)] H1 (backL L) ∧ St H1 w' σ := by
  obtain ⟨a, c, rfl⟩ := RI.shape hr
  refine Cl.of Try.func150 rfl Try.ntmps150 (by simp) (args_cons (k := 0) rfl (args0)) ?_
  refine .regSeq ?_
  refine .o (.box hs rfl rfl ?_); intro b1 w hs
  refine .z zg (.nil (.regSeq ?_))
  refine .q hs (q_makeFunc (f := []) (c := [_]) rfl rfl) ?_
  refine .z zg (.nil ?_)
  refine .ret (Fin.ret1 Try.results150 rfl ?_)
  obtain ⟨H1, g1, g2, hs⟩ := hs.publish .here
  exact ⟨H1, b1, g1, rfl, slices_Backward_1_iter g2 (hr.mono g1), hs⟩
theorem bound_Conflict_1 {H : Heap} {w : World} {σ : List Ent} {n m : Int} {b : Nat} (hs : St H w σ) (hb : Row H b [I m]) :
    Cl Try.prog 152 [I n, .pointer (some ⟨b, 0, none⟩)] w fun u w' => u = .bool (decide (n = m)) ∧ St H w' σ := by
  have hb0 : cellAt H b 0 = some (I m) := hb.at 0
  refine Cl.of Try.func152 rfl Try.ntmps152 (by simp) (args_cons (k := 0) rfl (args_cons (k := 1) rfl (args0))) ?_
  refine .regSeq (.z zg (.nil (.regSeq (.z zm (.y hs (zld Try.isAgg3) (.z zeql (.z zg (.nil ?_))))))))
  refine .ret (Fin.ret1 Try.results152 rfl ?_)
  exact ⟨rfl, hs⟩
set_option maxHeartbeats 1000000 in
theorem bound_Conflict_spec {H : Heap} {w : World} {σ : List Ent} {v : Value} {s : Syst} (hs : St H w σ) (hr : RSy H v s) :
    Cl Try.prog 64 [v] w fun u w' => ∃ H1 vx out e, HLe H H1 ∧ u = .tuple #[vx, I e] ∧ RI H1 vx out ∧ ConfR s out e ∧ St H1 w' σ := by
  obtain ⟨ul, rfl, hl⟩ := hr
  obtain ⟨al, cl, rfl⟩ := RL.shape hl
  refine Cl.of Try.func64 rfl Try.ntmps64 (by simp) (args_cons (k := 0) rfl (args0)) ?_
  refine .regSeq ?_
  refine .o (.box hs rfl rfl ?_); intro b1 w hs
  refine .z zg (.z zg (.nil (.seq (.regSeq (.y hs (zls [_, _] Try.isAgg32 Try.sizeOf32) ?_)))))
  refine .o (.call Try.call72 rfl (bound_Check_spec (s := s) hs ⟨_, rfl, hl⟩) ?_); rintro _ w ⟨rfl, hs⟩
  refine .z zg (.nil (.regSeq (.z zm (.z zneq (.nil ?_)))))
  refine (.condN rfl (fun hc12 => ?_) (fun hc12 => ?_))
  · refine .regSeq (.z zm (.z zg (.z zg (.nil ?_))))
    refine .ret (rT (?_))
    exact Fin.retD [] [] hs fun w hs => ⟨_, results2 Try.results64 rfl rfl, H, _, [], _, HLe.refl H, rfl, RS.nil H 1 none 0, .bad hc12, hs.out⟩
  · refine .skip ?_
    refine nT ?_
    refine .seq (.regSeq (.y hs (zls [_, _] Try.isAgg32 Try.sizeOf32) ?_))
    have hok : s.Ok := s.ok_iff.1 (by simpa using hc12)
    have hll := hok.len
    refine .o (.call Try.call149 rfl (bound_isSound_spec (s := s) hs hok ⟨_, rfl, hl⟩) ?_); rintro _ w ⟨H1, bb, hle1, rfl, hbb, hs⟩
    refine .nil ?_
    refine (.cond rfl (fun hc15 => ?_) (fun hc15 => ?_))
    · refine .regSeq (.z zg (.z zg (.nil ?_)))
      refine .ret (rT (?_))
      exact Fin.retD [] [] hs fun w hs => ⟨_, results2 Try.results64 rfl rfl, H1, _, [], _, hle1, rfl, RS.nil H1 1 none 0, .none hok (hbb.1 hc15), hs.out⟩
    · refine .skip ?_
      refine nT ?_
      refine .regSeq (.y hs (zls [_, _] Try.isAgg32 Try.sizeOf32) ?_)
      have hns : ¬ s.Sound := fun h => by rw [hbb.2 h] at hc15; cases hc15
      refine .o (.call Try.call66 rfl (bound_Sources_spec (s := s) hs ⟨_, rfl, hl.mono hle1⟩ (by omega)) ?_); rintro v17 w ⟨L, en, hO, hLl, hRise, hs⟩
      obtain ⟨a17, l17, c17, rfl, h17⟩ := hO.shape
      refine .o (.alloc hs Try.zeroValue22 rfl ?_); intro b5 w hs
      refine .o (.store hs rfl rfl Try.sizeOf22 ?_); intro w hs
      refine .nil (.seq (.regSeq (.y hs (zls [_, _] Try.isAgg32 Try.sizeOf32) ?_)))
      refine .o (.call Try.call66 rfl (bound_Sources_spec (s := s) hs ⟨_, rfl, hl.mono hle1⟩ (by omega)) ?_); rintro v19 w ⟨L', en', hO', hLl', hRise', hs⟩
      obtain rfl : L = L' := hRise.uniq hRise'
      obtain ⟨H2, hle2, hR19, hs⟩ := OwnS.publishI hO' (by omega) hs .here
      refine .o (.call Try.call150 rfl (slices_Backward_spec hs hR19) ?_); rintro _ w ⟨H3, b20, hle3, rfl, hit, hs⟩
      have hle03 := hle1.trans (hle2.trans hle3)
      refine .nil (.block ?_)
      refine .rangeFunc (gf := 196) (cap := [.pointer (some ⟨b20, 0, none⟩)]) (xs := backL L) (σb := [.blk b1 [I s.many, .slice al s.lims.length cl], .blk b5 [.slice a17 l17 c17], en]) (σf := σ) (hs.sub (by repeat (first | exact Sub.refl _ | constructor | apply Sub.weaken)) : St H3 w (.blk b1 _ :: .blk b5 _ :: en :: σ)) trivial rfl hit Try.call196 (fun x hx => by
          simp only [backL, List.mem_map] at hx
          obtain ⟨j, _, rfl⟩ := hx; rfl) rfl
        (I := fun j H' σb => ∃ (t : Syst) (ut vo : Value) (out : List Int) (en : Ent), σb = [.blk b1 [I t.many, ut], .blk b5 [vo], en] ∧ RL H' ut t.lims ∧ OwnS 1 vo (Is out) en ∧ out.length ≤ L.length ∧ t.Ok ∧ ConfI s L (L.length - j) t out) (Ix := fun _ _ _ => False)
        (fun j _ _ σ g1 ⟨t, ut, vo, out, en, g2, g3, g4⟩ => ⟨t, ut, vo, out, en, g2, g3.mono g1, g4⟩) (fun _ _ _ _ _ h => h)
        ⟨s, _, _, L, en, rfl, hl.mono hle03, hO, Nat.le_refl _, hok, .start⟩ ?_ ?_ (fun D c H' σb w _ h _ => h.elim)
      · rintro l j hj H4 σb2 σf2 w hle4 ⟨t, ut, vo, out, en, rfl, hut, hOo, hol, htok, hC⟩ hs ⟨rr, hrr⟩
        rw [backL_get hj]
        have hjL : j < L.length := by rw [backL_length] at hj; exact hj
        obtain ⟨at', ct, rfl⟩ := RL.shape hut
        obtain ⟨ao, lo, co, rfl, hlo⟩ := hOo.shape
        refine .region ?_
        refine .o (.alloc hs Try.zeroValue3 rfl ?_); intro b7 w hs
        refine .o (.store hs rfl rfl Try.sizeOf3 ?_); intro w hs
        refine .nil ?_
        refine nT ?_
        refine ⟨H4, [.blk b7 [I (gi L (L.length - 1 - j))], .blk b1 [I t.many, .slice at' t.lims.length ct], .blk b5 [.slice ao lo co], en], HLe.refl _, hs, ?_⟩; rintro w σf4 - hs
        refine .block (.regSeq (.y hs (zls [_, _] Try.isAgg32 Try.sizeOf32) (.y hs (zld Try.isAgg3) ?_)))
        refine .o (.buildSlice (cells := [_]) hs bls_sl_int_1 rfl rfl ?_); intro b25 w hs
        obtain ⟨H5, hle5, r25, hs⟩ := OwnS.publishI (xs := [gi L (L.length - 1 - j)]) (v := .slice (some ⟨b25, 0, none⟩) 1 1) (.full (len := 1) rfl) (by simp) hs (by repeat constructor)
        refine .o (.call Try.call68 rfl (bound_Without_spec (s := t) hs ⟨_, rfl, hut.mono hle5⟩ r25 (by have := htok.len; omega)) ?_); rintro _ w ⟨H6, hle6, ⟨u26, rfl, hL26⟩, hs⟩
        obtain ⟨a26, c26, rfl⟩ := RL.shape hL26
        refine .o (.alloc hs Try.zeroValue32 rfl ?_); intro b8 w hs
        refine .o (.stores (vs := [_, _]) hs rfl rfl Try.sizeOf32 ?_); intro w hs
        refine .nil (.regSeq (.y hs (zls [_, _] Try.isAgg32 Try.sizeOf32) ?_))
        refine .o (.call Try.call149 rfl (bound_isSound_spec (s := t.wo [gi L (L.length - 1 - j)]) hs (htok.wo _) ⟨_, rfl, hL26⟩) ?_); rintro _ w ⟨H7, b28, hle7, rfl, hb28, hs⟩
        have hle47 := hle5.trans (hle6.trans hle7)
        refine .z znot (.nil ?_)
        refine (.cond rfl (fun hc29 => ?_) (fun hc29 => ?_))
        · refine .regSeq (.y hs (zls [_, _] Try.isAgg32 Try.sizeOf32) ?_)
          refine .o (.stores (vs := [_, _]) hs rfl rfl Try.sizeOf32 ?_); intro w hs
          refine .nil (.region (.y hs (zld Try.isAgg22) ?_))
          refine .q hs (q_makeFunc (f := []) (c := [_]) rfl rfl) ?_
          obtain ⟨H8, hle8, r7, hs⟩ := hs.publish (b := b7) (by repeat constructor)
          replace hs : St H8 w (en :: .blk b1 [I t.many, .slice a26 (t.wo [gi L (L.length - 1 - j)]).lims.length c26] :: .blk b5 [.slice ao lo co] :: σf4) := hs.sub (by repeat (first | exact Sub.refl _ | constructor | apply Sub.weaken))
          refine .o (.call Try.call151 rfl (slices_DeleteFunc_spec (g := 152) (cap := [.pointer (some ⟨b7, 0, none⟩)]) (fun n => decide (n = gi L (L.length - 1 - j))) hs hOo (by omega) Try.call152
            (fun H' w σ n _ hle hs => (bound_Conflict_1 hs (r7.mono hle)).mono fun u w' ⟨g1, g2⟩ => ⟨H', HLe.refl _, g1, g2⟩)) ?_); rintro v33 w ⟨H9, en9, hle9, hO9, hs⟩
          obtain ⟨a33, l33, c33, rfl, h33⟩ := hO9.shape
          refine .o (.store hs rfl rfl Try.sizeOf22 ?_); intro w hs
          refine .nil ?_
          refine nB ?_
          have hfl := List.length_filter_le (fun n => !decide (n = gi L (L.length - 1 - j))) out
          have e : L.length - (j + 1) = L.length - 1 - j := by omega
          have hns' : ¬ (t.wo [gi L (L.length - 1 - j)]).Sound := fun h => by rw [hb28.2 h] at hc29; cases hc29
          exact ⟨H9, [.blk b1 [I t.many, .slice a26 (t.wo [gi L (L.length - 1 - j)]).lims.length c26], .blk b5 [.slice a33 l33 c33], en9], hle47.trans (hle8.trans hle9), (hs.sub (by repeat (first | exact Sub.refl _ | constructor | apply Sub.weaken)) : St H9 w (.blk b1 _ :: .blk b5 _ :: en9 :: σf4)), t.wo [gi L (L.length - 1 - j)], _, _, _, _, rfl, hL26.mono (hle7.trans (hle8.trans hle9)), hO9, by omega, htok.wo _, by
            rw [e]
            exact .drop (by rw [show L.length - 1 - j + 1 = L.length - j by omega]; exact hC) hns'⟩
        · refine .skip ?_
          refine nB ?_
          have e : L.length - (j + 1) = L.length - 1 - j := by omega
          have hsd' : (t.wo [gi L (L.length - 1 - j)]).Sound := hb28.1 (by simpa using hc29)
          exact ⟨H7, [.blk b1 [I t.many, .slice at' t.lims.length ct], .blk b5 [.slice ao lo co], en], hle47, (hs.sub (by repeat (first | exact Sub.refl _ | constructor | apply Sub.weaken)) : St H7 w (.blk b1 _ :: .blk b5 _ :: en :: σf4)), t, _, _, _, _, rfl, hut.mono hle47, hOo, hol, htok, by
            rw [e]
            exact .keep (by rw [show L.length - 1 - j + 1 = L.length - j by omega]; exact hC) hsd'⟩
      · rintro D H4 σb2 w hle4 ⟨t, ut, vo, out, en, rfl, hut, hOo, hol, htok, hC⟩ hs
        rw [backL_length, Nat.sub_self] at hC
        obtain ⟨ao, lo, co, rfl, hlo⟩ := hOo.shape
        replace hs : St H4 w (.obj D (.deferred (some [])) :: .blk b1 [I t.many, ut] :: .blk b5 [.slice ao lo co] :: en :: σ) := hs
        refine nB (nT ?_)
        refine .regSeq (.y hs (zld Try.isAgg22) (.z zg (.z zg (.nil ?_))))
        refine .ret ?_
        obtain ⟨H5, hle5, hR5, hs⟩ := OwnS.publishI hOo (by omega) hs (by repeat constructor)
        exact Fin.retD [D] [] hs fun w hs => ⟨_, results2 Try.results64 rfl rfl, H5, _, out, 0, hle03.trans (hle4.trans hle5), rfl, hR5, .ok hok hns hRise hC, hs.out⟩
end Go.Proofs.Ytiiokdeehlfeeaa

namespace Go.Proofs.Ytiiokdeehlfeeaa
open Go.MW
theorem law02_system_spec {H : Heap} {w : World} {σ : List Ent} (hs : St H w σ) : Cl Try.prog 139 [] w fun v w' => ∃ b, v = .agg #[I 3, .slice (some ⟨b, 0, none⟩) 7 7] ∧ St H w' (.blk b (Lims exT.lims) :: σ) := by
  refine Cl.of Try.func139 rfl Try.ntmps139 (by simp) (args0) ?_
  refine .regSeq ?_
  refine .o (.alloc hs Try.zeroValue32 rfl ?_); intro b0 w hs
  refine .nil (.regSeq (.z (zbd [_, _, _, _] bld_api_Limit) (.z (zbd [_, _, _, _] bld_api_Limit) (.z (zbd [_, _, _, _] bld_api_Limit) (.z (zbd [_, _, _, _] bld_api_Limit) (.z (zbd [_, _, _, _] bld_api_Limit) (.z (zbd [_, _, _, _] bld_api_Limit) (.z (zbd [_, _, _, _] bld_api_Limit) ?_))))))))
  refine .o (.buildSlice (cells := Lims exT.lims) hs bls_sl_api_Limit_7 rfl (by kernel_rfl) ?_); intro b8 w hs
  refine .z (zbd [_, _] bld_api_System) ?_
  refine .o (.stores (vs := [_, _]) hs rfl rfl Try.sizeOf32 ?_); intro w hs
  refine .nil ?_
  refine .ret ?_
  exact Fin.retD [] [] hs fun w hs => ⟨_, results1 Try.results139 (rcells (vs := [_, _]) hs rfl Try.isAgg32 Try.sizeOf32), b8, rfl, hs.sub (by repeat (first | exact Sub.refl _ | constructor | apply Sub.weaken))⟩
set_option maxHeartbeats 2000000 in
theorem law02_sane_spec {H : Heap} {w : World} {σ : List Ent} (hs : St H w σ) : Cl Try.prog 54 [] w fun v w' => v = .bool true ∧ ∃ H1, HLe H H1 ∧ St H1 w' σ := by
  refine Cl.of Try.func54 rfl Try.ntmps54 (by simp) (args0) ?_
  refine .regSeq (.z zg (.nil (.regSeq ?_)))
  refine .o (.call Try.call139 rfl (law02_system_spec hs) ?_); rintro _ w ⟨bs, rfl, hs⟩
  obtain ⟨H1, hle, hl, hs⟩ := OwnS.publish (m := 4) (v := .slice (some ⟨bs, 0, none⟩) 7 7) (cs := exT.lims.map Lim.c) (.full rfl) (by decide) (by decide) (by decide) hs .here
  refine .o (.alloc hs Try.zeroValue32 rfl ?_); intro b1 w hs
  refine .o (.stores (vs := [_, _]) hs rfl rfl Try.sizeOf32 ?_); intro w hs
  refine .nil (.regSeq ?_)
  refine .o (.buildSlice (cells := Is [0, 1, 1, -2]) hs bls_sl_int_4 rfl (by kernel_rfl) ?_); intro b20 w hs
  obtain ⟨H2, hle2, hw, hs⟩ := OwnS.publishI (v := .slice (some ⟨b20, 0, none⟩) 4 4) (xs := [0, 1, 1, -2]) (.full rfl) (by decide) hs .here
  replace hl : RL H2 _ exT.lims := RS.mono hl hle2
  replace hle := hle.trans hle2
  refine .z zg (.nil (.regSeq (.y hs (zls [_, _] Try.isAgg32 Try.sizeOf32) ?_)))
  refine .o (.call Try.call52 rfl (bound_Close_spec (s := exT) hs ⟨_, rfl, hl⟩) ?_); rintro _ w ⟨H3, vt, e, hle3, rfl, hcase, hs⟩
  obtain ⟨rfl, rs, hRT, hSq, hWT⟩ : e = 0 ∧ ∃ rs, RT H3 vt rs ∧ Sq exT.n rs ∧ WaysT exT.n exT.arcs (gt rs) := by
    rcases hcase with ⟨h, _⟩ | ⟨_, h, _⟩ | ⟨_, _, h1, h2⟩
    · exact (h (exT.ok_iff.2 exT_ok)).elim
    · exact (h exT_sound).elim
    · exact ⟨h1, h2⟩
  obtain rfl := exT_rows hSq hWT
  obtain ⟨at', ct, rfl⟩ := hRT.shape
  replace hl := hl.mono hle3; replace hw := hw.mono hle3; replace hle := hle.trans hle3
  refine .z zm (.z zex (.z zex (.z zg (.z zg (.nil (.regSeq (.y hs (zls [_, _] Try.isAgg32 Try.sizeOf32) ?_)))))))
  refine .o (.buildSlice (cells := Is [1, 2, 3]) hs bls_sl_int_3 rfl (by kernel_rfl) ?_); intro b28 w hs
  obtain ⟨H4, hle4, hp, hs⟩ := OwnS.publishI (v := .slice (some ⟨b28, 0, none⟩) 3 3) (xs := [1, 2, 3]) (.full rfl) (by decide) hs .here
  replace hl := hl.mono hle4; replace hw := hw.mono hle4; replace hRT := hRT.mono hle4; replace hle := hle.trans hle4
  refine .o (.call Try.call53 rfl (bound_Point_spec (s := exT) hs ⟨_, rfl, hl⟩ hp) ?_); rintro _ w ⟨H5, vx, x, e, hle5, rfl, hRx, hPx, hs⟩
  obtain ⟨rfl, rfl⟩ := exT_point hPx
  obtain ⟨ax, cx, rfl⟩ := RI.shape hRx
  replace hl := hl.mono hle5; replace hw := hw.mono hle5; replace hRT := hRT.mono hle5; replace hle := hle.trans hle5
  refine .z zm (.z zex (.z zex (.z zg (.z zg (.nil (.regSeq (.y hs (zls [_, _] Try.isAgg32 Try.sizeOf32) (.z zm ?_))))))))
  refine .o (.call Try.call56 rfl (bound_Most_spec (s := exT) hs ⟨_, rfl, hl⟩ hw) ?_); rintro _ w ⟨H6, n, e, hle6, rfl, hM, hs⟩
  obtain ⟨rfl, rfl⟩ := exT_most hM
  replace hl := hl.mono hle6; replace hw := hw.mono hle6; replace hRT := hRT.mono hle6; replace hRx := hRx.mono hle6; replace hle := hle.trans hle6
  refine .z zm (.z zex (.z zex (.z zg (.z zg (.nil (.regSeq (.y hs (zls [_, _] Try.isAgg32 Try.sizeOf32) (.z zm ?_))))))))
  refine .o (.call Try.call61 rfl (bound_Best_spec (s := exT) hs ⟨_, rfl, hl⟩ hw) ?_); rintro _ w ⟨H7, vb, xb, e, hle7, rfl, hA, hRb, _, hB, hs⟩
  obtain rfl := hA.uniq hM.1
  obtain rfl := exT_best (hB rfl)
  obtain ⟨ab, cb, rfl⟩ := RI.shape hRb
  replace hl := hl.mono hle7; replace hw := hw.mono hle7; replace hRT := hRT.mono hle7; replace hRx := hRx.mono hle7; replace hle := hle.trans hle7
  refine .z zm (.z zex (.z zex (.z zg (.z zg (.nil (.regSeq (.y hs (zls [_, _] Try.isAgg32 Try.sizeOf32) ?_)))))))
  refine .o (.buildSlice (cells := Is [0, 0, 1, 0]) hs bls_sl_int_4 rfl (by kernel_rfl) ?_); intro b46 w hs
  obtain ⟨H8, hle8, hw8, hs⟩ := OwnS.publishI (v := .slice (some ⟨b46, 0, none⟩) 4 4) (xs := [0, 0, 1, 0]) (.full rfl) (by decide) hs .here
  replace hl := hl.mono hle8; replace hRT := hRT.mono hle8; replace hRx := hRx.mono hle8; replace hRb := hRb.mono hle8; replace hle := hle.trans hle8
  refine .o (.call Try.call93 rfl (bound_Moves_spec (s := exT) hs ⟨_, rfl, hl⟩ hw8) ?_); rintro _ w ⟨H9, vm, L, e, hle9, rfl, hRm, hMv, hs⟩
  obtain ⟨rfl, rfl⟩ := exT_moves hMv
  obtain ⟨am, cm, rfl⟩ := RI.shape hRm
  replace hl := hl.mono hle9; replace hRT := hRT.mono hle9; replace hRx := hRx.mono hle9; replace hRb := hRb.mono hle9; replace hle := hle.trans hle9
  refine .z zm (.z zex (.z zex (.z zg (.z zg (.nil (.regSeq ?_))))))
  refine .o (.call Try.call139 rfl (law02_system_spec hs) ?_); rintro _ w ⟨bs2, rfl, hs⟩
  refine .q hs (q_field (k := 1) rfl Try.runUnderlying32 rfl Try.isAgg30 rfl) ?_
  refine .z (zbd [_, _, _, _] bld_api_Limit) ?_
  refine .o (.buildSlice (cells := (⟨2, 0, -13, 9⟩ : Lim).c) hs bls_sl_api_Limit_1 rfl (by kernel_rfl) ?_); intro b53 w hs
  refine .o (.append (xs := Lims exT.lims) (ys := (⟨2, 0, -13, 9⟩ : Lim).c) hs app_sl_api_Limit_api_Limit rfl rfl (.full (len := 7) rfl) (.own .here rfl rfl) (by simp [Lim.c, Value.oneCell']) (fun l h => by rw [Lims_length] at h; change 7 * 4 = l * 4 at h; omega) ?_); intro v54 en54 w hO54 hs
  rw [← Lims_one, ← Lims_append] at hO54
  obtain ⟨H10, hle10, hl10, hs⟩ := OwnS.publish (m := 4) (cs := exC.lims.map Lim.c) hO54 (by decide) (by decide) (by decide) hs .here
  obtain ⟨a54, c54, rfl⟩ := RL.shape (ls := exC.lims) hl10
  replace hl := hl.mono hle10; replace hRT := hRT.mono hle10; replace hRx := hRx.mono hle10; replace hRb := hRb.mono hle10; replace hRm := hRm.mono hle10; replace hle := hle.trans hle10
  refine .z zg (.nil (.regSeq (.z zm (.z (zbd [_, _] bld_api_System) ?_))))
  refine .o (.call Try.call64 rfl (bound_Conflict_spec (s := exC) hs ⟨_, rfl, hl10⟩) ?_); rintro _ w ⟨H11, vc, out, e, hle11, rfl, hRc, hCf, hs⟩
  obtain ⟨rfl, rfl⟩ := exC_conf hCf
  obtain ⟨ac, cc, rfl⟩ := RI.shape hRc
  replace hl := hl.mono hle11; replace hRT := hRT.mono hle11; replace hRx := hRx.mono hle11; replace hRb := hRb.mono hle11; replace hRm := hRm.mono hle11; replace hle := hle.trans hle11
  refine .z zm (.z zex (.z zex (.z zg (.z zg (.nil (.regSeq (.y hs (zls [_, _] Try.isAgg32 Try.sizeOf32) ?_)))))))
  refine .o (.buildSlice (cells := Is [1, 4]) hs bls_sl_int_2 rfl (by kernel_rfl) ?_); intro b63 w hs
  obtain ⟨H12, hle12, hb12, hs⟩ := OwnS.publishI (v := .slice (some ⟨b63, 0, none⟩) 2 2) (xs := [1, 4]) (.full rfl) (by decide) hs .here
  refine .o (.call Try.call68 rfl (bound_Without_spec (s := exT) hs ⟨_, rfl, hl.mono hle12⟩ hb12 (by decide)) ?_); rintro _ w ⟨H13, hle13, ⟨u64, rfl, hL64⟩, hs⟩
  obtain ⟨a64, c64, rfl⟩ := RL.shape hL64
  refine .o (.buildSlice (cells := Is [0, 1, 0, 0]) hs bls_sl_int_4 rfl (by kernel_rfl) ?_); intro b65 w hs
  obtain ⟨H14, hle14, hw14, hs⟩ := OwnS.publishI (v := .slice (some ⟨b65, 0, none⟩) 4 4) (xs := [0, 1, 0, 0]) (.full rfl) (by decide) hs .here
  refine .o (.call Try.call56 rfl (bound_Most_spec (s := exT.wo [1, 4]) hs ⟨_, rfl, hL64.mono hle14⟩ hw14) ?_); rintro _ w ⟨H15, n, e, hle15, rfl, hM15, hs⟩
  obtain rfl := exT_open hM15
  have hle5 := hle12.trans (hle13.trans (hle14.trans hle15))
  replace hl := hl.mono hle5; replace hRT := hRT.mono hle5; replace hRx := hRx.mono hle5; replace hRb := hRb.mono hle5; replace hRm := hRm.mono hle5; replace hRc := hRc.mono hle5; replace hle := hle.trans hle5
  refine .z zm (.z zex (.z zex (.z zg (.z zg (.nil (.regSeq (.z zm (.z zeql (.z zm ?_)))))))))
  refine .gT rfl rfl ?_
  refine .z zm ?_
  refine .gT rfl rfl ?_
  refine .z zeql (.z zpT (.z zm ?_))
  refine .gT rfl rfl ?_
  refine .z zm ?_
  refine .gT rfl rfl ?_
  refine .z zeql (.z zpT (.z zm ?_))
  refine .gT rfl rfl ?_
  refine .z zm ?_
  refine .gT rfl rfl ?_
  refine .z zeql (.z zpT (.z zm ?_))
  refine .gT rfl rfl ?_
  refine .z zm ?_
  refine .gT rfl rfl ?_
  refine .z zeql (.z zpT (.z zm ?_))
  refine .gT rfl rfl ?_
  refine .z zm ?_
  refine .gT rfl rfl ?_
  refine .z zeql (.z zpT (.z zg (.nil (.regSeq (.z zm (.z zm ?_))))))
  refine .gT rfl rfl ?_
  refine .z zm ?_
  refine .gT rfl rfl ?_
  refine .z (zlen Try.runUnderlying87) ?_
  refine .gT rfl rfl ?_
  refine .z zeql (.z zpT (.z zm ?_))
  refine .gT rfl rfl ?_
  refine .z zm ?_
  refine .gT rfl rfl ?_
  refine .ixT hs hRT rfl rfl Try.runUnderlying87 Try.sizeOf22 (k := 3) (by decide) rfl ?_; intro b99 o99 a99 c99 hc99 hR99
  refine .gT rfl rfl ?_
  refine .q hs (q_loadR rfl Try.isAgg22 hc99) ?_
  refine .gT rfl rfl ?_
  refine .z (zlen Try.runUnderlying22) ?_
  refine .gT rfl rfl ?_
  refine .z zeql (.z zpT (.z zm ?_))
  refine .gT rfl rfl ?_
  refine .z zm ?_
  refine .gT rfl rfl ?_
  refine .ixT hs hRT rfl rfl Try.runUnderlying87 Try.sizeOf22 (k := 3) (by decide) rfl ?_; intro b106 o106 a106 c106 hc106 hR106
  refine .gT rfl rfl ?_
  refine .q hs (q_loadR rfl Try.isAgg22 hc106) ?_
  refine .gT rfl rfl ?_
  refine .ixY hs hR106 rfl rfl Try.runUnderlying22 Try.sizeOf3 (k := 2) (x' := 12) rfl rfl ?_; intro b108 o108 hc108
  refine .gT rfl rfl ?_
  refine .q hs (q_loadR rfl Try.isAgg3 hc108) ?_
  refine .gT rfl rfl ?_
  refine .z zeql (.z zpT (.z zm ?_))
  refine .gT rfl rfl ?_
  refine .z zm ?_
  refine .gT rfl rfl ?_
  refine .o (.buildSlice (cells := Is [0, 5, 7, 3]) hs bls_sl_int_4 rfl (by kernel_rfl) ?_); intro b114 w hs
  obtain ⟨H16, hle16, hq1, hs⟩ := OwnS.publishI (v := .slice (some ⟨b114, 0, none⟩) 4 4) (xs := [0, 5, 7, 3]) (.full rfl) (by decide) hs .here
  refine .gT rfl rfl ?_
  refine .o (.call Try.call31 rfl (ref02_Same_spec hs (hRx.mono hle16) hq1) ?_); rintro _ w ⟨rfl, hs⟩
  refine .z zpT (.z zm ?_)
  refine .gT rfl rfl ?_
  refine .z zm ?_
  refine .gT rfl rfl ?_
  refine .z zeql (.z zpT (.z zm ?_))
  refine .gT rfl rfl ?_
  refine .z zm ?_
  refine .gT rfl rfl ?_
  refine .o (.buildSlice (cells := Is [0, 10, 12, 0]) hs bls_sl_int_4 rfl (by kernel_rfl) ?_); intro b123 w hs
  obtain ⟨H17, hle17, hq2, hs⟩ := OwnS.publishI (v := .slice (some ⟨b123, 0, none⟩) 4 4) (xs := [0, 10, 12, 0]) (.full rfl) (by decide) hs .here
  refine .gT rfl rfl ?_
  refine .o (.call Try.call31 rfl (ref02_Same_spec hs (hRb.mono (hle16.trans hle17)) hq2) ?_); rintro _ w ⟨rfl, hs⟩
  refine .z zpT (.z zm ?_)
  refine .gT rfl rfl ?_
  refine .z zm ?_
  refine .gT rfl rfl ?_
  refine .o (.buildSlice (cells := Is [1, 2, 4]) hs bls_sl_int_3 rfl (by kernel_rfl) ?_); intro b128 w hs
  obtain ⟨H18, hle18, hq3, hs⟩ := OwnS.publishI (v := .slice (some ⟨b128, 0, none⟩) 3 3) (xs := [1, 2, 4]) (.full rfl) (by decide) hs .here
  refine .gT rfl rfl ?_
  refine .o (.call Try.call31 rfl (ref02_Same_spec hs (hRm.mono (hle16.trans (hle17.trans hle18))) hq3) ?_); rintro _ w ⟨rfl, hs⟩
  refine .z zpT (.z zm ?_)
  refine .gT rfl rfl ?_
  refine .z zm ?_
  refine .gT rfl rfl ?_
  refine .o (.buildSlice (cells := Is [4, 9]) hs bls_sl_int_2 rfl (by kernel_rfl) ?_); intro b133 w hs
  obtain ⟨H19, hle19, hq4, hs⟩ := OwnS.publishI (v := .slice (some ⟨b133, 0, none⟩) 2 2) (xs := [4, 9]) (.full rfl) (by decide) hs .here
  have hle69 := hle16.trans (hle17.trans (hle18.trans hle19))
  refine .gT rfl rfl ?_
  refine .o (.call Try.call31 rfl (ref02_Same_spec hs (hRc.mono hle69) hq4) ?_); rintro _ w ⟨rfl, hs⟩
  refine .z zpT (.z zm ?_)
  refine .gT rfl rfl ?_
  refine .z zm ?_
  refine .gT rfl rfl ?_
  refine .z zeql (.z zpT (.z zg (.nil ?_)))
  refine .ret (Fin.ret1 Try.results54 rfl ?_)
  exact ⟨rfl, H19, hle.trans hle69, hs.out⟩
end Go.Proofs.Ytiiokdeehlfeeaa

namespace Go.Proofs.Ytiiokdeehlfeeaa
open Go.MW
theorem law02_mod_spec {H : Heap} {w : World} {σ : List Ent} {n m : Int} (hs : St H w σ) (hm : 0 < m ∧ m ≤ 4611686018427387904) : Cl Try.prog 55 [I n, I m] w fun v w' => v = I (n % m) ∧ St H w' σ := by
  have h1 := Int.tmod_lt_of_pos n hm.1
  have h2 := Int.lt_tmod_of_pos n hm.1
  have e := rem_emod (n := n) hm.1
  refine Cl.of Try.func55 rfl Try.ntmps55 (by simp) (args_cons (k := 0) rfl (args_cons (k := 1) rfl (args0))) ?_
  refine .regSeq (.z zg (.nil (.regSeq (.z zm (.z zm (.z zrem (.z zm (.z zadd (.z zm ?_)))))))))
  refine .z zrem (.z zg (.nil ?_))
  refine .ret (Fin.ret1 Try.results55 rfl ?_)
  exact ⟨congrArg I e, hs⟩
set_option maxHeartbeats 1000000 in
theorem law02_made_spec {H : Heap} {w : World} {σ : List Ent} {v : Value} {r : Syst} (hs : St H w σ) (hr : RSy H v r) :
    Cl Try.prog 51 [v] w fun u w' => ∃ H1, HLe H H1 ∧ RSy H1 u (madeS r) ∧ St H1 w' σ := by
  obtain ⟨ul, rfl, hl⟩ := hr
  obtain ⟨al, cl, rfl⟩ := RL.shape hl
  have hll := (RS.len (RS.recap hl (Nat.le_refl _) (cap' := r.lims.length))).2.2
  have hnb : 1 ≤ 1 + r.many % 6 ∧ 1 + r.many % 6 ≤ 6 := madeN_bd r
  refine Cl.of Try.func51 rfl Try.ntmps51 (by simp) (args_cons (k := 0) rfl (args0)) ?_
  refine .regSeq ?_
  refine .o (.box hs rfl rfl ?_); intro b1 w hs
  refine .o (.alloc hs Try.zeroValue32 rfl ?_); intro b2 w hs
  refine .nil (.regSeq (.z (zfa fa_moorsomlaw02_Raw_0) (.y hs (zld Try.isAgg3) ?_)))
  refine .o (.call Try.call55 rfl (law02_mod_spec hs (by decide)) ?_); rintro _ w ⟨rfl, hs⟩
  refine .z zadd ?_
  generalize hN : 1 + r.many % 6 = N at hnb ⊢
  have hN' : madeN r = N := hN
  refine .z (zbd [_, _] bld_api_System) ?_
  refine .o (.alloc hs Try.zeroValue32 rfl ?_); intro b3 w hs
  refine .o (.stores (vs := [_, _]) hs rfl rfl Try.sizeOf32 ?_); intro w hs
  refine .nil (.seq (.regSeq (.z (zfa fa_moorsomlaw02_Raw_1) (.y hs (zld Try.isAgg83) (.z (zlen Try.runUnderlying83) (.z zm (.nil ?_)))))))
  refine .for (N := r.lims.length) (J := fun k fr w => fr = [(14, .slice al r.lims.length cl), (3, .pointer (some ⟨b3, 0, none⟩)), (2, .pointer (some ⟨b2, 0, none⟩))] ∧ k ≤ 20 ∧ ∃ vL en, OwnS 4 vL (Lims ((r.lims.take k).map (madeLim N))) en ∧ St H w (.blk b3 [I N, vL] :: .blk b2 [I 0, .slice none 0 0] :: en :: σ)) (by omega) ?_ ?_ ?_
  · exact .mk ⟨rfl, by omega, _, _, .nil 4 none, hs.nul.sub (by repeat (first | exact Sub.refl _ | constructor | apply Sub.weaken))⟩
  · rintro k fr w hk ⟨rfl, hk20, vL, en, hO, hs⟩
    obtain ⟨x, hx⟩ := nth (l := r.lims) hk
    obtain ⟨aL, lL, cL, rfl, hL⟩ := hO.shape
    have ha0 := Int.emod_nonneg x.A (b := N + 1) (by omega)
    have ha1 := Int.emod_lt_of_pos x.A (b := N + 1) (by omega)
    have hb0 := Int.emod_nonneg x.B (b := N) (by omega)
    have hb1 := Int.emod_lt_of_pos x.B (b := N) (by omega)
    refine .block (.regSeq (.z zm ?_))
    refine .ixX (enc := Lim.c) hs hl rfl rfl Try.runUnderlying83 Try.sizeOf95 hx rfl ?_; intro b19 o19 hc19
    refine .q hs (q_loadsR (vs := x.c) rfl Try.isAgg95 Try.sizeOf95 hc19) ?_
    refine .o (.alloc hs Try.zeroValue95 rfl ?_); intro b5 w hs
    refine .z zg ?_
    refine .o (.stores (vs := x.c) hs rfl rfl Try.sizeOf95 ?_); intro w hs
    change St _ _ (.blk b5 x.c :: _) at hs
    refine .nil (.seq (.regSeq (.z zm (.z zeql (.nil ?_)))))
    refine (.condD rfl (fun hc22 => ?_) (fun hc22 => ?_))
    · refine .exit ?_
      refine xT (xN (xT (xB (nT ?_))))
      refine .regSeq (.y hs (zls [_, _] Try.isAgg32 Try.sizeOf32) ?_)
      refine .o (.stores (vs := [_, _]) hs rfl rfl Try.sizeOf32 ?_); intro w hs
      refine .nil ?_
      refine .ret ?_
      obtain rfl : k = 20 := by omega
      have e : (r.lims.take 20).map (madeLim N) = (madeS r).lims := by rw [← hN']; rfl
      rw [e] at hO
      have hml := (madeS_ok r).len
      obtain ⟨H1, g1, r1, hs⟩ := OwnS.publish (m := 4) (cs := (madeS r).lims.map Lim.c) hO (fun c hc => by simp only [List.mem_map] at hc; obtain ⟨x, _, rfl⟩ := hc; rfl) (by omega) (by rw [List.length_map]; omega) hs (by repeat constructor)
      exact Fin.retD [] [] hs fun w hs => ⟨_, results1 Try.results51 (rcells (vs := [_, _]) hs rfl Try.isAgg32 Try.sizeOf32), H1, g1, ⟨_, by rw [← hN']; rfl, r1⟩, hs.out⟩
    · refine .skip ?_
      refine nT ?_
      refine .regSeq ?_
      first | refine .q hs (q_ixA0 (k := 0) rfl rfl Try.runUnderlying95 Try.sizeOf3 rfl (by decide)) ?_ | refine .q hs (q_ixA (k := 0) rfl rfl Try.runUnderlying95 Try.sizeOf3 rfl (by decide)) ?_
      refine .y hs (zld Try.isAgg3) (.z (zfa fa_api_System_0) (.y hs (zld Try.isAgg3) (.z zadd ?_)))
      refine .o (.call Try.call55 rfl (law02_mod_spec hs (by omega)) ?_); rintro _ w ⟨rfl, hs⟩
      refine .z zg (.nil ?_)
      refine .seq (.draw mix rfl hs ?_); intro w hs
      refine .z 0 rfl zm ?_; refine .z 1 rfl zadd ?_
      first | refine .p (i := 2) rfl (by kernel_rfl) .none (q_ixA0 (k := 1) rfl rfl Try.runUnderlying95 Try.sizeOf3 rfl (by decide)) ?_ | refine .p (i := 2) rfl (by kernel_rfl) .none (q_ixA (k := 1) rfl rfl Try.runUnderlying95 Try.sizeOf3 rfl (by decide)) ?_
      refine .y 3 rfl hs Try.isAgg3 ?_; refine .z 4 rfl (zfa fa_api_System_0) ?_; refine .y 5 rfl hs Try.isAgg3 ?_; refine .z 8 rfl (zfa fa_api_System_0) ?_; refine .y 9 rfl hs Try.isAgg3 ?_; refine .z 10 rfl zadd ?_
      refine .e1 (i := 6) (by kernel_rfl) rfl rfl .none hs ?_
      refine .call Try.call55 rfl (law02_mod_spec hs (by omega)) ?_; rintro _ w ⟨rfl, hs⟩
      refine .go ?_
      refine .z 7 rfl zadd ?_
      refine .e1 (i := 11) (by kernel_rfl) rfl rfl .none hs ?_
      refine .call Try.call55 rfl (law02_mod_spec hs (by omega)) ?_; rintro _ w ⟨rfl, hs⟩
      refine .go ?_
      refine .z 12 rfl zg ?_; refine .done (by kernel_rfl) hs ?_
      refine .draw mix rfl hs ?_; intro w hs
      refine .z 0 rfl (zfa fa_api_System_1) ?_; refine .y 1 rfl hs Try.isAgg30 ?_; refine .z 2 rfl zm ?_; refine .z 3 rfl zm ?_
      first | refine .p (i := 4) rfl (by kernel_rfl) .none (q_ixA0 (k := 2) rfl rfl Try.runUnderlying95 Try.sizeOf3 rfl (by decide)) ?_ | refine .p (i := 4) rfl (by kernel_rfl) .none (q_ixA (k := 2) rfl rfl Try.runUnderlying95 Try.sizeOf3 rfl (by decide)) ?_
      refine .y 5 rfl hs Try.isAgg3 ?_
      first | refine .p (i := 8) rfl (by kernel_rfl) .none (q_ixA0 (k := 3) rfl rfl Try.runUnderlying95 Try.sizeOf3 rfl (by decide)) ?_ | refine .p (i := 8) rfl (by kernel_rfl) .none (q_ixA (k := 3) rfl rfl Try.runUnderlying95 Try.sizeOf3 rfl (by decide)) ?_
      refine .y 9 rfl hs Try.isAgg3 ?_
      refine .e1 (i := 6) (by kernel_rfl) rfl rfl .none hs ?_
      refine .call Try.call55 rfl (law02_mod_spec hs (by decide)) ?_; rintro _ w ⟨rfl, hs⟩
      refine .go ?_
      refine .z 7 rfl zsub ?_
      refine .e1 (i := 10) (by kernel_rfl) rfl rfl .none hs ?_
      refine .call Try.call55 rfl (law02_mod_spec hs (by decide)) ?_; rintro _ w ⟨rfl, hs⟩
      refine .go ?_
      refine .z 11 rfl zadd ?_; refine .z 12 rfl (zbd [_, _, _, _] bld_api_Limit) ?_
      refine .e1 (i := 13) (by kernel_rfl) rfl rfl .none hs ?_
      refine .buildSlice (cells := (madeLim N x).c) hs bls_sl_api_Limit_1 rfl rfl ?_; intro b54 w hs
      refine .go ?_
      refine .e1 (i := 14) (by kernel_rfl) rfl rfl .none hs ?_
      refine .append (ys := (madeLim N x).c) hs app_sl_api_Limit_api_Limit rfl rfl hO (.own .here rfl rfl) (by simp [Lim.c, Value.oneCell']) (fun l h => by rw [Lims_length] at h; simp at h; omega) ?_; intro v55 en55 w hO2 hs
      obtain ⟨a55, l55, c55, rfl, h55⟩ := hO2.shape
      refine .go ?_
      refine .z 15 rfl (zfa fa_api_System_1) ?_
      refine .e1 (i := 16) (by kernel_rfl) rfl rfl .none hs ?_
      refine .store hs rfl rfl Try.sizeOf30 ?_; intro w hs
      refine .go ?_
      refine .done (by kernel_rfl) hs ?_
      refine nB (nT ?_)
      have e : (r.lims.take (k + 1)).map (madeLim N) = (r.lims.take k).map (madeLim N) ++ [madeLim N x] := by rw [take_snoc hx, List.map_append]; rfl
      rw [← Lims_one, ← Lims_append, ← e] at hO2
      exact .mk ⟨rfl, by omega, _, _, hO2, hs.sub (by repeat (first | exact Sub.refl _ | constructor | apply Sub.weaken))⟩
  · rintro fr w ⟨rfl, hk20, vL, en, hO, hs⟩
    obtain ⟨aL, lL, cL, rfl, hL⟩ := hO.shape
    refine nT ?_
    refine .regSeq (.y hs (zls [_, _] Try.isAgg32 Try.sizeOf32) ?_)
    refine .o (.stores (vs := [_, _]) hs rfl rfl Try.sizeOf32 ?_); intro w hs
    refine .nil ?_
    refine .ret ?_
    have e : (r.lims.take r.lims.length).map (madeLim N) = (madeS r).lims := by
      rw [← hN']
      show _ = (r.lims.take 20).map (madeLim (madeN r))
      rw [List.take_of_length_le (Nat.le_refl _), List.take_of_length_le hk20]
    rw [e] at hO
    have hml := (madeS_ok r).len
    obtain ⟨H1, g1, r1, hs⟩ := OwnS.publish (m := 4) (cs := (madeS r).lims.map Lim.c) hO (fun c hc => by simp only [List.mem_map] at hc; obtain ⟨x, _, rfl⟩ := hc; rfl) (by omega) (by rw [List.length_map]; omega) hs (by repeat constructor)
    exact Fin.retD [] [] hs fun w hs => ⟨_, results1 Try.results51 (rcells (vs := [_, _]) hs rfl Try.isAgg32 Try.sizeOf32), H1, g1, ⟨_, by rw [← hN']; rfl, r1⟩, hs.out⟩
end Go.Proofs.Ytiiokdeehlfeeaa

namespace Go.Proofs.Ytiiokdeehlfeeaa
open Go.MW
set_option maxHeartbeats 4000000 in
theorem law_BoundClosed_walk {H : Heap} {w : World} {σ : List Ent} {v vp : Value} {r : Syst} {picks : List Int} {z : Two} (hs : St H w σ) (hr : RSy H v r) (hp : RI H vp picks) :
    Cl Try.prog 10 [v, vp, .agg #[I z.a, I z.b]] w fun v w' => v = .bool true ∧ ∃ H', HLe H H' ∧ St H' w' σ := by
  obtain ⟨ul, rfl, hl⟩ := hr
  obtain ⟨al, cl, rfl⟩ := RL.shape hl
  obtain ⟨ap, cp, rfl⟩ := RI.shape hp
  refine Cl.of Try.func10 rfl Try.ntmps10 (by simp) (args_cons (k := 0) rfl (args_cons (k := 1) rfl (args_cons (k := 2) rfl (args0)))) ?_
  refine .regSeq ?_
  refine .o (.box hs rfl rfl ?_); intro b3 w hs
  refine .o (.box hs rfl rfl ?_); intro b5 w hs
  refine .z zg (.nil (.regSeq (.y hs (zls [_, _] Try.isAgg85 Try.sizeOf85) ?_)))
  refine .o (.call Try.call51 rfl (law02_made_spec (r := r) hs ⟨_, rfl, hl⟩) ?_); rintro _ w ⟨H1, hle1, ⟨u22, rfl, hL⟩, hs⟩
  obtain ⟨a22, c22, rfl⟩ := RL.shape hL
  have hok := madeS_ok r
  generalize madeS r = s at hL hok ⊢
  have hnn : (s.n : Int) = s.many + 1 := by have := hok.m0; simp only [Syst.n]; omega
  have hn65 := hok.n65
  have hnp := s.n_pos
  refine .o (.alloc hs Try.zeroValue32 rfl ?_); intro b7 w hs
  refine .o (.stores (vs := [_, _]) hs rfl rfl Try.sizeOf32 ?_); intro w hs
  refine .nil (.regSeq (.y hs (zls [_, _] Try.isAgg32 Try.sizeOf32) ?_))
  refine .o (.call Try.call52 rfl (bound_Close_spec (s := s) hs ⟨_, rfl, hL⟩) ?_); rintro _ w ⟨H2, vt, e, hle2, rfl, hcase, hs⟩
  refine .z zm (.z zex (.z zex (.z zg (.z zg (.nil (.regSeq (.y hs (zls [_, _] Try.isAgg32 Try.sizeOf32) (.z zm ?_))))))))
  refine .o (.call Try.call53 rfl (bound_Point_spec (s := s) hs ⟨_, rfl, hL.mono hle2⟩ (hp.mono (hle1.trans hle2))) ?_); rintro _ w ⟨H3, vx, x, f, hle3, rfl, hRx, hPx, hs⟩
  obtain ⟨ax, cx, rfl⟩ := RI.shape hRx
  have hef : (e = 23 ∧ f = 23) ∨ (e = 0 ∧ f = 0) := by
    rcases hcase with ⟨h, _⟩ | ⟨_, h, rfl, _⟩ | ⟨_, h, rfl, _⟩
    · exact (h (s.ok_iff.2 hok)).elim
    · exact .inl ⟨rfl, (hPx.uniq (.clash hok h)).2⟩
    · cases hPx with
      | bad g => exact (g (s.ok_iff.2 hok)).elim
      | clash _ g => exact (g h).elim
      | ok _ _ _ => exact .inr ⟨rfl, rfl⟩
  have hle13 := hle1.trans (hle2.trans hle3)
  refine .z zm (.z zex (.z zex (.z zg (.z zg (.nil (.seq (.regSeq (.z zm (.z zneq ?_)))))))))
  refine .nil ?_
  refine (.condN rfl (fun hc35 => ?_) (fun hc35 => ?_))
  · refine .regSeq (.z zm (.z zeql (.z zm ?_)))
    refine .bifD (t' := 38) rfl (fun hb38 => ?_) (fun hb38 => ?_)
    · refine .gT rfl rfl ?_
      refine .z zm ?_
      refine .gT rfl rfl ?_
      refine .z zm ?_
      refine .gT rfl rfl ?_
      refine .z zeql (.z zpT (.z zm ?_))
      refine .bifD (t' := 43) rfl (fun hb43 => ?_) (fun hb43 => ?_)
      · refine .gT rfl rfl ?_
        refine .o (.call Try.call54 rfl (law02_sane_spec hs) ?_); rintro _ w ⟨rfl, H4, hle4, hs⟩
        refine .z zpT (.z zg (.nil ?_))
        refine .ret (rT (Fin.ret1 Try.results10 rfl ?_))
        first | (exfalso; omega) | exact ⟨rfl, H6, hle15.trans hle6, hs.out⟩ | exact ⟨rfl, H4, hle13.trans hle4, hs.out⟩
      · refine .gFs 1 7 true rfl rfl rfl ?_
        refine .z zpF (.z zg (.nil ?_))
        refine .ret (rT (Fin.ret1 Try.results10 rfl ?_))
        first | (exfalso; omega) | exact ⟨rfl, H6, hle15.trans hle6, hs.out⟩ | exact ⟨rfl, H4, hle13.trans hle4, hs.out⟩
    · refine .gFs 3 2 true rfl rfl rfl ?_
      refine .z zpF (.z zm ?_)
      refine .gFs 1 7 true rfl rfl rfl ?_
      refine .z zpF (.z zg (.nil ?_))
      refine .ret (rT (Fin.ret1 Try.results10 rfl ?_))
      first | (exfalso; omega) | exact ⟨rfl, H6, hle15.trans hle6, hs.out⟩ | exact ⟨rfl, H4, hle13.trans hle4, hs.out⟩
  · refine .skip ?_
    refine nT ?_
    refine .seq (.regSeq ?_)
    obtain ⟨hsd, hPP, rs, hRT, hSq, hWT⟩ : s.Sound ∧ PointP s picks x ∧ ∃ rs, RT H2 vt rs ∧ Sq s.n rs ∧ WaysT s.n s.arcs (gt rs) := by
      rcases hcase with ⟨h, _⟩ | ⟨_, h, h2, _⟩ | ⟨_, h, _, h2⟩
      · exact (h (s.ok_iff.2 hok)).elim
      · omega
      · refine ⟨h, ?_, h2⟩
        generalize hz : f = y at hPx
        cases hPx with
        | bad g => exact (g (s.ok_iff.2 hok)).elim
        | clash _ g => exact (g h).elim
        | ok _ _ g => exact g
    obtain ⟨at', ct, rfl⟩ := hRT.shape
    replace hRT := hRT.mono hle3
    have hrl := hSq.1
    have hTS := hok.tabS hsd hWT
    obtain ⟨T', hT', hPI⟩ := hPP.inv hok hsd
    obtain ⟨hxl, hx0, hxb, hxf⟩ := hPP.feas hok hsd
    refine .z zm (.z zneq (.z zm ?_))
    refine .bifN (t' := 48) rfl (fun hb48 => ?_) (fun hb48 => ?_)
    · refine .gFs 6 2 false rfl rfl rfl ?_
      refine .z zpT (.z zm ?_)
      refine .gFs 5 10 false rfl rfl rfl ?_
      refine .z zpT (.nil ?_)
      refine (.condT rfl rfl ?_)
      refine .regSeq (.z zg (.nil ?_))
      refine .ret (rT (Fin.ret1 Try.results10 rfl ?_))
      first | (exfalso; omega) | exact ⟨rfl, H6, hle15.trans hle6, hs.out⟩ | exact ⟨rfl, H4, hle13.trans hle4, hs.out⟩
    · refine .gT rfl rfl ?_
      refine .z zm ?_
      refine .gT rfl rfl ?_
      refine .z (zlen Try.runUnderlying87) ?_
      refine .gT rfl rfl ?_
      refine .z (zfa fa_api_System_0) ?_
      refine .gT rfl rfl ?_
      refine .y hs (zld Try.isAgg3) ?_
      refine .gT rfl rfl ?_
      refine .z zadd ?_
      refine .gT rfl rfl ?_
      refine .z zneq (.z zpF (.z zm ?_))
      refine .bifN (t' := 56) rfl (fun hb56 => ?_) (fun hb56 => ?_)
      · refine .gFs 5 10 false rfl rfl rfl ?_
        refine .z zpT (.nil ?_)
        refine (.condT rfl rfl ?_)
        refine .regSeq (.z zg (.nil ?_))
        refine .ret (rT (Fin.ret1 Try.results10 rfl ?_))
        first | (exfalso; omega) | exact ⟨rfl, H6, hle15.trans hle6, hs.out⟩ | exact ⟨rfl, H4, hle13.trans hle4, hs.out⟩
      · refine .gT rfl rfl ?_
        refine .z zm ?_
        refine .gT rfl rfl ?_
        refine .z (zlen Try.runUnderlying22) ?_
        refine .gT rfl rfl ?_
        refine .z zm ?_
        refine .gT rfl rfl ?_
        refine .z (zlen Try.runUnderlying87) ?_
        refine .gT rfl rfl ?_
        refine .z zneq (.z zpF (.nil ?_))
        refine (.condN rfl (fun hc62 => ?_) (fun hc62 => ?_))
        · refine .regSeq (.z zg (.nil ?_))
          refine .ret (rT (Fin.ret1 Try.results10 rfl ?_))
          first | (exfalso; omega) | exact ⟨rfl, H6, hle15.trans hle6, hs.out⟩ | exact ⟨rfl, H4, hle13.trans hle4, hs.out⟩
        · refine .skip ?_
          refine nT ?_
          refine .seq (.regSeq (.z zm (.z (zlen Try.runUnderlying87) (.z zm (.nil ?_)))))
          refine .for (N := rs.length) (J := fun k fr w => fr = [(8, .slice at' rs.length ct), (10, .slice ax x.length cx), (7, .pointer (some ⟨b7, 0, none⟩)), (5, .pointer (some ⟨b5, 0, none⟩))] ∧ St H3 w (.blk b7 [I s.many, .slice a22 s.lims.length c22] :: .blk b5 [I z.a, I z.b] :: .blk b3 [I r.many, .slice al r.lims.length cl] :: σ)) (by omega) ?_ ?_ ?_
          · exact .mk ⟨rfl, hs⟩
          · rintro a fr w ha ⟨rfl, hs⟩
            have hrow := hSq.2 a (by omega)
            have hd : gi (gr rs a) a = 0 := hTS.dg a (by omega)
            refine .block (.regSeq (.z zm (.z zg (.nil (.regSeq (.z zm (.z zm ?_)))))))
            refine .ixT hs hRT rfl rfl Try.runUnderlying87 Try.sizeOf22 (show a < _ by omega) (by first | rfl | assumption | omega) ?_; intro b70 o70 a70 c70 hc70 hR70
            refine .q hs (q_loadR rfl Try.isAgg22 hc70) ?_
            refine .z (zlen Try.runUnderlying22) (.z zm (.z (zlen Try.runUnderlying87) (.z zneq (.z zm ?_))))
            refine .bifN (t' := 76) rfl (fun hb76 => ?_) (fun hb76 => ?_)
            · refine .gFs 8 8 false rfl rfl rfl ?_
              refine .z zpT (.nil ?_)
              refine (.condT rfl rfl ?_)
              refine .regSeq (.z zg (.nil ?_))
              refine .ret (rB (rT (rB (rT (Fin.ret1 Try.results10 rfl ?_)))))
              first | (exfalso; omega) | exact ⟨rfl, H6, hle15.trans hle6, hs.out⟩ | exact ⟨rfl, H4, hle13.trans hle4, hs.out⟩
            · refine .gT rfl rfl ?_
              refine .z zm ?_
              refine .gT rfl rfl ?_
              refine .z zm ?_
              refine .gT rfl rfl ?_
              refine .ixT hs hRT rfl rfl Try.runUnderlying87 Try.sizeOf22 (show a < _ by omega) (by first | rfl | assumption | omega) ?_; intro b79 o79 a79 c79 hc79 hR79
              refine .gT rfl rfl ?_
              refine .q hs (q_loadR rfl Try.isAgg22 hc79) ?_
              refine .gT rfl rfl ?_
              refine .z zm ?_
              refine .gT rfl rfl ?_
              refine .ixY hs hR79 rfl rfl Try.runUnderlying22 Try.sizeOf3 (gi_get (l := (gr rs a)) (i := a) (by omega)) (by first | rfl | assumption | omega) ?_; intro b82 o82 hc82
              refine .gT rfl rfl ?_
              refine .q hs (q_loadR rfl Try.isAgg3 hc82) ?_
              refine .gT rfl rfl ?_
              refine .z zneq (.z zpF (.nil ?_))
              refine (.condN rfl (fun hc85 => ?_) (fun hc85 => ?_))
              · refine .regSeq (.z zg (.nil ?_))
                refine .ret (rB (rT (rB (rT (Fin.ret1 Try.results10 rfl ?_)))))
                first | (exfalso; omega) | exact ⟨rfl, H6, hle15.trans hle6, hs.out⟩ | exact ⟨rfl, H4, hle13.trans hle4, hs.out⟩
              · refine .skip ?_
                refine nB (nT ?_)
                exact .mk ⟨rfl, hs⟩
          · rintro fr w ⟨rfl, hs⟩
            refine nT ?_
            refine .seq (.regSeq (.z zm (.z (zlen Try.runUnderlying87) (.z zm (.nil ?_)))))
            refine .for (N := rs.length) (J := fun k fr w => fr = [(8, .slice at' rs.length ct), (10, .slice ax x.length cx), (7, .pointer (some ⟨b7, 0, none⟩)), (5, .pointer (some ⟨b5, 0, none⟩))] ∧ St H3 w (.blk b7 [I s.many, .slice a22 s.lims.length c22] :: .blk b5 [I z.a, I z.b] :: .blk b3 [I r.many, .slice al r.lims.length cl] :: σ)) (by omega) ?_ ?_ ?_
            · exact .mk ⟨rfl, hs⟩
            · rintro a fr w ha ⟨rfl, hs⟩
              have hrow := hSq.2 a (by omega)
              refine .block (.regSeq (.z zm (.z zg (.nil (.regSeq (.z zm (.z (zlen Try.runUnderlying87) (.z zm (.nil ?_)))))))))
              refine .for (N := rs.length) (J := fun k fr w => fr = [(13, I (a : Int)), (89, I (a : Int)), (88, I (rs.length : Int)), (8, .slice at' rs.length ct), (10, .slice ax x.length cx), (7, .pointer (some ⟨b7, 0, none⟩)), (5, .pointer (some ⟨b5, 0, none⟩))] ∧ St H3 w (.blk b7 [I s.many, .slice a22 s.lims.length c22] :: .blk b5 [I z.a, I z.b] :: .blk b3 [I r.many, .slice al r.lims.length cl] :: σ)) (by omega) ?_ ?_ ?_
              · exact .mk ⟨rfl, hs⟩
              · rintro b fr w hb ⟨rfl, hs⟩
                have hrow2 := hSq.2 b (by omega)
                have tb1 : gi (gr rs a) b ≠ 1000000000 → -1400000 ≤ gi (gr rs a) b ∧ gi (gr rs a) b ≤ 1400000 := fun h => hTS.bd a b (by omega) (by omega) h
                have hxa := hxb a (by omega)
                have hxbb := hxb b (by omega)
                have hpt : gi (gr rs a) b ≠ 1000000000 → gi x b - gi x a ≤ gi (gr rs a) b := fun h => hWT.lo a b (by omega) (by omega) h (gi x) hxf
                refine .block (.regSeq (.z zm (.z zg (.nil (.seq (.regSeq (.z zm (.z (zlen Try.runUnderlying87) (.z zm ?_)))))))))
                refine .nil ?_
                refine .for (N := rs.length) (J := fun k fr w => fr = [(14, I (b : Int)), (94, I (b : Int)), (93, I (rs.length : Int)), (13, I (a : Int)), (89, I (a : Int)), (88, I (rs.length : Int)), (8, .slice at' rs.length ct), (10, .slice ax x.length cx), (7, .pointer (some ⟨b7, 0, none⟩)), (5, .pointer (some ⟨b5, 0, none⟩))] ∧ St H3 w (.blk b7 [I s.many, .slice a22 s.lims.length c22] :: .blk b5 [I z.a, I z.b] :: .blk b3 [I r.many, .slice al r.lims.length cl] :: σ)) (by omega) ?_ ?_ ?_
                · exact .mk ⟨rfl, hs⟩
                · rintro c fr w hc ⟨rfl, hs⟩
                  have tb2 : gi (gr rs b) c ≠ 1000000000 → -1400000 ≤ gi (gr rs b) c ∧ gi (gr rs b) c ≤ 1400000 := fun h => hTS.bd b c (by omega) (by omega) h
                  have tri : gi (gr rs a) b ≠ 1000000000 → gi (gr rs b) c ≠ 1000000000 → gi (gr rs a) c ≤ gi (gr rs a) b + gi (gr rs b) c := fun h1 h2 => (hTS.tri a b c (by omega) (by omega) (by omega) h1 h2).2
                  refine .block (.regSeq (.z zm (.z zg (.nil ?_))))
                  refine .seq (.draw mix rfl hs ?_); intro w hs
                  refine .z 0 rfl zm ?_; refine .z 1 rfl zm ?_
                  refine .ixT (i := 2) hs rfl (by kernel_rfl) .none hRT rfl rfl Try.runUnderlying87 Try.sizeOf22 (show a < _ by omega) (by first | rfl | assumption | omega) ?_; intro b104 o104 a104 c104 hc104 hR104
                  refine .r (i := 3) hs rfl (by kernel_rfl) .none (q_loadR rfl Try.isAgg22 hc104) ?_
                  refine .z 4 rfl zm ?_
                  refine .ixX (enc := fun x => [I x]) (i := 5) hs rfl (by kernel_rfl) .none hR104 rfl rfl Try.runUnderlying22 Try.sizeOf3 (gi_get (l := (gr rs a)) (i := b) (by omega)) (by first | rfl | assumption | omega) ?_; intro b107 o107 hc107; replace hc107 := CellsAt.one hc107
                  refine .r (i := 6) hs rfl (by kernel_rfl) .none (q_loadR rfl Try.isAgg3 hc107) ?_
                  refine .z 7 rfl zneq ?_; refine .z 8 rfl zm ?_
                  refine .bifN (t' := 110) rfl (fun hb110 => ?_) (fun hb110 => ?_)
                  · refine .z 9 rfl zm ?_; refine .z 10 rfl zm ?_
                    refine .ixT (i := 11) hs rfl (by kernel_rfl) (.some rfl rfl) hRT rfl rfl Try.runUnderlying87 Try.sizeOf22 (show b < _ by omega) (by first | rfl | assumption | omega) ?_; intro b113 o113 a113 c113 hc113 hR113
                    refine .r (i := 12) hs rfl (by kernel_rfl) (.some rfl rfl) (q_loadR rfl Try.isAgg22 hc113) ?_
                    refine .z 13 rfl zm ?_
                    refine .ixX (enc := fun x => [I x]) (i := 14) hs rfl (by kernel_rfl) (.some rfl rfl) hR113 rfl rfl Try.runUnderlying22 Try.sizeOf3 (gi_get (l := (gr rs b)) (i := c) (by omega)) (by first | rfl | assumption | omega) ?_; intro b116 o116 hc116; replace hc116 := CellsAt.one hc116
                    refine .r (i := 15) hs rfl (by kernel_rfl) (.some rfl rfl) (q_loadR rfl Try.isAgg3 hc116) ?_
                    refine .z 16 rfl zneq ?_; refine .z 17 rfl zpT ?_; refine .z 18 rfl zm ?_
                    refine .bifN (t' := 120) rfl (fun hb120 => ?_) (fun hb120 => ?_)
                    · refine .z 19 rfl zm ?_; refine .z 20 rfl zm ?_
                      refine .ixT (i := 21) hs rfl (by kernel_rfl) (.some rfl rfl) hRT rfl rfl Try.runUnderlying87 Try.sizeOf22 (show a < _ by omega) (by first | rfl | assumption | omega) ?_; intro b123 o123 a123 c123 hc123 hR123
                      refine .r (i := 22) hs rfl (by kernel_rfl) (.some rfl rfl) (q_loadR rfl Try.isAgg22 hc123) ?_
                      refine .z 23 rfl zm ?_
                      refine .ixX (enc := fun x => [I x]) (i := 24) hs rfl (by kernel_rfl) (.some rfl rfl) hR123 rfl rfl Try.runUnderlying22 Try.sizeOf3 (gi_get (l := (gr rs a)) (i := c) (by omega)) (by first | rfl | assumption | omega) ?_; intro b126 o126 hc126; replace hc126 := CellsAt.one hc126
                      refine .r (i := 25) hs rfl (by kernel_rfl) (.some rfl rfl) (q_loadR rfl Try.isAgg3 hc126) ?_
                      refine .z 26 rfl zm ?_; refine .z 27 rfl zm ?_
                      refine .ixT (i := 28) hs rfl (by kernel_rfl) (.some rfl rfl) hRT rfl rfl Try.runUnderlying87 Try.sizeOf22 (show a < _ by omega) (by first | rfl | assumption | omega) ?_; intro b130 o130 a130 c130 hc130 hR130
                      refine .r (i := 29) hs rfl (by kernel_rfl) (.some rfl rfl) (q_loadR rfl Try.isAgg22 hc130) ?_
                      refine .z 30 rfl zm ?_
                      refine .ixX (enc := fun x => [I x]) (i := 31) hs rfl (by kernel_rfl) (.some rfl rfl) hR130 rfl rfl Try.runUnderlying22 Try.sizeOf3 (gi_get (l := (gr rs a)) (i := b) (by omega)) (by first | rfl | assumption | omega) ?_; intro b133 o133 hc133; replace hc133 := CellsAt.one hc133
                      refine .r (i := 32) hs rfl (by kernel_rfl) (.some rfl rfl) (q_loadR rfl Try.isAgg3 hc133) ?_
                      refine .z 33 rfl zm ?_; refine .z 34 rfl zm ?_
                      refine .ixT (i := 35) hs rfl (by kernel_rfl) (.some rfl rfl) hRT rfl rfl Try.runUnderlying87 Try.sizeOf22 (show b < _ by omega) (by first | rfl | assumption | omega) ?_; intro b137 o137 a137 c137 hc137 hR137
                      refine .r (i := 36) hs rfl (by kernel_rfl) (.some rfl rfl) (q_loadR rfl Try.isAgg22 hc137) ?_
                      refine .z 37 rfl zm ?_
                      refine .ixX (enc := fun x => [I x]) (i := 38) hs rfl (by kernel_rfl) (.some rfl rfl) hR137 rfl rfl Try.runUnderlying22 Try.sizeOf3 (gi_get (l := (gr rs b)) (i := c) (by omega)) (by first | rfl | assumption | omega) ?_; intro b140 o140 hc140; replace hc140 := CellsAt.one hc140
                      refine .r (i := 39) hs rfl (by kernel_rfl) (.some rfl rfl) (q_loadR rfl Try.isAgg3 hc140) ?_
                      refine .z 40 rfl zadd ?_; refine .z 41 rfl zgtr ?_; refine .z 42 rfl zpT ?_; refine .done (by kernel_rfl) hs ?_
                      refine (.condD rfl (fun hc144 => ?_) (fun hc144 => ?_))
                      · refine .regSeq (.z zg (.nil ?_))
                        refine .ret (rB (rT (rB (rT (rB (rT (rB (rB (rT (rB (rT (Fin.ret1 Try.results10 rfl ?_))))))))))))
                        first | (exfalso; omega) | exact ⟨rfl, H6, hle15.trans hle6, hs.out⟩ | exact ⟨rfl, H4, hle13.trans hle4, hs.out⟩
                      · refine .skip ?_
                        refine nB (nT ?_)
                        exact .mk ⟨rfl, hs⟩
                    · refine .qF (i := 19) rfl (by kernel_rfl) rfl rfl ?_
                      refine .qF (i := 20) rfl (by kernel_rfl) rfl rfl ?_
                      refine .qF (i := 21) rfl (by kernel_rfl) rfl rfl ?_
                      refine .qF (i := 22) rfl (by kernel_rfl) rfl rfl ?_
                      refine .qF (i := 23) rfl (by kernel_rfl) rfl rfl ?_
                      refine .qF (i := 24) rfl (by kernel_rfl) rfl rfl ?_
                      refine .qF (i := 25) rfl (by kernel_rfl) rfl rfl ?_
                      refine .qF (i := 26) rfl (by kernel_rfl) rfl rfl ?_
                      refine .qF (i := 27) rfl (by kernel_rfl) rfl rfl ?_
                      refine .qF (i := 28) rfl (by kernel_rfl) rfl rfl ?_
                      refine .qF (i := 29) rfl (by kernel_rfl) rfl rfl ?_
                      refine .qF (i := 30) rfl (by kernel_rfl) rfl rfl ?_
                      refine .qF (i := 31) rfl (by kernel_rfl) rfl rfl ?_
                      refine .qF (i := 32) rfl (by kernel_rfl) rfl rfl ?_
                      refine .qF (i := 33) rfl (by kernel_rfl) rfl rfl ?_
                      refine .qF (i := 34) rfl (by kernel_rfl) rfl rfl ?_
                      refine .qF (i := 35) rfl (by kernel_rfl) rfl rfl ?_
                      refine .qF (i := 36) rfl (by kernel_rfl) rfl rfl ?_
                      refine .qF (i := 37) rfl (by kernel_rfl) rfl rfl ?_
                      refine .qF (i := 38) rfl (by kernel_rfl) rfl rfl ?_
                      refine .qF (i := 39) rfl (by kernel_rfl) rfl rfl ?_
                      refine .qF (i := 40) rfl (by kernel_rfl) rfl rfl ?_
                      refine .qF (i := 41) rfl (by kernel_rfl) rfl rfl ?_
                      refine .z 42 rfl zpF ?_; refine .done (by kernel_rfl) hs ?_
                      refine (.condF rfl rfl ?_)
                      refine .skip ?_
                      refine nB (nT ?_)
                      exact .mk ⟨rfl, hs⟩
                  · refine .qF (i := 9) rfl (by kernel_rfl) rfl rfl ?_
                    refine .qF (i := 10) rfl (by kernel_rfl) rfl rfl ?_
                    refine .qF (i := 11) rfl (by kernel_rfl) rfl rfl ?_
                    refine .qF (i := 12) rfl (by kernel_rfl) rfl rfl ?_
                    refine .qF (i := 13) rfl (by kernel_rfl) rfl rfl ?_
                    refine .qF (i := 14) rfl (by kernel_rfl) rfl rfl ?_
                    refine .qF (i := 15) rfl (by kernel_rfl) rfl rfl ?_
                    refine .qF (i := 16) rfl (by kernel_rfl) rfl rfl ?_
                    refine .z 17 rfl zpF ?_; refine .z 18 rfl zm ?_
                    refine .qF (i := 19) rfl (by kernel_rfl) rfl rfl ?_
                    refine .qF (i := 20) rfl (by kernel_rfl) rfl rfl ?_
                    refine .qF (i := 21) rfl (by kernel_rfl) rfl rfl ?_
                    refine .qF (i := 22) rfl (by kernel_rfl) rfl rfl ?_
                    refine .qF (i := 23) rfl (by kernel_rfl) rfl rfl ?_
                    refine .qF (i := 24) rfl (by kernel_rfl) rfl rfl ?_
                    refine .qF (i := 25) rfl (by kernel_rfl) rfl rfl ?_
                    refine .qF (i := 26) rfl (by kernel_rfl) rfl rfl ?_
                    refine .qF (i := 27) rfl (by kernel_rfl) rfl rfl ?_
                    refine .qF (i := 28) rfl (by kernel_rfl) rfl rfl ?_
                    refine .qF (i := 29) rfl (by kernel_rfl) rfl rfl ?_
                    refine .qF (i := 30) rfl (by kernel_rfl) rfl rfl ?_
                    refine .qF (i := 31) rfl (by kernel_rfl) rfl rfl ?_
                    refine .qF (i := 32) rfl (by kernel_rfl) rfl rfl ?_
                    refine .qF (i := 33) rfl (by kernel_rfl) rfl rfl ?_
                    refine .qF (i := 34) rfl (by kernel_rfl) rfl rfl ?_
                    refine .qF (i := 35) rfl (by kernel_rfl) rfl rfl ?_
                    refine .qF (i := 36) rfl (by kernel_rfl) rfl rfl ?_
                    refine .qF (i := 37) rfl (by kernel_rfl) rfl rfl ?_
                    refine .qF (i := 38) rfl (by kernel_rfl) rfl rfl ?_
                    refine .qF (i := 39) rfl (by kernel_rfl) rfl rfl ?_
                    refine .qF (i := 40) rfl (by kernel_rfl) rfl rfl ?_
                    refine .qF (i := 41) rfl (by kernel_rfl) rfl rfl ?_
                    refine .z 42 rfl zpF ?_; refine .done (by kernel_rfl) hs ?_
                    refine (.condF rfl rfl ?_)
                    refine .skip ?_
                    refine nB (nT ?_)
                    exact .mk ⟨rfl, hs⟩
                · rintro fr w ⟨rfl, hs⟩
                  refine nT ?_
                  refine .seq (.draw mix rfl hs ?_); intro w hs
                  refine .z 0 rfl zm ?_; refine .z 1 rfl zm ?_
                  refine .ixT (i := 2) hs rfl (by kernel_rfl) .none hRT rfl rfl Try.runUnderlying87 Try.sizeOf22 (show a < _ by omega) (by first | rfl | assumption | omega) ?_; intro b148 o148 a148 c148 hc148 hR148
                  refine .r (i := 3) hs rfl (by kernel_rfl) .none (q_loadR rfl Try.isAgg22 hc148) ?_
                  refine .z 4 rfl zm ?_
                  refine .ixX (enc := fun x => [I x]) (i := 5) hs rfl (by kernel_rfl) .none hR148 rfl rfl Try.runUnderlying22 Try.sizeOf3 (gi_get (l := (gr rs a)) (i := b) (by omega)) (by first | rfl | assumption | omega) ?_; intro b151 o151 hc151; replace hc151 := CellsAt.one hc151
                  refine .r (i := 6) hs rfl (by kernel_rfl) .none (q_loadR rfl Try.isAgg3 hc151) ?_
                  refine .z 7 rfl zneq ?_; refine .z 8 rfl zm ?_
                  refine .bifN (t' := 154) rfl (fun hb154 => ?_) (fun hb154 => ?_)
                  · refine .z 9 rfl zm ?_; refine .z 10 rfl zm ?_
                    refine .ixX (enc := fun x => [I x]) (i := 11) hs rfl (by kernel_rfl) (.some rfl rfl) hRx rfl rfl Try.runUnderlying22 Try.sizeOf3 (gi_get (l := x) (i := b) (by omega)) (by first | rfl | assumption | omega) ?_; intro b157 o157 hc157; replace hc157 := CellsAt.one hc157
                    refine .r (i := 12) hs rfl (by kernel_rfl) (.some rfl rfl) (q_loadR rfl Try.isAgg3 hc157) ?_
                    refine .z 13 rfl zm ?_; refine .z 14 rfl zm ?_
                    refine .ixX (enc := fun x => [I x]) (i := 15) hs rfl (by kernel_rfl) (.some rfl rfl) hRx rfl rfl Try.runUnderlying22 Try.sizeOf3 (gi_get (l := x) (i := a) (by omega)) (by first | rfl | assumption | omega) ?_; intro b161 o161 hc161; replace hc161 := CellsAt.one hc161
                    refine .r (i := 16) hs rfl (by kernel_rfl) (.some rfl rfl) (q_loadR rfl Try.isAgg3 hc161) ?_
                    refine .z 17 rfl zsub ?_; refine .z 18 rfl zm ?_; refine .z 19 rfl zm ?_
                    refine .ixT (i := 20) hs rfl (by kernel_rfl) (.some rfl rfl) hRT rfl rfl Try.runUnderlying87 Try.sizeOf22 (show a < _ by omega) (by first | rfl | assumption | omega) ?_; intro b166 o166 a166 c166 hc166 hR166
                    refine .r (i := 21) hs rfl (by kernel_rfl) (.some rfl rfl) (q_loadR rfl Try.isAgg22 hc166) ?_
                    refine .z 22 rfl zm ?_
                    refine .ixX (enc := fun x => [I x]) (i := 23) hs rfl (by kernel_rfl) (.some rfl rfl) hR166 rfl rfl Try.runUnderlying22 Try.sizeOf3 (gi_get (l := (gr rs a)) (i := b) (by omega)) (by first | rfl | assumption | omega) ?_; intro b169 o169 hc169; replace hc169 := CellsAt.one hc169
                    refine .r (i := 24) hs rfl (by kernel_rfl) (.some rfl rfl) (q_loadR rfl Try.isAgg3 hc169) ?_
                    refine .z 25 rfl zgtr ?_; refine .z 26 rfl zpT ?_; refine .done (by kernel_rfl) hs ?_
                    refine (.condD rfl (fun hc172 => ?_) (fun hc172 => ?_))
                    · refine .regSeq (.z zg (.nil ?_))
                      refine .ret (rB (rT (rB (rB (rT (rB (rT (Fin.ret1 Try.results10 rfl ?_))))))))
                      first | (exfalso; omega) | exact ⟨rfl, H6, hle15.trans hle6, hs.out⟩ | exact ⟨rfl, H4, hle13.trans hle4, hs.out⟩
                    · refine .skip ?_
                      refine nB (nT ?_)
                      exact .mk ⟨rfl, hs⟩
                  · refine .qF (i := 9) rfl (by kernel_rfl) rfl rfl ?_
                    refine .qF (i := 10) rfl (by kernel_rfl) rfl rfl ?_
                    refine .qF (i := 11) rfl (by kernel_rfl) rfl rfl ?_
                    refine .qF (i := 12) rfl (by kernel_rfl) rfl rfl ?_
                    refine .qF (i := 13) rfl (by kernel_rfl) rfl rfl ?_
                    refine .qF (i := 14) rfl (by kernel_rfl) rfl rfl ?_
                    refine .qF (i := 15) rfl (by kernel_rfl) rfl rfl ?_
                    refine .qF (i := 16) rfl (by kernel_rfl) rfl rfl ?_
                    refine .qF (i := 17) rfl (by kernel_rfl) rfl rfl ?_
                    refine .qF (i := 18) rfl (by kernel_rfl) rfl rfl ?_
                    refine .qF (i := 19) rfl (by kernel_rfl) rfl rfl ?_
                    refine .qF (i := 20) rfl (by kernel_rfl) rfl rfl ?_
                    refine .qF (i := 21) rfl (by kernel_rfl) rfl rfl ?_
                    refine .qF (i := 22) rfl (by kernel_rfl) rfl rfl ?_
                    refine .qF (i := 23) rfl (by kernel_rfl) rfl rfl ?_
                    refine .qF (i := 24) rfl (by kernel_rfl) rfl rfl ?_
                    refine .qF (i := 25) rfl (by kernel_rfl) rfl rfl ?_
                    refine .z 26 rfl zpF ?_; refine .done (by kernel_rfl) hs ?_
                    refine (.condF rfl rfl ?_)
                    refine .skip ?_
                    refine nB (nT ?_)
                    exact .mk ⟨rfl, hs⟩
              · rintro fr w ⟨rfl, hs⟩
                refine nB (nT ?_)
                exact .mk ⟨rfl, hs⟩
            · rintro fr w ⟨rfl, hs⟩
              have ma0 := Int.emod_nonneg z.a (b := (rs.length : Int)) (by omega)
              have ma1 := Int.emod_lt_of_pos z.a (b := (rs.length : Int)) (by omega)
              have mb0 := Int.emod_nonneg z.b (b := (rs.length : Int)) (by omega)
              have mb1 := Int.emod_lt_of_pos z.b (b := (rs.length : Int)) (by omega)
              refine nT ?_
              refine .regSeq ?_
              first | refine .q hs (q_ixA0 (k := 0) rfl rfl Try.runUnderlying29 Try.sizeOf3 rfl (by decide)) ?_ | refine .q hs (q_ixA (k := 0) rfl rfl Try.runUnderlying29 Try.sizeOf3 rfl (by decide)) ?_
              refine .y hs (zld Try.isAgg3) (.z zm (.z (zlen Try.runUnderlying87) ?_))
              refine .o (.call Try.call55 rfl (law02_mod_spec hs (by omega)) ?_); rintro _ w ⟨rfl, hs⟩
              obtain ⟨a, ha⟩ := Int.eq_ofNat_of_zero_le ma0
              rw [ha] at ma1 ⊢
              refine .z zg (.nil (.regSeq ?_))
              first | refine .q hs (q_ixA0 (k := 1) rfl rfl Try.runUnderlying29 Try.sizeOf3 rfl (by decide)) ?_ | refine .q hs (q_ixA (k := 1) rfl rfl Try.runUnderlying29 Try.sizeOf3 rfl (by decide)) ?_
              refine .y hs (zld Try.isAgg3) (.z zm (.z (zlen Try.runUnderlying87) ?_))
              refine .o (.call Try.call55 rfl (law02_mod_spec hs (by omega)) ?_); rintro _ w ⟨rfl, hs⟩
              obtain ⟨b, hb⟩ := Int.eq_ofNat_of_zero_le mb0
              rw [hb] at mb1 ⊢
              have hrow := hSq.2 a (by omega)
              refine .z zg (.nil (.regSeq (.z zm (.z (zlen Try.runUnderlying87) ?_))))
              refine .o (.makeI rs.length hs rfl rfl Try.runUnderlying22 Try.typeInfo3 rfl Try.sizeOf3 Try.zeroValue3 (by omega) ?_); intro b187 w hs
              refine .z zg (.nil (.regSeq (.z zm (.z zm ?_))))
              first | (refine .ixv hs Try.runUnderlying22 Try.sizeOf3 ?_; intro b190 o190 hc190) | refine .z (zix Try.runUnderlying22 Try.sizeOf3) ?_
              refine .q hs (q_load rfl Try.isAgg3 (hv := Is_gi (xs := List.replicate rs.length 0) (k := b) (by rw [List.length_replicate]; omega))) ?_
              rw [gi_replicate _ _ (show b < rs.length by omega)]
              refine .z zadd ?_
              first | (refine .ixv hs Try.runUnderlying22 Try.sizeOf3 ?_; intro b193 o193 hc193) | refine .z (zix Try.runUnderlying22 Try.sizeOf3) ?_
              refine .o (.store hs rfl rfl Try.sizeOf3 ?_ .here (blt_Is (by rw [List.length_replicate]; omega)) (Is_set _ _ _)); intro w hs
              refine .nil (.regSeq (.z zm (.z zm ?_)))
              first | (refine .ixv hs Try.runUnderlying22 Try.sizeOf3 ?_; intro b196 o196 hc196) | refine .z (zix Try.runUnderlying22 Try.sizeOf3) ?_
              refine .q hs (q_load rfl Try.isAgg3 (hv := Is_gi (xs := (List.replicate rs.length 0).set b (0 + 1)) (k := a) (by rw [List.length_set, List.length_replicate]; omega))) ?_
              have hga : gi ((List.replicate rs.length 0).set b (0 + 1)) a = ind b a := by
                rw [gi_set (by rw [List.length_replicate]; omega), gi_replicate _ _ (show a < rs.length by omega)]
                unfold ind
                by_cases h : a = b
                · rw [if_pos h, if_pos h.symm]; rfl
                · rw [if_neg h, if_neg (fun g => h g.symm)]
              rw [hga]
              have hind : 0 ≤ ind b a ∧ ind b a ≤ 1 := by unfold ind; split <;> omega
              refine .z zsub ?_
              first | (refine .ixv hs Try.runUnderlying22 Try.sizeOf3 ?_; intro b199 o199 hc199) | refine .z (zix Try.runUnderlying22 Try.sizeOf3) ?_
              refine .o (.store hs rfl rfl Try.sizeOf3 ?_ .here (blt_Is (by rw [List.length_set, List.length_replicate]; omega)) (Is_set _ _ _)); intro w hs
              have hPW : PairW s.n a b (((List.replicate rs.length 0).set b (0 + 1)).set a (ind b a - 1)) := by
                refine ⟨by simp [hrl], fun v hv => ?_⟩
                rw [gi_set (by rw [List.length_set, List.length_replicate]; omega), gi_set (by rw [List.length_replicate]; omega), gi_replicate _ _ (show v < rs.length by omega)]
                unfold ind
                by_cases e1 : a = v <;> by_cases e2 : b = v <;> by_cases e3 : b = a <;> simp [e1, e2, e3, eq_comm (a := v)] <;> omega
              generalize ((List.replicate rs.length 0).set b (0 + 1)).set a (ind b a - 1) = ws at hPW hs
              have hwl := hPW.len
              obtain ⟨H4, hle4, hRw, hs⟩ := OwnS.publishI (v := .slice (some ⟨b187, 0, none⟩) rs.length rs.length) (xs := ws) (.full (by simp [hwl, hrl])) (by omega) hs .here
              refine .nil (.regSeq (.y hs (zls [_, _] Try.isAgg32 Try.sizeOf32) (.z zm ?_)))
              refine .o (.call Try.call56 rfl (bound_Most_spec (s := s) hs ⟨_, rfl, hL.mono (hle2.trans (hle3.trans hle4))⟩ hRw) ?_); rintro _ w ⟨H5, m, g, hle5, rfl, hM, hs⟩
              have hpm := pair_most hok hsd hWT (by omega) (by omega) hPW hM
              replace hRT := hRT.mono (hle4.trans hle5)
              have hpm' : (gi (gr rs a) b = 1000000000 ∧ g = 22) ∨ (gi (gr rs a) b ≠ 1000000000 ∧ g = 0 ∧ m = gi (gr rs a) b) := hpm
              have hle15 := hle13.trans (hle4.trans hle5)
              refine .z zm (.z zex (.z zex (.z zg (.z zg (.nil (.seq (.regSeq (.z zm (.z zm ?_)))))))))
              refine .ixT hs hRT rfl rfl Try.runUnderlying87 Try.sizeOf22 (show a < _ by omega) (by first | rfl | assumption | omega) ?_; intro b208 o208 a208 c208 hc208 hR208
              refine .q hs (q_loadR rfl Try.isAgg22 hc208) ?_
              refine .z zm ?_
              refine .ixY hs hR208 rfl rfl Try.runUnderlying22 Try.sizeOf3 (gi_get (l := (gr rs a)) (i := b) (by omega)) (by first | rfl | assumption | omega) ?_; intro b211 o211 hc211
              refine .q hs (q_loadR rfl Try.isAgg3 hc211) ?_
              refine .z zeql (.nil ?_)
              refine (.condD rfl (fun hc213 => ?_) (fun hc213 => ?_))
              · refine .regSeq (.z zm (.z zeql (.z zm ?_)))
                refine .bifD (t' := 216) rfl (fun hb216 => ?_) (fun hb216 => ?_)
                · refine .gT rfl rfl ?_
                  refine .o (.call Try.call54 rfl (law02_sane_spec hs) ?_); rintro _ w ⟨rfl, H6, hle6, hs⟩
                  refine .z zpT (.z zg (.nil ?_))
                  refine .ret (rT (Fin.ret1 Try.results10 rfl ?_))
                  first | (exfalso; omega) | exact ⟨rfl, H6, hle15.trans hle6, hs.out⟩ | exact ⟨rfl, H4, hle13.trans hle4, hs.out⟩
                · refine .gFs 1 2 true rfl rfl rfl ?_
                  refine .z zpF (.z zg (.nil ?_))
                  refine .ret (rT (Fin.ret1 Try.results10 rfl ?_))
                  first | (exfalso; omega) | exact ⟨rfl, H6, hle15.trans hle6, hs.out⟩ | exact ⟨rfl, H4, hle13.trans hle4, hs.out⟩
              · refine .skip ?_
                refine nT ?_
                refine .regSeq (.z zm (.z zeql (.z zm ?_)))
                refine .bifD (t' := 221) rfl (fun hb221 => ?_) (fun hb221 => ?_)
                · refine .gT rfl rfl ?_
                  refine .z zm ?_
                  refine .gT rfl rfl ?_
                  refine .z zm ?_
                  refine .gT rfl rfl ?_
                  refine .z zm ?_
                  refine .gT rfl rfl ?_
                  refine .ixT hs hRT rfl rfl Try.runUnderlying87 Try.sizeOf22 (show a < _ by omega) (by first | rfl | assumption | omega) ?_; intro b225 o225 a225 c225 hc225 hR225
                  refine .gT rfl rfl ?_
                  refine .q hs (q_loadR rfl Try.isAgg22 hc225) ?_
                  refine .gT rfl rfl ?_
                  refine .z zm ?_
                  refine .gT rfl rfl ?_
                  refine .ixY hs hR225 rfl rfl Try.runUnderlying22 Try.sizeOf3 (gi_get (l := (gr rs a)) (i := b) (by omega)) (by first | rfl | assumption | omega) ?_; intro b228 o228 hc228
                  refine .gT rfl rfl ?_
                  refine .q hs (q_loadR rfl Try.isAgg3 hc228) ?_
                  refine .gT rfl rfl ?_
                  refine .z zeql (.z zpT (.z zm ?_))
                  refine .bifD (t' := 232) rfl (fun hb232 => ?_) (fun hb232 => ?_)
                  · refine .gT rfl rfl ?_
                    refine .o (.call Try.call54 rfl (law02_sane_spec hs) ?_); rintro _ w ⟨rfl, H6, hle6, hs⟩
                    refine .z zpT (.z zg (.nil ?_))
                    refine .ret (Fin.ret1 Try.results10 rfl ?_)
                    first | (exfalso; omega) | exact ⟨rfl, H6, hle15.trans hle6, hs.out⟩ | exact ⟨rfl, H4, hle13.trans hle4, hs.out⟩
                  · refine .gFs 1 13 true rfl rfl rfl ?_
                    refine .z zpF (.z zg (.nil ?_))
                    refine .ret (Fin.ret1 Try.results10 rfl ?_)
                    first | (exfalso; omega) | exact ⟨rfl, H6, hle15.trans hle6, hs.out⟩ | exact ⟨rfl, H4, hle13.trans hle4, hs.out⟩
                · refine .gFs 9 2 true rfl rfl rfl ?_
                  refine .z zpF (.z zm ?_)
                  refine .gFs 1 13 true rfl rfl rfl ?_
                  refine .z zpF (.z zg (.nil ?_))
                  refine .ret (Fin.ret1 Try.results10 rfl ?_)
                  first | (exfalso; omega) | exact ⟨rfl, H6, hle15.trans hle6, hs.out⟩ | exact ⟨rfl, H4, hle13.trans hle4, hs.out⟩
end Go.Proofs.Ytiiokdeehlfeeaa
