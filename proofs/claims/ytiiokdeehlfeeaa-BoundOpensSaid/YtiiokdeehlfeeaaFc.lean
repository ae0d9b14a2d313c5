/-
  Texts of these claims, joined: Opn Opr Cls Fct Wa Wb Wc Wd We Wf Wg Wh Wj Wn Wo Wp Wt Wz Xb Xe Xf Xg Xh Xi Xj Xl Xo Xq Xt Xu Xw Srt Ya Yb Yc Yd Ye.
-/
import Derived.Test.YtiiokdeehlfeeaaFb
import Derived.Test.YtiiokdeehlfeeaaProg
import Derived.KernelRfl
import Derived.JoinedOf
import Derived.Shelf.Sort.Plain
import Derived.Shelf.Slices.CompactI
import Derived.Shelf.Slices.In.SortNone
import Derived.Lib.RowBridge
namespace Go.Proofs.Ytiiokdeehlfeeaa
open Go.MW Go.ChangeShapes Go.WideShapes
set_option maxRecDepth 100000
theorem c_int : Try.prog.cellsOf 3 = 1 := by kernel_rfl
theorem b_int : Try.prog.bytesOf 3 = 8 := by kernel_rfl
theorem reach_eq : reachBytes = 140737488351232 := rfl
section
variable {H : Type} {enc : TypeId × Value → H} {w : World} {sp : Nat → Bool} {held : Bool} {n : Nat} {cs : List Value} {y : DataW H × List MemPlace} {v : Value} {d : DataW H} {p : List MemPlace} {r : Reach} {base : Nat}
theorem o_ints (hw : Wt Try.prog 22 y.1) (h : DataW.trod enc Try.prog w 0 sp held n 22 cs = some y) : ∃ v xs, cs = [v] ∧ RI (hp w) v xs ∧ IsIn xs := by
  obtain ⟨v, xs, h1, h2, h3, h4⟩ := trod_RI Try.underlying22 Try.underlying3 c_int hw h
  rw [b_int, reach_eq] at h3
  exact ⟨v, xs, h1, h2, by omega, h4⟩
theorem open_ints (hv : Value.okWide Try.prog w r base 22 v) (h : DataW.Trod enc Try.prog w 0 sp held 22 v d p) (hw : Wt Try.prog 22 d) : ∃ l, RI (hp w) v l ∧ IsIn l := by
  obtain ⟨n, hn⟩ := arg_slice Try.underlying22 hv h
  obtain ⟨v, ls, h1, h2, h3⟩ := o_ints hw hn
  cases h1
  exact ⟨ls, h2, h3⟩
end
end Go.Proofs.Ytiiokdeehlfeeaa

namespace Go.Proofs.Ytiiokdeehlfeeaa
open Go.MW Go.ChangeShapes Go.WideShapes
set_option maxRecDepth 100000
theorem c_rows4 : Try.prog.cellsOf 83 = 1 := by kernel_rfl
theorem c_4 : Try.prog.cellsOf 95 = 4 := by kernel_rfl
theorem b_4 : Try.prog.bytesOf 95 = 32 := by kernel_rfl
theorem c_Raw02 : Try.prog.cellsOf 85 = 2 := by kernel_rfl
section
variable {H : Type} {enc : TypeId × Value → H} {w : World} {sp : Nat → Bool} {held : Bool} {n : Nat} {cs : List Value} {y : DataW H × List MemPlace} {v : Value} {d : DataW H} {p : List MemPlace} {r : Reach} {base : Nat}
theorem o_rows4 (hw : Wt Try.prog 83 y.1) (h : DataW.trod enc Try.prog w 0 sp held n 83 cs = some y) : ∃ (v : Value) (ls : List Lim), cs = [v] ∧ RL (hp w) v ls ∧ ls.length ≤ 4398046510976 := by
  obtain ⟨v, zs, h1, h2, h9, h3⟩ := trod_RA (k := 4) Try.underlying83 Try.underlying95 Try.underlying3 c_int (by decide) c_4 hw h
  obtain ⟨ls, h4, h5⟩ := fours h3
  rw [b_4, reach_eq] at h9
  have h6 : zs.length = ls.length := by have := congrArg List.length h4; simpa using this
  exact ⟨v, ls, h1, by unfold RL; rw [← h4]; exact h2, by omega⟩
theorem open_Raw02 (hv : Value.okWide Try.prog w r base 85 v) (h : DataW.Trod enc Try.prog w 0 sp held 85 v d p) (hw : Wt Try.prog 85 d) : ∃ s : Syst, RSy (hp w) v s ∧ s.lims.length ≤ 4398046510976 := by
  obtain ⟨cs, n, rfl, hn, _⟩ := arg_struct Try.underlying85 hv h
  obtain ⟨ys, m, _, e, hlen, hyl, hg⟩ := DataW.trod_struct Try.underlying85 hn
  cases e
  rw [c_Raw02] at hlen
  obtain ⟨c0, c1, rfl⟩ := len2 hlen
  obtain ⟨_, h0, k0⟩ := fld hg hyl 0 rfl rfl rfl c_int Try.underlying85 hw
  obtain ⟨_, h1, k1⟩ := fld hg hyl 1 rfl rfl rfl c_rows4 Try.underlying85 hw
  obtain ⟨m, e0, i0⟩ := trod_i Try.underlying3 h0
  obtain ⟨u, ls, e1, r1, i1⟩ := o_rows4 k1 h1
  cases e0; cases e1
  exact ⟨⟨m, ls⟩, ⟨_, rfl, r1⟩, i1⟩
theorem open_four (hv : Value.okWide Try.prog w r base 95 v) (h : DataW.Trod enc Try.prog w 0 sp held 95 v d p) (_ : Wt Try.prog 95 d) : ∃ l : Lim, v = .agg l.c.toArray ∧ True := by
  obtain ⟨cs, n, rfl, hn⟩ := arg_arr Try.underlying95 hv h
  obtain ⟨xs, h1, rfl, h3⟩ := trod_arr Try.underlying95 Try.underlying3 c_int c_4 hn
  obtain ⟨a, b, c, d, rfl⟩ := len4 h1
  exact ⟨⟨a, b, c, d⟩, rfl, trivial⟩
end
end Go.Proofs.Ytiiokdeehlfeeaa

namespace Go.Proofs.Ytiiokdeehlfeeaa
theorem cl_make : Try.prog.make = some .cut := by kernel_rfl
theorem cl_enter : Try.prog.mayEnter = true := by kernel_rfl
theorem cl_lifts : Try.prog.liftsFinal = false := by kernel_rfl
theorem cl_keys : Try.prog.plainKeys = true := by kernel_rfl
theorem cl_laid : laidOutB Try.prog = true := by kernel_rfl
theorem cl_maps : mapsRowed Try.prog = true := by kernel_rfl
theorem cl_heard : Try.prog.stopsHeard = true := by kernel_rfl
theorem cl_stops : Try.prog.stops = [] := by kernel_rfl
theorem cl_knobs : Try.prog.stopKnobs = [] := by kernel_rfl
theorem band {a b : Bool} (h : a = true) (k : b = true) : (a && b) = true := by rw [h, k]; rfl
theorem beqT {α : Type} [BEq α] [LawfulBEq α] {a b : α} (h : a = b) : (a == b) = true := by rw [h]; exact beq_self_eq_true _
theorem cl_own : ownKnob Try.prog.godebug = none := by kernel_rfl
end Go.Proofs.Ytiiokdeehlfeeaa

namespace Go.Proofs.Ytiiokdeehlfeeaa
open Go.MW
theorem mix : Try.prog.follows .mixedOrders = true := by kernel_rfl
theorem fa_api_System_0 : FA Try.prog 32 0 0 := by
  have h := faOf (k := 0) Try.runUnderlying32 rfl Try.sizeOf3
  exact h
theorem fa_api_System_1 : FA Try.prog 32 1 1 := by
  have h := faOf (k := 1) Try.runUnderlying32 rfl Try.sizeOf30
  exact h
theorem fa_moorsomlaw02_Raw_0 : FA Try.prog 85 0 0 := by
  have h := faOf (k := 0) Try.runUnderlying85 rfl Try.sizeOf3
  exact h
theorem fa_moorsomlaw02_Raw_1 : FA Try.prog 85 1 1 := by
  have h := faOf (k := 1) Try.runUnderlying85 rfl Try.sizeOf83
  exact h
theorem fa_api_Limit_0 : FA Try.prog 100 0 0 := by
  have h := faOf (k := 0) Try.runUnderlying100 rfl Try.sizeOf3
  exact h
theorem fa_api_Limit_1 : FA Try.prog 100 1 1 := by
  have h := faOf (k := 1) Try.runUnderlying100 rfl Try.sizeOf3
  exact h
theorem fa_api_Limit_2 : FA Try.prog 100 2 2 := by
  have h := faOf (k := 2) Try.runUnderlying100 rfl Try.sizeOf3
  exact h
theorem fa_api_Limit_3 : FA Try.prog 100 3 3 := by
  have h := faOf (k := 3) Try.runUnderlying100 rfl Try.sizeOf3
  exact h
theorem fa_bound_step_0 : FA Try.prog 205 0 0 := by
  have h := faOf (k := 0) Try.runUnderlying205 rfl Try.sizeOf3
  exact h
theorem fa_bound_step_1 : FA Try.prog 205 1 1 := by
  have h := faOf (k := 1) Try.runUnderlying205 rfl Try.sizeOf3
  exact h
theorem fa_bound_step_2 : FA Try.prog 205 2 2 := by
  have h := faOf (k := 2) Try.runUnderlying205 rfl Try.sizeOf3
  exact h
theorem fa_bound_step_3 : FA Try.prog 205 3 3 := by
  have h := faOf (k := 3) Try.runUnderlying205 rfl Try.sizeOf3
  exact h
theorem fa_bound_told_2 : FA Try.prog 209 2 2 := by
  have h := faOf (k := 2) Try.runUnderlying209 rfl Try.sizeOf41
  exact h
theorem fa_bound_flow_0 : FA Try.prog 227 0 0 := by
  have h := faOf (k := 0) Try.runUnderlying227 rfl Try.sizeOf32
  exact h
theorem fa_bound_flow_1 : FA Try.prog 227 1 2 := by
  have h := faOf (k := 1) Try.runUnderlying227 rfl Try.sizeOf22
  exact h
theorem fa_bound_flow_2 : FA Try.prog 227 2 3 := by
  have h := faOf (k := 2) Try.runUnderlying227 rfl Try.sizeOf22
  exact h
theorem bld_api_System : BldT Try.prog 32 [(0, 1), (1, 1)] [.int .i64 0, .slice none 0 0] := bldOf Try.zeroValue32 rfl Try.runUnderlying32 (by simp [Try.sizeOf3, Try.sizeOf30])
theorem bld_moorsomlaw02_Raw : BldT Try.prog 85 [(0, 1), (1, 1)] [.int .i64 0, .slice none 0 0] := bldOf Try.zeroValue85 rfl Try.runUnderlying85 (by simp [Try.sizeOf3, Try.sizeOf83])
theorem bld_api_Limit : BldT Try.prog 100 [(0, 1), (1, 1), (2, 1), (3, 1)] [.int .i64 0, .int .i64 0, .int .i64 0, .int .i64 0] := bldOf Try.zeroValue100 rfl Try.runUnderlying100 (by simp [Try.sizeOf3])
theorem bld_bound_step : BldT Try.prog 205 [(0, 1), (1, 1), (2, 1), (3, 1)] [.int .i64 0, .int .i64 0, .int .i64 0, .int .i64 0] := bldOf Try.zeroValue205 rfl Try.runUnderlying205 (by simp [Try.sizeOf3])
theorem bld_bound_told : BldT Try.prog 209 [(0, 1), (1, 1), (2, 1)] [.int .i64 0, .int .i64 0, .int .i64 0] := bldOf Try.zeroValue209 rfl Try.runUnderlying209 (by simp [Try.sizeOf3, Try.sizeOf41])
theorem bld_bound_flow : BldT Try.prog 227 [(0, 2), (2, 1), (3, 1)] [.int .i64 0, .slice none 0 0, .slice none 0 0, .slice none 0 0] := bldOf Try.zeroValue227 rfl Try.runUnderlying227 (by simp [Try.sizeOf22, Try.sizeOf32])
theorem bls_sl_int_0 : BldS Try.prog 22 0 1 [] := blsOf Try.runUnderlying22 Try.sizeOf3 Try.zeroValue3 (by decide) (by kernel_rfl)
theorem bls_sl_int_1 : BldS Try.prog 22 1 1 [.int .i64 0] := blsOf Try.runUnderlying22 Try.sizeOf3 Try.zeroValue3 (by decide) (by kernel_rfl)
theorem bls_sl_int_2 : BldS Try.prog 22 2 1 [.int .i64 0, .int .i64 0] := blsOf Try.runUnderlying22 Try.sizeOf3 Try.zeroValue3 (by decide) (by kernel_rfl)
theorem bls_sl_int_3 : BldS Try.prog 22 3 1 [.int .i64 0, .int .i64 0, .int .i64 0] := blsOf Try.runUnderlying22 Try.sizeOf3 Try.zeroValue3 (by decide) (by kernel_rfl)
theorem bls_sl_int_4 : BldS Try.prog 22 4 1 [.int .i64 0, .int .i64 0, .int .i64 0, .int .i64 0] := blsOf Try.runUnderlying22 Try.sizeOf3 Try.zeroValue3 (by decide) (by kernel_rfl)
theorem bls_sl_api_Limit_0 : BldS Try.prog 30 0 4 [] := blsOf Try.runUnderlying30 Try.sizeOf100 Try.zeroValue100 (by decide) (by kernel_rfl)
theorem bls_sl_api_Limit_1 : BldS Try.prog 30 1 4 [.int .i64 0, .int .i64 0, .int .i64 0, .int .i64 0] := blsOf Try.runUnderlying30 Try.sizeOf100 Try.zeroValue100 (by decide) (by kernel_rfl)
theorem bls_sl_api_Limit_7 : BldS Try.prog 30 7 4 [.int .i64 0, .int .i64 0, .int .i64 0, .int .i64 0, .int .i64 0, .int .i64 0, .int .i64 0, .int .i64 0, .int .i64 0, .int .i64 0, .int .i64 0, .int .i64 0, .int .i64 0, .int .i64 0, .int .i64 0, .int .i64 0, .int .i64 0, .int .i64 0, .int .i64 0, .int .i64 0, .int .i64 0, .int .i64 0, .int .i64 0, .int .i64 0, .int .i64 0, .int .i64 0, .int .i64 0, .int .i64 0] := blsOf Try.runUnderlying30 Try.sizeOf100 Try.zeroValue100 (by decide) (by kernel_rfl)
theorem bls_sl_4_int_1 : BldS Try.prog 83 1 4 [.int .i64 0, .int .i64 0, .int .i64 0, .int .i64 0] := blsOf Try.runUnderlying83 Try.sizeOf95 Try.zeroValue95 (by decide) (by kernel_rfl)
theorem bls_sl_bound_step_1 : BldS Try.prog 198 1 4 [.int .i64 0, .int .i64 0, .int .i64 0, .int .i64 0] := blsOf Try.runUnderlying198 Try.sizeOf205 Try.zeroValue205 (by decide) (by kernel_rfl)
theorem app_sl_int_int : AppT Try.prog 22 22 3 1 8 := ⟨Try.runUnderlying22, Try.runUnderlying22, Try.sizeOf3, ⟨_, Try.typeInfo3, rfl, by decide⟩, ⟨_, Try.zeroValue3, rfl⟩⟩
theorem app_sl_api_Limit_api_Limit : AppT Try.prog 30 30 100 4 32 := ⟨Try.runUnderlying30, Try.runUnderlying30, Try.sizeOf100, ⟨_, Try.typeInfo100, rfl, by decide⟩, ⟨_, Try.zeroValue100, rfl⟩⟩
theorem app_sl_bound_step_bound_step : AppT Try.prog 198 198 205 4 32 := ⟨Try.runUnderlying198, Try.runUnderlying198, Try.sizeOf205, ⟨_, Try.typeInfo205, rfl, by decide⟩, ⟨_, Try.zeroValue205, rfl⟩⟩
end Go.Proofs.Ytiiokdeehlfeeaa

namespace Go.Proofs.Ytiiokdeehlfeeaa
open Go.MW
theorem bound_within_spec {H : Heap} {w : World} {σ : List Ent} {a0 a1 a2 : Int} (hs : St H w σ) : Cl Try.prog 160 [I a0, I a1, I a2] w fun v w' => v = .bool (decide (a1 ≤ a0 ∧ a0 ≤ a2)) ∧ St H w' σ := by
  refine Cl.of Try.func160 rfl Try.ntmps160 (by simp) (args_cons (k := 0) rfl (args_cons (k := 1) rfl (args_cons (k := 2) rfl (args0)))) ?_
  refine .regSeq (.z zg (.nil (.regSeq (.z zm (.z zm (.z zleq (.z zm ?_)))))))
  refine .bifD (t' := 10) rfl (fun hb10 => ?_) (fun hb10 => ?_)
  · refine .gT rfl rfl ?_
    refine .z zm ?_
    refine .gT rfl rfl ?_
    refine .z zm ?_
    refine .gT rfl rfl ?_
    refine .z zleq (.z zpT (.z zg (.nil ?_)))
    refine .ret (Fin.ret1 Try.results160 rfl ?_)
    exact ⟨by simp [*], hs.out⟩
  · refine .gFs 3 3 true rfl rfl rfl ?_
    refine .z zpF (.z zg (.nil ?_))
    refine .ret (Fin.ret1 Try.results160 rfl ?_)
    exact ⟨by simp [*], hs.out⟩
theorem bound_isLimit_spec {H : Heap} {w : World} {σ : List Ent} {many : Int} {l : Lim} (hs : St H w σ) : Cl Try.prog 142 [I many, .agg l.c.toArray] w fun v w' => v = .bool (l.ok many) ∧ St H w' σ := by
  refine Cl.of Try.func142 rfl Try.ntmps142 (by simp) (args_cons (k := 0) rfl (args_cons (k := 1) rfl (args0))) ?_
  refine .regSeq ?_
  refine .o (.box hs rfl rfl ?_); intro b3 w hs
  refine .z zg (.nil (.regSeq (.z (zfa fa_api_Limit_0) (.y hs (zld Try.isAgg3) (.z zm ?_)))))
  refine .o (.call Try.call160 rfl (bound_within_spec hs) ?_); rintro _ w ⟨rfl, hs⟩
  refine .z zm ?_
  refine .bif (t' := 9) rfl (fun hb9 => ?_) (fun hb9 => ?_)
  · refine .gT rfl rfl ?_
    refine .z (zfa fa_api_Limit_1) ?_
    refine .gT rfl rfl ?_
    refine .y hs (zld Try.isAgg3) ?_
    refine .gT rfl rfl ?_
    refine .z zm ?_
    refine .gT rfl rfl ?_
    refine .o (.call Try.call160 rfl (bound_within_spec hs) ?_); rintro _ w ⟨rfl, hs⟩
    refine .z zpT (.z zm ?_)
    refine .bif (t' := 15) rfl (fun hb15 => ?_) (fun hb15 => ?_)
    · refine .gT rfl rfl ?_
      refine .z (zfa fa_api_Limit_0) ?_
      refine .gT rfl rfl ?_
      refine .y hs (zld Try.isAgg3) ?_
      refine .gT rfl rfl ?_
      refine .z (zfa fa_api_Limit_1) ?_
      refine .gT rfl rfl ?_
      refine .y hs (zld Try.isAgg3) ?_
      refine .gT rfl rfl ?_
      refine .z zneq (.z zpT (.z zm ?_))
      refine .bifN (t' := 22) rfl (fun hb22 => ?_) (fun hb22 => ?_)
      · refine .gT rfl rfl ?_
        refine .z (zfa fa_api_Limit_2) ?_
        refine .gT rfl rfl ?_
        refine .y hs (zld Try.isAgg3) ?_
        refine .gT rfl rfl ?_
        refine .o (.call Try.call160 rfl (bound_within_spec hs) ?_); rintro _ w ⟨rfl, hs⟩
        refine .z zpT (.z zm ?_)
        refine .bif (t' := 27) rfl (fun hb27 => ?_) (fun hb27 => ?_)
        · refine .gT rfl rfl ?_
          refine .z (zfa fa_api_Limit_3) ?_
          refine .gT rfl rfl ?_
          refine .y hs (zld Try.isAgg3) ?_
          refine .gT rfl rfl ?_
          refine .o (.call Try.call160 rfl (bound_within_spec hs) ?_); rintro _ w ⟨rfl, hs⟩
          refine .z zpT (.z zg (.nil ?_))
          refine .ret (Fin.ret1 Try.results142 rfl ?_)
          exact ⟨by simp [Lim.ok, *], hs.out⟩
        · refine .gFs 3 22 true rfl rfl rfl ?_
          refine .z zpF (.z zg (.nil ?_))
          refine .ret (Fin.ret1 Try.results142 rfl ?_)
          exact ⟨by simp [Lim.ok, *], hs.out⟩
      · refine .gFs 3 17 true rfl rfl rfl ?_
        refine .z zpF (.z zm ?_)
        refine .gFs 3 22 true rfl rfl rfl ?_
        refine .z zpF (.z zg (.nil ?_))
        refine .ret (Fin.ret1 Try.results142 rfl ?_)
        exact ⟨by simp [Lim.ok, *], hs.out⟩
    · refine .gFs 5 10 true rfl rfl rfl ?_
      refine .z zpF (.z zm ?_)
      refine .gFs 3 17 true rfl rfl rfl ?_
      refine .z zpF (.z zm ?_)
      refine .gFs 3 22 true rfl rfl rfl ?_
      refine .z zpF (.z zg (.nil ?_))
      refine .ret (Fin.ret1 Try.results142 rfl ?_)
      exact ⟨by simp [Lim.ok, *], hs.out⟩
  · refine .gFs 4 4 true rfl rfl rfl ?_
    refine .z zpF (.z zm ?_)
    refine .gFs 5 10 true rfl rfl rfl ?_
    refine .z zpF (.z zm ?_)
    refine .gFs 3 17 true rfl rfl rfl ?_
    refine .z zpF (.z zm ?_)
    refine .gFs 3 22 true rfl rfl rfl ?_
    refine .z zpF (.z zg (.nil ?_))
    refine .ret (Fin.ret1 Try.results142 rfl ?_)
    exact ⟨by simp [Lim.ok, *], hs.out⟩
theorem IndexFunc_Lim {H : Heap} {w : World} {σ : List Ent} {v : Value} {ls : List Lim} {g : Nat} {cap : List Value} {p : Lim → Bool} (hs : St H w σ) (hr : RL H v ls)
    (hc : ∀ args w, (callFunc g args).run Try.prog w = .ok (.enter g args) w) (hp : ∀ w l, St H w σ → Cl Try.prog g ([.agg l.c.toArray] ++ cap) w fun u w' => u = .bool (p l) ∧ St H w' σ) :
    Cl Try.prog 201 [v, .func (.func g) #[] cap.toArray] w fun u w' => u = I (match ls.findIdx? p with | some k => (k : Int) | none => -1) ∧ St H w' σ := by
  obtain ⟨a, c, rfl⟩ := RS.shape hr
  have hl := (RS.len hr).2.2
  refine Cl.of Try.func201 rfl Try.ntmps201 (by simp) (args_cons (k := 0) rfl (args_cons (k := 1) rfl (args0))) ?_
  refine .regSeq (.z zg (.nil (.seq (.regSeq (.z zm ?_)))))
  refine .q hs (q_lenR hr rfl Try.runUnderlying30) ?_
  refine .z zm (.nil ?_)
  refine .for (N := (ls.map Lim.c).length) (J := fun k fr w => fr = [(1, .func (.func g) #[] cap.toArray), (0, .slice a (ls.map Lim.c).length c)] ∧ St H w σ ∧ ∀ j < k, ∀ l, ls[j]? = some l → p l = false) (by omega) ?_ ?_ ?_
  · exact .mk ⟨rfl, hs, fun j hj => by omega⟩
  · rintro k fr w hk ⟨rfl, hs, hno⟩
    obtain ⟨l, hl⟩ := nth (l := ls) (by simpa using hk)
    refine .block (.regSeq (.z zm (.z zg (.nil (.regSeq (.z zm (.z zm (.z zm ?_))))))))
    refine .ixX hs hr rfl rfl Try.runUnderlying30 Try.sizeOf100 hl rfl ?_; intro b14 o14 hc14
    refine .y hs (zls [_, _, _, _] Try.isAgg100 Try.sizeOf100) ?_
    refine .o (.callG (first := []) rfl rfl hc (hp _ _ hs) ?_); rintro _ w ⟨rfl, hs⟩
    refine .nil ?_
    refine (.cond rfl (fun hc16 => ?_) (fun hc16 => ?_))
    · refine .regSeq (.z zm (.z zg (.nil ?_)))
      refine .ret (rB (rT (rB (rT (Fin.ret1 Try.results201 rfl ?_)))))
      exact ⟨by rw [findIdx_hit hl hc16 hno], hs⟩
    · refine .skip ?_
      refine nB (nT ?_)
      exact .mk ⟨rfl, hs, upto_succ hno hl hc16⟩
  · rintro fr w ⟨rfl, hs, hno⟩
    refine nT ?_
    refine .regSeq (.z zg (.nil ?_))
    refine .ret (Fin.ret1 Try.results201 rfl ?_)
    exact ⟨by rw [findIdx_miss (by simpa using hno)], hs⟩
theorem ContainsFunc_Lim {H : Heap} {w : World} {σ : List Ent} {v : Value} {ls : List Lim} {g : Nat} {cap : List Value} {p : Lim → Bool} (hs : St H w σ) (hr : RL H v ls)
    (hc : ∀ args w, (callFunc g args).run Try.prog w = .ok (.enter g args) w) (hp : ∀ w l, St H w σ → Cl Try.prog g ([.agg l.c.toArray] ++ cap) w fun u w' => u = .bool (p l) ∧ St H w' σ) :
    Cl Try.prog 161 [v, .func (.func g) #[] cap.toArray] w fun u w' => u = .bool (ls.any p) ∧ St H w' σ := by
  refine Cl.of Try.func161 rfl Try.ntmps161 (by simp) (args_cons (k := 0) rfl (args_cons (k := 1) rfl (args0))) ?_
  refine .regSeq (.z zg (.nil (.regSeq (.z zm (.z zm ?_)))))
  refine .o (.call Try.call201 rfl (IndexFunc_Lim hs hr hc hp) ?_); rintro _ w ⟨rfl, hs⟩
  refine .z zgeq (.z zg (.nil ?_))
  refine .ret (Fin.ret1 Try.results161 rfl ?_)
  exact ⟨by rw [any_findIdx]; cases ls.findIdx? p <;> simp <;> omega, hs⟩
theorem bound_Check_1 {H : Heap} {w : World} {σ : List Ent} {b : Nat} {many : Int} {v : Value} {l : Lim} (hs : St H w σ) (hm : Mem σ (.blk b [I many, v])) : Cl Try.prog 162 [.agg l.c.toArray, .pointer (some ⟨b, 0, none⟩)] w fun v w' => v = .bool (!l.ok many) ∧ St H w' σ := by
  refine Cl.of Try.func162 rfl Try.ntmps162 (by simp) (args_cons (k := 0) rfl (args_cons (k := 1) rfl (args0))) ?_
  refine .regSeq ?_
  refine .o (.box hs rfl rfl ?_); intro b2 w hs
  refine .z zg (.nil (.regSeq (.z (zfa fa_api_System_0) ?_)))
  refine .q hs (q_load rfl Try.isAgg3 (.there hm) rfl) ?_
  refine .q hs (q_loads (vs := l.c) rfl Try.isAgg100 Try.sizeOf100) ?_
  refine .o (.call Try.call142 rfl (bound_isLimit_spec hs) ?_); rintro _ w ⟨rfl, hs⟩
  refine .z znot (.z zg (.nil ?_))
  refine .ret (Fin.ret1 Try.results162 rfl ?_)
  exact ⟨rfl, hs.out⟩
theorem bound_Check_spec {H : Heap} {w : World} {σ : List Ent} {v : Value} {s : Syst} (hs : St H w σ) (hr : RSy H v s) : Cl Try.prog 72 [v] w fun v w' => v = I s.check ∧ St H w' σ := by
  obtain ⟨u, rfl, hr⟩ := hr
  obtain ⟨a, c, rfl⟩ := RS.shape hr
  refine Cl.of Try.func72 rfl Try.ntmps72 (by simp) (args_cons (k := 0) rfl (args0)) ?_
  refine .regSeq ?_
  refine .o (.box hs rfl rfl ?_); intro b1 w hs
  refine .z zg (.nil (.seq (.block (.regSeq (.z (zfa fa_api_System_0) (.y hs (zld Try.isAgg3) ?_))))))
  refine .o (.call Try.call160 rfl (bound_within_spec hs) ?_); rintro _ w ⟨rfl, hs⟩
  refine .z znot (.z zg (.nil ?_))
  refine (.cond rfl (fun hc3 => ?_) (fun hc3 => ?_))
  · refine .regSeq (.z zg (.nil ?_))
    refine .ret (rB (rT (Fin.ret1 Try.results72 rfl ?_)))
    exact ⟨congrArg I (by unfold Syst.check; (repeat' split) <;> simp_all <;> omega), hs.out⟩
  · refine .regSeq (.z (zfa fa_api_System_1) (.y hs (zld Try.isAgg30) ?_))
    refine .q hs (q_lenR hr rfl Try.runUnderlying30) ?_
    refine .z zgtr (.z zg (.nil ?_))
    refine (.condD rfl (fun hc8 => ?_) (fun hc8 => ?_))
    · refine .regSeq (.z zg (.nil ?_))
      refine .ret (rB (rT (Fin.ret1 Try.results72 rfl ?_)))
      exact ⟨congrArg I (by unfold Syst.check; (repeat' split) <;> simp_all <;> omega), hs.out⟩
    · refine .regSeq (.z (zfa fa_api_System_1) (.y hs (zld Try.isAgg30) ?_))
      refine .q hs (q_makeFunc (f := []) (c := [_]) rfl rfl) ?_
      refine .o (.call Try.call161 rfl (ContainsFunc_Lim (p := fun l => !l.ok s.many) hs hr Try.call162 (fun w l hs => bound_Check_1 hs .here)) ?_); rintro _ w ⟨rfl, hs⟩
      refine .z zg (.nil ?_)
      refine (.cond rfl (fun hc13 => ?_) (fun hc13 => ?_))
      · refine .regSeq (.z zg (.nil ?_))
        refine .ret (rB (rT (Fin.ret1 Try.results72 rfl ?_)))
        exact ⟨congrArg I (by unfold Syst.check; (repeat' split) <;> simp_all <;> omega), hs.out⟩
      · refine .skip ?_
        refine nB (nT ?_)
        refine .regSeq (.z zg (.nil ?_))
        refine .ret (Fin.ret1 Try.results72 rfl ?_)
        exact ⟨congrArg I (by unfold Syst.check; (repeat' split) <;> simp_all <;> omega), hs.out⟩
end Go.Proofs.Ytiiokdeehlfeeaa

namespace Go.Proofs.Ytiiokdeehlfeeaa
open Go.MW
theorem bound_steps_1_iter {H : Heap} {b : Nat} {s : Syst} {u : Value} (hok : s.Ok) (hb : Row H b [I s.many, u]) (hr : RL H u s.lims) : ItA Try.prog 202 [.pointer (some ⟨b, 0, none⟩)] H s.arcs := by
  intro l II Ix _ _ hy H0 σb0 σf w hle hI0 hs
  obtain ⟨a, c, rfl⟩ := RS.shape hr
  have hb1 : cellAt H0 b 1 = some (.slice a (s.lims.map Lim.c).length c) := cellAt.mono (by rw [hb.cell]; rfl) hle
  have hlen := hok.len
  refine Cl.of Try.func202 rfl Try.ntmps202 (by simp) (args_cons (k := 0) rfl (args_cons (k := 1) rfl (args0))) ?_
  refine .regSeq (.z (zfa fa_api_System_1) (.y hs (zld Try.isAgg30) ?_))
  refine .q hs (q_lenR (hr.mono hle) rfl Try.runUnderlying30) ?_
  refine .z zm (.nil ?_)
  refine .for (N := (s.lims.map Lim.c).length) (J := fun k fr w => fr = [(6, .slice a (s.lims.map Lim.c).length c), (0, .func (.yield l) #[] #[])] ∧ ∃ H1 σb, HLe H H1 ∧ HLe H0 H1 ∧ II k H1 σb ∧ St H1 w (σb ++ σf)) (by simp; omega) ?_ ?_ ?_
  · exact .mk ⟨rfl, H0, σb0, hle, HLe.refl _, hI0, hs⟩
  · rintro k fr w hk ⟨rfl, H1, σb, hle1, hle0, hI, hs⟩
    obtain ⟨x, hx⟩ := nth (l := s.lims) (by simpa using hk)
    obtain ⟨hA, hB, _⟩ := hok.arc (List.mem_of_getElem? hx) k
    refine .block (.regSeq (.z zm ?_))
    refine .ixX hs (hr.mono hle1) rfl rfl Try.runUnderlying30 Try.sizeOf100 hx rfl ?_; intro b11 o11 hc11
    refine .q hs (q_loadsR (vs := x.c) rfl Try.isAgg100 Try.sizeOf100 hc11) ?_
    refine .o (.alloc hs Try.zeroValue100 rfl ?_); intro b4 w hs
    refine .z zg ?_
    refine .o (.stores (vs := x.c) hs rfl rfl Try.sizeOf100 ?_); intro w hs
    refine .nil (.regSeq (.z zm (.z (zfa fa_api_Limit_0) (.y hs (zld Try.isAgg3) (.z (zfa fa_api_Limit_1) (.y hs (zld Try.isAgg3) (.z (zfa fa_api_Limit_2) (.y hs (zld Try.isAgg3) (.z zm ?_)))))))))
    refine .z (zbd [_, _, _, _] bld_bound_step) ?_
    have hk' : k < (s.arcs.map fun x => [Value.agg x.v.toArray]).length := by simp [Syst.arcs, arcsOf_length]; simpa using hk
    have hxk : (s.arcs.map fun x => [Value.agg x.v.toArray])[k] = [.agg (x.arc k).v.toArray] := by
      have := arcsOf_get hx
      rw [List.getElem_map]; rw [List.getElem?_eq_some_iff] at this; obtain ⟨h1, h2⟩ := this; simp only [Syst.arcs]; rw [h2]
    have hyd := hy k hk' H1 σb σf w hle1 hI hs.tail
    rw [hxk] at hyd
    refine .o (.yield (vs := [.agg (x.arc k).v.toArray]) rfl (by simp [Arc.v, hA, hB]; rfl) hyd ?_); rintro v22 w ⟨H2, σ2, g1, hs, g3⟩
    obtain ⟨bb, rfl, gT, gF⟩ := yd_bool g3
    refine .z znot (.nil ?_)
    refine (.cond rfl (fun hc23 => ?_) (fun hc23 => ?_))
    · refine .ret (rB (rT (rB (Fin.ret0 Try.results202 ?_))))
      exact ⟨H2, σ2, hle0.trans g1, hs, .inr (gF (by simpa using hc23))⟩
    · refine .skip ?_
      refine nB (nT ?_)
      exact .mk ⟨rfl, H2, σ2, hle1.trans g1, hle0.trans g1, gT (by simpa using hc23), hs⟩
  · rintro fr w ⟨rfl, H1, σb, hle1, hle0, hI, hs⟩
    exact Fin.end0 Try.results202 ⟨H1, σb, hle0, hs, .inl (by simpa [Syst.arcs, arcsOf_length] using hI)⟩
theorem bound_steps_spec {H : Heap} {w : World} {σ : List Ent} {v : Value} {s : Syst} (hs : St H w σ) (hok : s.Ok) (hr : RSy H v s) :
    Cl Try.prog 174 [v] w fun v w' => ∃ H1 b, HLe H H1 ∧ v = .func (.func 202) #[] #[.pointer (some ⟨b, 0, none⟩)] ∧ ItA Try.prog 202 [.pointer (some ⟨b, 0, none⟩)] H1 s.arcs ∧ St H1 w' σ := by
  obtain ⟨u, rfl, hr⟩ := hr
  refine Cl.of Try.func174 rfl Try.ntmps174 (by simp) (args_cons (k := 0) rfl (args0)) ?_
  refine .regSeq ?_
  refine .o (.box hs rfl rfl ?_); intro b1 w hs
  refine .z zg (.nil (.regSeq ?_))
  refine .q hs (q_makeFunc (f := []) (c := [_]) rfl rfl) ?_
  refine .z zg (.nil ?_)
  refine .ret (Fin.ret1 Try.results174 rfl ?_)
  obtain ⟨H1, g1, g2, hs⟩ := hs.publish .here
  exact ⟨H1, b1, g1, rfl, bound_steps_1_iter hok g2 (hr.mono g1), hs⟩
theorem bound_nearest_spec {H : Heap} {w : World} {σ : List Ent} {N gf : Nat} {ar : List Arc} {cap : List Value} (hs : St H w σ) (hN : N ≤ 64) (hok : ArcsOk ar (N + 1)) (hit : ItA Try.prog gf cap H ar) (hc : ∀ args w, (callFunc gf args).run Try.prog w = .ok (.enter gf args) w) :
    Cl Try.prog 173 [I N, .func (.func gf) #[] cap.toArray] w fun v w' => ∃ H1 bc bb s ov vo, HLe H H1 ∧ v = .tuple #[.slice (some ⟨bc, 0, none⟩) (N + 1) (N + 1), .slice (some ⟨bb, 0, none⟩) (N + 1) (N + 1), vo] ∧ OvR H1 vo ov ∧ NearR (N + 1) ar s ov ∧ St H1 w' (.blk bc (Is s.cost) :: .blk bb (Arcs s.by_) :: σ) := by
  refine Cl.of Try.func173 rfl Try.ntmps173 (by simp) (args_cons (k := 0) rfl (args_cons (k := 1) rfl (args0))) ?_
  refine .regSeq ?_
  refine .o (.alloc hs Try.zeroValue22 rfl ?_); intro b4 w hs
  refine .o (.alloc hs Try.zeroValue198 rfl ?_); intro b5 w hs
  refine .o (.alloc hs Try.zeroValue199 rfl ?_); intro b6 w hs
  refine .nil ?_
  refine .cut (fun fs w => ∃ bc bb, FSub fs ⟨70, [], [(1, .func (.func gf) #[] cap.toArray), (0, I N), (4, .pointer (some ⟨b4, 0, none⟩)), (5, .pointer (some ⟨b5, 0, none⟩)), (6, .pointer (some ⟨b6, 0, none⟩))]⟩ ∧ St H w (.blk b4 [.slice (some ⟨bc, 0, none⟩) (N + 1) (N + 1)] :: .blk b5 [.slice (some ⟨bb, 0, none⟩) (N + 1) (N + 1)] :: .blk b6 [.pointer none] :: .blk bc (Is (List.replicate (N + 1) 0)) :: .blk bb (Arcs (mkBy (N + 1) 0)) :: σ)) ?_ ?_
  · refine .draw mix rfl hs ?_; intro w hs
    refine .z 0 rfl zm ?_; refine .z 1 rfl zadd ?_; refine .z 3 rfl zm ?_; refine .z 4 rfl zadd ?_
    refine .e2 (i := 2) (j := 5) (by kernel_rfl) rfl rfl rfl rfl .none .none hs ?_ ?_
    · refine .makeI (N + 1) hs rfl rfl Try.runUnderlying22 Try.typeInfo3 rfl Try.sizeOf3 Try.zeroValue3 (by omega) ?_; intro b11 w hs
      refine .go ?_
      refine .e2 (i := 5) (j := 6) (by kernel_rfl) rfl rfl rfl rfl .none .none hs ?_ ?_
      · refine .makeA (N + 1) hs rfl rfl Try.runUnderlying198 Try.typeInfo205 rfl Try.sizeOf205 Try.zeroValue205 (by omega) ?_; intro b14 w hs
        refine .go ?_
        refine .e1 (i := 6) (by kernel_rfl) rfl rfl .none hs ?_
        refine .store hs rfl rfl Try.sizeOf22 ?_; intro w hs
        refine .go ?_
        refine .e1 (i := 7) (by kernel_rfl) rfl rfl .none hs ?_
        refine .store hs rfl rfl Try.sizeOf198 ?_; intro w hs
        refine .go ?_
        refine .done (by kernel_rfl) hs ?_
        exact nT ⟨b11, b14, by repeat (first | exact .nil rfl rfl | refine .cons rfl ?_), hs.sub (by repeat (first | exact Sub.refl _ | constructor | apply Sub.weaken))⟩
      · refine .store hs rfl rfl Try.sizeOf22 ?_; intro w hs
        refine .go ?_
        refine .e1 (i := 5) (by kernel_rfl) rfl rfl .none hs ?_
        refine .makeA (N + 1) hs rfl rfl Try.runUnderlying198 Try.typeInfo205 rfl Try.sizeOf205 Try.zeroValue205 (by omega) ?_; intro b14 w hs
        refine .go ?_
        refine .e1 (i := 7) (by kernel_rfl) rfl rfl .none hs ?_
        refine .store hs rfl rfl Try.sizeOf198 ?_; intro w hs
        refine .go ?_
        refine .done (by kernel_rfl) hs ?_
        exact nT ⟨b11, b14, by repeat (first | exact .nil rfl rfl | refine .cons rfl ?_), hs.sub (by repeat (first | exact Sub.refl _ | constructor | apply Sub.weaken))⟩
    · refine .makeA (N + 1) hs rfl rfl Try.runUnderlying198 Try.typeInfo205 rfl Try.sizeOf205 Try.zeroValue205 (by omega) ?_; intro b14 w hs
      refine .go ?_
      refine .e1 (i := 2) (by kernel_rfl) rfl rfl .none hs ?_
      refine .makeI (N + 1) hs rfl rfl Try.runUnderlying22 Try.typeInfo3 rfl Try.sizeOf3 Try.zeroValue3 (by omega) ?_; intro b11 w hs
      refine .go ?_
      refine .e1 (i := 6) (by kernel_rfl) rfl rfl .none hs ?_
      refine .store hs rfl rfl Try.sizeOf22 ?_; intro w hs
      refine .go ?_
      refine .e1 (i := 7) (by kernel_rfl) rfl rfl .none hs ?_
      refine .store hs rfl rfl Try.sizeOf198 ?_; intro w hs
      refine .go ?_
      refine .done (by kernel_rfl) hs ?_
      exact nT ⟨b11, b14, by repeat (first | exact .nil rfl rfl | refine .cons rfl ?_), hs.sub (by repeat (first | exact Sub.refl _ | constructor | apply Sub.weaken))⟩
  · rintro s w ⟨bc, bb, hfs, hs⟩
    refine WE.sub ?_ hfs
    refine .seq (.regSeq (.y hs (zld Try.isAgg198) (.z (zlen Try.runUnderlying198) (.z zm (.nil ?_)))))
    refine .for (N := N + 1) (J := fun k fr w => fr = [(1, .func (.func gf) #[] cap.toArray), (0, I N), (4, .pointer (some ⟨b4, 0, none⟩)), (5, .pointer (some ⟨b5, 0, none⟩)), (6, .pointer (some ⟨b6, 0, none⟩))] ∧ St H w (.blk b4 [.slice (some ⟨bc, 0, none⟩) (N + 1) (N + 1)] :: .blk b5 [.slice (some ⟨bb, 0, none⟩) (N + 1) (N + 1)] :: .blk b6 [.pointer none] :: .blk bc (Is (List.replicate (N + 1) 0)) :: .blk bb (Arcs (mkBy (N + 1) k)) :: σ)) (by omega) ?_ ?_ ?_
    · exact .mk ⟨rfl, hs⟩
    · rintro k fr w hk ⟨rfl, hs⟩
      have hkl : k < (mkBy (N + 1) k).length := by rw [mkBy_length (by omega)]; exact hk
      refine .block (.regSeq (.z zm (.z zg (.nil (.region (.y hs (zld Try.isAgg198) (.z zm ?_)))))))
      first | (refine .ixw hs Try.runUnderlying198 Try.sizeOf205 ?_; intro b22 o22 hc22) | refine .z (zixm Try.runUnderlying198 Try.sizeOf205) ?_
      refine .z (zfa fa_bound_step_3) ?_
      refine .o (.store hs rfl rfl Try.sizeOf3 ?_ (by repeat constructor) (blt_Arcs hkl (by omega)) ((Arcs_set3 hkl _).trans (congrArg Arcs (mkBy_set hk)))); intro w hs
      refine .nil ?_
      refine nB (nT ?_)
      exact .mk ⟨rfl, hs⟩
    · rintro fr w ⟨rfl, hs⟩
      refine nT ?_
      refine .seq (.regSeq (.z zm (.z zadd (.z zm (.nil ?_)))))
      refine .forD (N := N + 2) (J := fun r ds fr w => fr = [(1, .func (.func gf) #[] cap.toArray), (0, I N), (4, .pointer (some ⟨b4, 0, none⟩)), (5, .pointer (some ⟨b5, 0, none⟩)), (6, .pointer (some ⟨b6, 0, none⟩))] ∧ ∃ Ds H1 s vo, ds = marks Ds ∧ HLe H H1 ∧ NInv (N + 1) ar r 0 none s ∧ (r = 0 ∨ ∃ x, OvR H1 vo (some x) ∧ NInv (N + 1) ar (r - 1) ar.length (some x) s) ∧ St H1 w (.blk b4 [.slice (some ⟨bc, 0, none⟩) (N + 1) (N + 1)] :: .blk b5 [.slice (some ⟨bb, 0, none⟩) (N + 1) (N + 1)] :: .blk b6 [vo] :: .blk bc (Is s.cost) :: .blk bb (Arcs s.by_) :: (mes Ds ++ σ))) (by omega) ?_ ?_ ?_
      · exact .mk (ds := []) ⟨rfl, [], H, ⟨List.replicate (N + 1) 0, List.replicate (N + 1) ⟨0, 0, 0, -1⟩⟩, _, rfl, HLe.refl _, NInv.init (by omega), .inl rfl, by rw [mkBy_full] at hs; exact hs⟩
      · rintro r ds fr w hr ⟨rfl, Ds, H1, s, vo, rfl, hle1, hN0, -, hs⟩
        refine .block (.regSeq ?_)
        refine .o (.store hs rfl rfl Try.sizeOf199 ?_); intro w hs
        refine .nil (.seq (.regSeq (.z zm (.nil (.block ?_)))))
        refine .rangeFunc (gf := gf) (cap := cap) (xs := ar.map fun x => [.agg x.v.toArray]) (σb := [.blk b4 [.slice (some ⟨bc, 0, none⟩) (N + 1) (N + 1)], .blk b5 [.slice (some ⟨bb, 0, none⟩) (N + 1) (N + 1)], .blk b6 [.pointer none], .blk bc (Is s.cost), .blk bb (Arcs s.by_)]) (σf := mes Ds ++ σ) hs trivial rfl (hit.mono hle1) hc (by simp) rfl
          (I := fun k H' σb => ∃ s ov vo, σb = [.blk b4 [.slice (some ⟨bc, 0, none⟩) (N + 1) (N + 1)], .blk b5 [.slice (some ⟨bb, 0, none⟩) (N + 1) (N + 1)], .blk b6 [vo], .blk bc (Is s.cost), .blk bb (Arcs s.by_)] ∧ OvR H' vo ov ∧ NInv (N + 1) ar r k ov s) (Ix := fun _ _ _ => False) (by rintro k _ _ σ g1 ⟨s, ov, vo, g2, g3, g4⟩; exact ⟨s, ov, vo, g2, g3.mono g1, g4⟩) (fun _ _ _ _ _ h => h)
          ⟨s, none, _, rfl, rfl, hN0⟩ ?_ ?_ (fun D c H' σb w _ h _ => h.elim)
        · rintro l k hk H2 σb2 σf2 w hle2 ⟨s, ov, vo, rfl, hov, hN⟩ hs ⟨rr, hrr⟩
          obtain ⟨x, hx⟩ := nth (l := ar) (by simpa using hk)
          obtain ⟨c1, c2, c3, c4, c5, c6⟩ := hok.2 x (List.mem_of_getElem? hx)
          have hxk : (ar.map fun x => [Value.agg x.v.toArray])[k] = [.agg x.v.toArray] := by rw [List.getElem_map]; rw [List.getElem?_eq_some_iff] at hx; obtain ⟨h1, h2⟩ := hx; rw [h2]
          rw [hxk]
          have hkl : k < ar.length := by simpa using hk
          have hal := hok.1
          have hlc := hN.lc
          have hlb := hN.lb
          have lo1 := hN.lo x.f c1
          have hi1 := hN.hi x.f c1
          refine .region ?_
          refine .o (.alloc hs Try.zeroValue205 rfl ?_); intro b8 w hs
          refine .o (.stores (vs := x.v) hs rfl rfl Try.sizeOf205 ?_); intro w hs
          refine .nil ?_
          refine nT ?_
          refine ⟨H2, [.blk b8 x.v, .blk b4 [.slice (some ⟨bc, 0, none⟩) (N + 1) (N + 1)], .blk b5 [.slice (some ⟨bb, 0, none⟩) (N + 1) (N + 1)], .blk b6 [vo], .blk bc (Is s.cost), .blk bb (Arcs s.by_)], HLe.refl _, hs, ?_⟩; rintro w σf2 - hs
          refine .block ?_
          refine .seq (.draw mix rfl hs ?_); intro w hs
          refine .y 0 rfl hs Try.isAgg22 ?_; refine .z 1 rfl (zfa fa_bound_step_0) ?_; refine .y 2 rfl hs Try.isAgg3 ?_
          first | (refine .ixv 3 rfl hs Try.runUnderlying22 Try.sizeOf3 ?_; intro b34 o34 hc34) | refine .z 3 rfl (zix Try.runUnderlying22 Try.sizeOf3) ?_
          refine .y 4 rfl hs Try.isAgg3 ?_; refine .z 5 rfl (zfa fa_bound_step_2) ?_; refine .y 6 rfl hs Try.isAgg3 ?_; refine .z 7 rfl zadd ?_; refine .y 8 rfl hs Try.isAgg22 ?_; refine .z 9 rfl (zfa fa_bound_step_1) ?_; refine .y 10 rfl hs Try.isAgg3 ?_
          first | (refine .ixv 11 rfl hs Try.runUnderlying22 Try.sizeOf3 ?_; intro b42 o42 hc42) | refine .z 11 rfl (zix Try.runUnderlying22 Try.sizeOf3) ?_
          refine .y 12 rfl hs Try.isAgg3 ?_; refine .z 13 rfl zlss ?_; refine .done (by kernel_rfl) hs ?_
          refine (.condD rfl (fun hc44 => ?_) (fun hc44 => ?_))
          · refine .seq (.draw mix rfl hs ?_); intro w hs
            refine .y 0 rfl hs Try.isAgg22 ?_; refine .z 1 rfl (zfa fa_bound_step_1) ?_; refine .y 2 rfl hs Try.isAgg3 ?_; refine .y 3 rfl hs Try.isAgg198 ?_; refine .z 4 rfl (zfa fa_bound_step_1) ?_; refine .y 5 rfl hs Try.isAgg3 ?_; refine .y 6 rfl hs Try.isAgg22 ?_; refine .z 7 rfl (zfa fa_bound_step_0) ?_; refine .y 8 rfl hs Try.isAgg3 ?_
            first | (refine .ixv 9 rfl hs Try.runUnderlying22 Try.sizeOf3 ?_; intro b54 o54 hc54) | refine .z 9 rfl (zix Try.runUnderlying22 Try.sizeOf3) ?_
            refine .y 10 rfl hs Try.isAgg3 ?_; refine .z 11 rfl (zfa fa_bound_step_2) ?_; refine .y 12 rfl hs Try.isAgg3 ?_; refine .z 13 rfl zadd ?_
            refine .loads (i := 14) (vs := x.v) hs rfl (by kernel_rfl) .none rfl Try.isAgg205 Try.sizeOf205 ?_
            first | (refine .ixv 15 rfl hs Try.runUnderlying22 Try.sizeOf3 ?_; intro b60 o60 hc60) | refine .z 15 rfl (zix Try.runUnderlying22 Try.sizeOf3) ?_
            refine .e1 (i := 16) (by kernel_rfl) rfl rfl .none hs ?_
            refine .store hs rfl rfl Try.sizeOf3 ?_; intro w hs
            refine .go ?_
            first | (refine .ixw 17 rfl hs Try.runUnderlying198 Try.sizeOf205 ?_; intro b61 o61 hc61) | refine .z 17 rfl (zixm Try.runUnderlying198 Try.sizeOf205) ?_
            refine .e1 (i := 18) (by kernel_rfl) rfl rfl .none hs ?_
            refine .stores (vs := x.v) hs rfl rfl Try.sizeOf205 ?_; intro w hs
            refine .go ?_
            refine .done (by kernel_rfl) hs ?_
            refine .region ?_
            refine .o (.store hs rfl rfl Try.sizeOf199 ?_); intro w hs
            refine .nil ?_
            refine nB ?_
            obtain ⟨H3, g1, g2, hs⟩ := hs.publish .here
            exact ⟨H3, _, g1, hs, s.rlx x, some x, _, rfl, ⟨b8, rfl, g2⟩, hN.relax hok hx hc44⟩
          · refine .skip ?_
            refine nB ?_
            exact ⟨H2, _, HLe.refl _, hs.tail, s, ov, vo, rfl, hov, hN.skip hok hx (by unfold BS.can; omega)⟩
        · rintro D H2 σb2 w hle2 ⟨s, ov, vo, rfl, hov, hN⟩ hs
          obtain ⟨a', rfl, ha'⟩ := hov.ptr
          replace hs : St H2 w (.blk b4 [.slice (some ⟨bc, 0, none⟩) (N + 1) (N + 1)] :: .blk b5 [.slice (some ⟨bb, 0, none⟩) (N + 1) (N + 1)] :: .blk b6 [.pointer a'] :: .blk bc (Is s.cost) :: .blk bb (Arcs s.by_) :: (mes (D :: Ds) ++ σ)) := St.deep (σ1 := [_, _, _, _, _]) hs
          have hN : NInv (N + 1) ar r ar.length ov s := by simpa using hN
          refine nB (nT ?_)
          refine .regSeq (.y hs (zld Try.isAgg199) ?_)
          refine .q hs (q_eqPN rfl rfl Try.runUnderlying199) ?_
          refine .nil ?_
          refine (.cond rfl (fun hc63 => ?_) (fun hc63 => ?_))
          · refine .seq (.draw mix rfl hs ?_); intro w hs
            refine .y 0 rfl hs Try.isAgg22 ?_; refine .y 1 rfl hs Try.isAgg198 ?_
            refine .e1 (i := 2) (by kernel_rfl) rfl rfl .none hs ?_
            refine .store hs rfl rfl Try.sizeOf22 ?_; intro w hs
            refine .go ?_
            refine .e1 (i := 3) (by kernel_rfl) rfl rfl .none hs ?_
            refine .store hs rfl rfl Try.sizeOf198 ?_; intro w hs
            refine .go ?_
            refine .e1 (i := 4) (by kernel_rfl) rfl rfl .none hs ?_
            refine .store hs rfl rfl Try.sizeOf199 ?_; intro w hs
            refine .go ?_
            refine .done (by kernel_rfl) hs ?_
            refine .ret (rB (rT (rB (rT (?_)))))
            obtain ⟨rfl, rfl⟩ := OvR.no ha' hc63
            refine Fin.retD (D :: Ds) [_, _, _, _, _] hs fun w hs => ⟨_, results3 Try.results173 (rcell hs rfl Try.isAgg22) (rcell hs rfl Try.isAgg198) (rcell hs rfl Try.isAgg199), H2, bc, bb, s, none, _, hle1.trans hle2, rfl, hov, ⟨r, hN, fun h => (h rfl).elim⟩, hs.sub (by repeat (first | exact Sub.refl _ | constructor | apply Sub.weaken))⟩
          · refine .skip ?_
            refine nB (nT ?_)
            obtain ⟨x, rfl⟩ := OvR.yes ha' hc63
            exact .mk (ds := marks (D :: Ds)) ⟨rfl, D :: Ds, H2, s, _, rfl, hle1.trans hle2, hN.next hok, .inr ⟨x, hov, hN⟩, hs⟩
      · rintro ds fr w ⟨rfl, Ds, H1, s, vo, rfl, hle1, hN0, hor, hs⟩
        obtain ⟨x, hov, hN⟩ : ∃ x, OvR H1 vo (some x) ∧ NInv (N + 1) ar (N + 2 - 1) ar.length (some x) s := hor.resolve_left (by omega)
        obtain ⟨b3, rfl, hrow⟩ := hov
        refine nT ?_
        refine .seq (.draw mix rfl hs ?_); intro w hs
        refine .y 0 rfl hs Try.isAgg22 ?_; refine .y 1 rfl hs Try.isAgg198 ?_; refine .y 2 rfl hs Try.isAgg199 ?_
        refine .e1 (i := 3) (by kernel_rfl) rfl rfl .none hs ?_
        refine .store hs rfl rfl Try.sizeOf22 ?_; intro w hs
        refine .go ?_
        refine .e1 (i := 4) (by kernel_rfl) rfl rfl .none hs ?_
        refine .store hs rfl rfl Try.sizeOf198 ?_; intro w hs
        refine .go ?_
        refine .e1 (i := 5) (by kernel_rfl) rfl rfl .none hs ?_
        refine .store hs rfl rfl Try.sizeOf199 ?_; intro w hs
        refine .go ?_
        refine .done (by kernel_rfl) hs ?_
        refine .ret ?_
        refine Fin.retD Ds [_, _, _, _, _] hs fun w hs => ⟨_, results3 Try.results173 (rcell hs rfl Try.isAgg22) (rcell hs rfl Try.isAgg198) (rcell hs rfl Try.isAgg199), H1, bc, bb, s, some x, _, hle1, rfl, ⟨b3, rfl, hrow⟩, ⟨N + 1, hN, fun _ => rfl⟩, hs.sub (by repeat (first | exact Sub.refl _ | constructor | apply Sub.weaken))⟩
theorem bound_isSound_spec {H : Heap} {w : World} {σ : List Ent} {v : Value} {s : Syst} (hs : St H w σ) (hok : s.Ok) (hr : RSy H v s) :
    Cl Try.prog 149 [v] w fun v w' => ∃ H1 b, HLe H H1 ∧ v = .bool b ∧ (b = true ↔ s.Sound) ∧ St H1 w' σ := by
  obtain ⟨u, rfl, hr⟩ := hr
  obtain ⟨N, hN⟩ := Int.eq_ofNat_of_zero_le hok.m0
  have hN1 := hok.m1
  have hn : s.n = N + 1 := by simp [Syst.n, hN]
  have hoka := hok.arcs
  rw [hn] at hoka
  rw [hN]
  refine Cl.of Try.func149 rfl Try.ntmps149 (by simp) (args_cons (k := 0) rfl (args0)) ?_
  refine .regSeq ?_
  refine .o (.box hs rfl rfl ?_); intro b1 w hs
  refine .z zg (.nil ?_)
  refine .seq (.draw mix rfl hs ?_); intro w hs
  refine .z 0 rfl (zfa fa_api_System_0) ?_; refine .y 1 rfl hs Try.isAgg3 ?_; refine .ys 2 rfl hs [_, _] Try.isAgg32 Try.sizeOf32 ?_
  refine .e1 (i := 3) (by kernel_rfl) rfl rfl .none hs ?_
  refine .call Try.call174 rfl (bound_steps_spec (s := s) hs hok ⟨u, by rw [hN], hr⟩) ?_; rintro _ w ⟨H1, b10, hle1, rfl, hit, hs⟩
  refine .go ?_
  refine .e1 (i := 4) (by kernel_rfl) rfl rfl .none hs ?_
  refine .call Try.call173 rfl (bound_nearest_spec hs (by omega) hoka hit Try.call202) ?_; rintro _ w ⟨H2, bc, bb, st, ov, vo, hle2, rfl, hov, hnr, hs⟩
  obtain ⟨a', rfl, ha'⟩ := hov.ptr
  refine .go ?_
  refine .z 5 rfl zm ?_; refine .z 6 rfl zex ?_; refine .z 7 rfl zex ?_; refine .z 8 rfl zex ?_; refine .z 9 rfl zg ?_; refine .z 10 rfl zg ?_; refine .z 11 rfl zg ?_; refine .done (by kernel_rfl) hs ?_
  refine .regSeq (.z zm ?_)
  refine .q hs (q_eqPN rfl rfl Try.runUnderlying199) ?_
  refine .z zg (.nil ?_)
  refine .ret (Fin.ret1 Try.results149 rfl ?_)
  refine ⟨H2, _, hle1.trans hle2, rfl, ?_, hs.out⟩
  obtain ⟨r, hN2, hr2⟩ := hnr
  cases ov with
  | none =>
    rw [ha']
    exact ⟨fun _ => ⟨_, (hN2.sol hoka (by omega)).1⟩, fun _ => rfl⟩
  | some x =>
    rw [ha']
    exact ⟨fun h => (by cases h), fun h => (hN2.none hoka (by omega) (by have := hr2 (by simp); omega) h).elim⟩
end Go.Proofs.Ytiiokdeehlfeeaa

namespace Go.Proofs.Ytiiokdeehlfeeaa
open Go.MW
theorem math_bits_Mul64_one {H : Heap} {w : World} {σ : List Ent} {c : Int} (hs : St H w σ) (hc : 0 ≤ c ∧ c < 4294967296) : Cl Try.prog 215 [.int .u64 1, .int .u64 c] w fun v w' => v = .tuple #[.int .u64 0, .int .u64 c] ∧ St H w' σ := by
  refine Cl.of Try.func215 rfl Try.ntmps215 (by simp) (args_cons (k := 0) rfl (args_cons (k := 1) rfl (args0))) ?_
  refine .regSeq (.z zg (.z zg (.nil (.regSeq (.z zm ?_)))))
  first | refine .q hs (q_low rfl rfl ⟨by omega, by omega⟩) ?_ | refine .q hs (q_bits rfl rfl) ?_
  refine .z zg (.nil (.regSeq (.z zm ?_)))
  first | refine .q hs (q_high rfl rfl ⟨by omega, by omega⟩) ?_ | refine .q hs (q_shr rfl rfl (by decide)) ?_
  refine .z zg (.nil (.regSeq (.z zm ?_)))
  first | refine .q hs (q_low rfl rfl ⟨by omega, by omega⟩) ?_ | refine .q hs (q_bits rfl rfl) ?_
  refine .z zg (.nil (.regSeq (.z zm ?_)))
  first | refine .q hs (q_high rfl rfl ⟨by omega, by omega⟩) ?_ | refine .q hs (q_shr rfl rfl (by decide)) ?_
  refine .z zg (.nil (.regSeq (.z zm (.z zm (.z zmul (.z zg (.nil (.regSeq (.z zm ?_)))))))))
  refine .z zm (.z zmul (.z zm ?_))
  first | refine .q hs (q_high rfl rfl ⟨by omega, by omega⟩) ?_ | refine .q hs (q_shr rfl rfl (by decide)) ?_
  refine .z zadd (.z zg (.nil (.regSeq (.z zm ?_))))
  first | refine .q hs (q_low rfl rfl ⟨by omega, by omega⟩) ?_ | refine .q hs (q_bits rfl rfl) ?_
  refine .z zg (.nil (.regSeq (.z zm ?_)))
  first | refine .q hs (q_high rfl rfl ⟨by omega, by omega⟩) ?_ | refine .q hs (q_shr rfl rfl (by decide)) ?_
  refine .z zg (.nil (.regSeq (.z zm (.z zm (.z zm (.z zmul (.z zadd (.z zg (.nil ?_)))))))))
  refine .regSeq (.z zm (.z zm (.z zmul (.z zm (.z zadd (.z zm ?_))))))
  first | refine .q hs (q_high rfl rfl ⟨by omega, by omega⟩) ?_ | refine .q hs (q_shr rfl rfl (by decide)) ?_
  refine .z zadd (.z zg (.nil (.regSeq (.z zm (.z zm (.z zmul (.z zg (.nil ?_))))))))
  refine .ret (Fin.ret2 Try.results215 rfl rfl ?_)
  exact ⟨by simp, hs⟩
theorem math_bits_Mul_one {H : Heap} {w : World} {σ : List Ent} {c : Int} (hs : St H w σ) (hc : 0 ≤ c ∧ c < 4294967296) : Cl Try.prog 205 [.int .u64 1, .int .u64 c] w fun v w' => v = .tuple #[.int .u64 0, .int .u64 c] ∧ St H w' σ := by
  refine Cl.of Try.func205 rfl Try.ntmps205 (by simp) (args_cons (k := 0) rfl (args_cons (k := 1) rfl (args0))) ?_
  refine .regSeq (.z zg (.z zg (.nil ?_)))
  refine .seq (.condF rfl rfl ?_)
  refine .skip ?_
  refine nT ?_
  refine .regSeq (.z zm (.z zm ?_))
  refine .o (.call Try.call215 rfl (math_bits_Mul64_one hs hc) ?_); rintro _ w ⟨rfl, hs⟩
  refine .z zm (.z zex (.z zex (.z zg (.z zg (.nil (.regSeq (.z zm (.z zm (.z zg ?_)))))))))
  refine .z zg (.nil ?_)
  refine .ret (Fin.ret2 Try.results205 rfl rfl ?_)
  exact ⟨rfl, hs⟩
theorem fill_step {c k : Nat} {z : Int} : let n := min k (c - k); (List.replicate k z ++ List.replicate (c - k) 0).take k ++ List.replicate n z ++ (List.replicate k z ++ List.replicate (c - k) 0).drop (k + n) = List.replicate (k + n) z ++ List.replicate (c - (k + n)) (0 : Int) := by
  intro n
  have hn : n ≤ c - k := Nat.min_le_right _ _
  have e0 : (List.replicate k z).length = k := by simp
  rw [List.take_left' e0]
  have e1 : (List.replicate k z ++ List.replicate (c - k) 0).drop (k + n) = List.replicate (c - (k + n)) (0 : Int) := by
    rw [show k + n = (List.replicate k z).length + n by simp, List.drop_append]
    simp
    omega
  rw [e1, List.replicate_append_replicate]
theorem slices_Repeat_int {H : Heap} {w : World} {σ : List Ent} {z : Int} {bx c : Nat} (hs : St H w σ) (hm : Mem σ (.blk bx (Is [z]))) (h1 : 1 ≤ c) (h2 : c ≤ 1000000) : Cl Try.prog 192 [.slice (some ⟨bx, 0, none⟩) 1 1, I c] w fun v w' => ∃ b, v = .slice (some ⟨b, 0, none⟩) c c ∧ St H w' (.blk b (Is (List.replicate c z)) :: σ) := by
  refine Cl.of Try.func192 rfl Try.ntmps192 (by simp) (args_cons (k := 0) rfl (args_cons (k := 1) rfl (args0))) ?_
  refine .regSeq (.z zg (.nil (.seq (.regSeq (.z zm (.z zlss (.nil ?_)))))))
  refine (.condD rfl (fun hc10 => ?_) (fun hc10 => ?_))
  · omega
  · refine .skip ?_
    refine nT ?_
    refine .regSeq (.z zm (.z (zlen Try.runUnderlying22) ?_))
    first | refine .q hs (q_convI rfl Try.runUnderlying3 Try.runUnderlying221 ⟨by omega, by omega⟩) ?_ | refine .q hs (q_convU rfl Try.runUnderlying3 Try.runUnderlying221 ⟨by omega, by omega⟩) ?_ | refine .q hs (q_conv rfl Try.runUnderlying3 Try.runUnderlying221) ?_
    refine .z zm ?_
    first | refine .q hs (q_convI rfl Try.runUnderlying3 Try.runUnderlying221 ⟨by omega, by omega⟩) ?_ | refine .q hs (q_convU rfl Try.runUnderlying3 Try.runUnderlying221 ⟨by omega, by omega⟩) ?_ | refine .q hs (q_conv rfl Try.runUnderlying3 Try.runUnderlying221) ?_
    refine .o (.call Try.call205 rfl (math_bits_Mul_one (c := c) hs (by omega)) ?_); rintro _ w ⟨rfl, hs⟩
    refine .z zm (.z zex (.z zex (.z zg (.z zg (.nil (.seq (.regSeq (.z zm (.z zgtr ?_)))))))))
    refine .z zm ?_
    refine .bifD (t' := 23) rfl (fun hb23 => ?_) (fun hb23 => ?_)
    · refine .gFs 2 2 false rfl rfl rfl ?_
      refine .z zpT (.nil ?_)
      refine (.condT rfl rfl ?_)
      first | omega | (simp at hc26; omega)
    · refine .gT rfl rfl ?_
      refine .z zm ?_
      refine .gT rfl rfl ?_
      refine .z zgtr (.z zpF (.nil ?_))
      refine (.condD rfl (fun hc26 => ?_) (fun hc26 => ?_))
      · first | omega | (simp at hc26; omega)
      · refine .skip ?_
        refine nT ?_
        refine .regSeq (.z zm ?_)
        first | refine .q hs (q_convI rfl Try.runUnderlying221 Try.runUnderlying3 ⟨by omega, by omega⟩) ?_ | refine .q hs (q_convU rfl Try.runUnderlying221 Try.runUnderlying3 ⟨by omega, by omega⟩) ?_ | refine .q hs (q_conv rfl Try.runUnderlying221 Try.runUnderlying3) ?_
        refine .o (.makeI c hs rfl rfl Try.runUnderlying22 Try.typeInfo3 rfl Try.sizeOf3 Try.zeroValue3 (by omega) ?_); intro b30 w hs
        refine .z zg (.nil (.regSeq (.z zm (.z zm ?_))))
        refine .o (.copyI (k := 1) (xs := List.replicate c 0) (zs := [z]) hs rfl rfl ⟨_, _, rfl⟩ Try.runUnderlying22 Try.sizeOf3 (by omega) rfl (first_own (xs := [z]) (.there hm) rfl rfl) (by simp; omega) ?_); intro w hs
        refine .z zg (.nil (.seq (.block ?_)))
        refine .loop (fun k : Nat => ⟨48, [], [(8, I k), (7, .slice (some ⟨b30, 0, none⟩) c c)]⟩) (fun k w => (1 ≤ k ∧ k ≤ c) ∧ St H w (.blk b30 (Is (List.replicate k z ++ List.replicate (c - k) 0)) :: σ)) (fun k => c - k) 1 (by repeat (first | exact .nil rfl rfl | refine .cons rfl ?_)) ⟨⟨by omega, by omega⟩, by
            have e : List.take 0 (List.replicate c (0 : Int)) ++ [z] ++ List.drop (0 + 1) (List.replicate c 0) = List.replicate 1 z ++ List.replicate (c - 1) 0 := by simp
            rw [e] at hs; exact hs⟩ ?_
        rintro k w ⟨⟨k1, k2⟩, hs⟩
        refine .seq (.regSeq (.z zm (.z zm (.z (zlen Try.runUnderlying22) (.z zlss (.nil ?_))))))
        refine (.condD rfl (fun hc37 => ?_) (fun hc37 => ?_))
        · refine .skip ?_
          refine nT ?_
          refine .block ?_
          refine .draw mix rfl hs ?_; intro w hs
          refine .z 0 rfl zm ?_; refine .z 1 rfl zm ?_; refine .z 2 rfl zm ?_
          refine .p (i := 3) rfl (by kernel_rfl) .none (q_sliceLI (k := k) rfl rfl Try.runUnderlying22 Try.sizeOf3 (by omega) (by omega)) ?_
          refine .z 4 rfl zm ?_; refine .z 5 rfl zm ?_
          refine .p (i := 6) rfl (by kernel_rfl) .none (q_sliceHI (k := k) rfl rfl Try.runUnderlying22 Try.sizeOf3 (by omega)) ?_
          refine .e1 (i := 7) (by kernel_rfl) rfl rfl .none hs ?_
          refine .copyI (k := min k (c - k)) (xs := List.replicate k z ++ List.replicate (c - k) 0) (zs := List.replicate (min k (c - k)) z) hs rfl rfl ⟨_, _, rfl⟩ Try.runUnderlying22 Try.sizeOf3 rfl (by simp) (first_own (xs := List.replicate k z ++ List.replicate (c - k) 0) .here (by rw [List.drop_zero, List.take_append_of_le_length (by simp; omega)]; simp) (by simp)) (by simp; omega) ?_; intro w hs
          refine .go ?_
          refine .z 8 rfl zadd ?_; refine .z 9 rfl zg ?_; refine .done (by kernel_rfl) hs ?_
          refine nB (nT ?_)
          exact ⟨k + min k (c - k), by repeat (first | exact .nil rfl rfl | refine .cons rfl ?_), ⟨⟨by omega, by omega⟩, by
              have e := fill_step (z := z) (c := c) (k := k)
              simp only [Nat.mul_one, Nat.zero_add] at hs
              rw [e] at hs; exact hs⟩, by omega⟩
        · refine .exit ?_
          refine xT (xT (xB (nT ?_)))
          refine .regSeq (.z zm (.z zg (.nil ?_)))
          refine .ret (Fin.ret1 Try.results192 rfl ?_)
          obtain rfl : k = c := by omega
          exact ⟨b30, rfl, by simpa using hs⟩
theorem slices_Clone_intN {H : Heap} {w : World} {σ : List Ent} {v : Value} {xs : List Int} (hs : St H w σ) (hr : RI H v xs) (hx : xs.length ≤ 17592186044416) : Cl Try.prog 128 [v] w fun u w' => ∃ en, (nnil v = true → nnil u = true) ∧ OwnS 1 u (Is xs) en ∧ St H w' (en :: σ) := by
  obtain ⟨a, c, rfl⟩ := RI.shape hr
  have hl := (RI.len hr).2.2
  refine Cl.of Try.func128 rfl Try.ntmps128 (by simp) (args_cons (k := 0) rfl (args0)) ?_
  refine .regSeq (.z zg (.nil (.seq (.regSeq (.z zm ?_)))))
  refine .q hs (q_eqSN rfl rfl Try.runUnderlying22) ?_
  refine .nil ?_
  refine (.cond rfl (fun hc4 => ?_) (fun hc4 => ?_))
  · refine .regSeq (.z zg (.nil ?_))
    refine .ret (rT (Fin.ret1 Try.results128 rfl ?_))
    obtain rfl : a = none := by simpa using hc4
    obtain rfl := hr.nilOf
    exact ⟨.nul, fun h => h, .nil 1 none, hs.nul⟩
  · refine .skip ?_
    refine nT ?_
    refine .regSeq ?_
    refine .o (.buildSlice (cells := []) hs bls_sl_int_0 rfl rfl ?_); intro b5 w hs
    refine .z zm ?_
    refine .o (.appendN (xs := []) (ys := Is xs) hs app_sl_int_int rfl rfl (.full rfl) (.ints hr) (by simp [Value.oneCell']) (fun l h => by simp at h; omega) ?_); intro v7 en7 w hnn hO hs
    refine .z zg (.nil ?_)
    refine .ret (Fin.ret1 Try.results128 rfl ?_)
    exact ⟨en7, fun _ => hnn rfl, hO, hs⟩
theorem slices_Clone_int {H : Heap} {w : World} {σ : List Ent} {v : Value} {xs : List Int} (hs : St H w σ) (hr : RI H v xs) (hx : xs.length ≤ 17592186044416) : Cl Try.prog 128 [v] w fun v w' => ∃ en, OwnS 1 v (Is xs) en ∧ St H w' (en :: σ) :=
  (slices_Clone_intN hs hr hx).mono fun _ _ ⟨en, _, h⟩ => ⟨en, h⟩
theorem slices_Reverse_step {H : Heap} {w : World} {σ : List Ent} {v : Value} {l : List Arc} {en : Ent} (hs : St H w (en :: σ)) (ho : OwnS 4 v (Arcs l) en) (hl : l.length ≤ 1000000) :
    Cl Try.prog 216 [v] w fun _ w' => ∃ en', OwnS 4 v (Arcs l.reverse) en' ∧ St H w' (en' :: σ) := by
  rcases ho with ⟨a, rfl, h2, rfl⟩ | ⟨b, len, cap, sp, rfl, rfl, h2, h3, h4⟩
  · obtain rfl : l = [] := by
      have := congrArg List.length h2
      rw [Arcs_length] at this
      exact List.length_eq_zero_iff.1 (by simp at this; omega)
    have hs := hs.tail
    refine Cl.of Try.func216 rfl Try.ntmps216 (by simp) (args_cons (k := 0) rfl (args0)) ?_
    refine .regSeq (.z zm (.z (zlen Try.runUnderlying198) (.z zsub (.z zg (.z zg (.nil (.block ?_)))))))
    refine .loop (fun _ : Unit => ⟨28, [], [(2, I 0), (3, I (-1))]⟩) (fun _ w => St H w σ) (fun _ => 0) () (by repeat (first | exact .nil rfl rfl | refine .cons rfl ?_)) hs ?_
    rintro _ w hs
    refine .seq (.regSeq (.z zm (.z zm (.z zlss (.nil ?_)))))
    refine (.condD rfl (fun hc9 => ?_) (fun hc9 => ?_))
    · omega
    · refine .exit ?_
      refine xT (xT (xB ?_))
      exact Fin.end0 Try.results216 ⟨.nul, .nil 4 a, hs.nul⟩
  obtain rfl : len = l.length := by rw [Arcs_length] at h2; omega
  refine Cl.of Try.func216 rfl Try.ntmps216 (by simp) (args_cons (k := 0) rfl (args0)) ?_
  refine .regSeq (.z zm (.z (zlen Try.runUnderlying198) (.z zsub (.z zg (.z zg (.nil (.block ?_)))))))
  refine .loop (fun p : Nat × List Arc => ⟨28, [], [(2, I p.1), (3, I ((l.length : Int) - 1 - p.1)), (0, .slice (some ⟨b, 0, none⟩) l.length cap)]⟩) (fun p w => (2 * p.1 ≤ l.length + 1 ∧ Turned l p.2 p.1) ∧ St H w (.blk b (Arcs p.2 ++ sp) :: σ)) (fun p => l.length - p.1) (0, l) (.cons rfl (.consI rfl (by simp) (.cons rfl (.nil rfl rfl)))) ⟨⟨by simp, .start l⟩, hs⟩ ?_
  rintro ⟨i, L⟩ w ⟨⟨h5, h6⟩, hs⟩
  dsimp only at h5 h6 hs ⊢
  have hL := h6.1
  refine .seq (.regSeq (.z zm (.z zm (.z zlss (.nil ?_)))))
  refine (.condD rfl (fun hc9 => ?_) (fun hc9 => ?_))
  · refine .skip ?_
    refine nT ?_
    refine .seq (.block ?_)
    refine .draw mix rfl hs ?_; intro w hs
    refine .z 0 rfl zm ?_; refine .z 1 rfl zm ?_; refine .z 2 rfl zm ?_; refine .z 3 rfl zm ?_; refine .z 4 rfl zm ?_; refine .z 5 rfl zm ?_
    refine .p (i := 6) rfl (by kernel_rfl) .none (q_ixOm (k := l.length - 1 - i) rfl rfl Try.runUnderlying198 Try.sizeOf205 (by omega) (by omega)) ?_
    refine .loads (i := 7) (vs := (ga L (l.length - 1 - i)).v) hs rfl (by kernel_rfl) .none rfl Try.isAgg205 Try.sizeOf205 ?_ (hv := Arcs_sub_sp (by omega) sp)
    refine .z 8 rfl zm ?_; refine .z 9 rfl zm ?_
    first | (refine .ixw 10 rfl hs Try.runUnderlying198 Try.sizeOf205 ?_; intro b24 o24 hc24) | refine .z 10 rfl (zixm Try.runUnderlying198 Try.sizeOf205) ?_
    refine .loads (i := 11) (vs := (ga L i).v) hs rfl (by kernel_rfl) .none rfl Try.isAgg205 Try.sizeOf205 ?_ (hv := Arcs_sub_sp (by omega) sp)
    first | (refine .ixw 12 rfl hs Try.runUnderlying198 Try.sizeOf205 ?_; intro b26 o26 hc26) | refine .z 12 rfl (zixm Try.runUnderlying198 Try.sizeOf205) ?_
    refine .e1 (i := 13) (by kernel_rfl) rfl rfl .none hs ?_
    refine .stores (vs := (ga L (l.length - 1 - i)).v) hs rfl rfl Try.sizeOf205 ?_ (by repeat constructor) (ble_Arcs_sp (by omega) sp) (setL_Arcs_sp (by omega) _ sp); intro w hs
    refine .go ?_
    refine .p (i := 14) rfl (by kernel_rfl) .none (q_ixOm (k := l.length - 1 - i) rfl rfl Try.runUnderlying198 Try.sizeOf205 (by omega) (by omega)) ?_
    refine .e1 (i := 15) (by kernel_rfl) rfl rfl .none hs ?_
    refine .stores (vs := (ga L i).v) hs rfl rfl Try.sizeOf205 ?_ (by repeat constructor) (ble_Arcs_sp (by simp; omega) sp) (setL_Arcs_sp (by simp; omega) _ sp); intro w hs
    refine .go ?_
    refine .done (by kernel_rfl) hs ?_
    refine nB (nT ?_)
    refine .region (.z zm (.z zadd (.z zm (.z zsub (.z zg (.z zg (.nil ?_)))))))
    refine nT ?_
    exact ⟨(i + 1, _), .cons rfl (.consI rfl (by push_cast; omega) (.cons rfl (.nil rfl rfl))), ⟨⟨by dsimp only; omega, h6.step (by omega)⟩, hs⟩, by dsimp only; omega⟩
  · refine .exit ?_
    refine xT (xT (xB ?_))
    rw [h6.done (by omega)] at hs
    exact Fin.end0 Try.results216 ⟨_, .inr ⟨b, l.length, cap, sp, rfl, rfl, by rw [Arcs_length]; simp, by rw [← h3]; simp [Arcs_length], h4⟩, hs⟩
end Go.Proofs.Ytiiokdeehlfeeaa

namespace Go.Proofs.Ytiiokdeehlfeeaa
open Go.MW
theorem bound_flow_rest_1_iter {H : Heap} {b1 bf bt bl cl : Nat} {s : Syst} {ts lf : List Int} {vl : Value} {sp : List Value} (hok : s.Ok) (hb : Row H b1 [.pointer (some ⟨bf, 0, none⟩)]) (hF : FlowH H bf s ts lf vl bt bl cl sp) (hlt : ts.length = s.lims.length) :
    ItA Try.prog 211 [.pointer (some ⟨b1, 0, none⟩)] H (resid s.arcs ts) := by
  intro l II Ix hmI hmX hy H0 σb0 σf w hle hI0 hs
  have hb0 : cellAt H0 b1 0 = some (.pointer (some ⟨bf, 0, none⟩)) := (hb.mono hle).at 0
  have hF0 := hF.mono hle
  have hsys := hF0.f.cells 0 [I s.many, vl]
  have hlen : s.arcs.length = ts.length := by simp [Syst.arcs, arcsOf_length, hlt]
  refine Cl.of Try.func211 rfl Try.ntmps211 (by simp) (args_cons (k := 0) rfl (args_cons (k := 1) rfl (args0))) ?_
  refine .regSeq ?_
  refine .o (.box hs rfl rfl ?_); intro b2 w hs
  refine .nil (.regSeq (.y hs (zld Try.isAgg175) (.z znc (.z (zfa fa_bound_flow_0) ?_))))
  refine .q hs (q_loadsR (vs := [I s.many, vl]) rfl Try.isAgg32 Try.sizeOf32 hsys) ?_
  refine .o (.call Try.call174 rfl (bound_steps_spec (s := s) hs hok ⟨vl, rfl, hF0.l⟩) ?_); rintro _ w ⟨H1, b8, hle1, rfl, hit, hs⟩
  refine .nil (.block ?_)
  refine .rangeFunc (gf := 202) (cap := [.pointer (some ⟨b8, 0, none⟩)]) (xs := s.arcs.map fun x : Arc => [Value.agg x.v.toArray]) (σb := .blk b2 [.func (.yield l) #[] #[]] :: σb0) (σf := σf) hs trivial rfl hit Try.call202 (by simp) rfl
    (I := fun k H' σb => ∃ σo, σb = .blk b2 [.func (.yield l) #[] #[]] :: σo ∧ HLe H0 H' ∧ II (preN s.arcs ts k) H' σo)
    (Ix := fun c H' σb => c = .ret ∧ ∃ σo, σb = .blk b2 [.func (.yield l) #[] #[]] :: σo ∧ HLe H0 H' ∧ Ix H' σo)
    (fun k _ _ σ g1 ⟨σo, g2, g3, g4⟩ => ⟨σo, g2, g3.trans g1, hmI _ _ _ _ g1 g4⟩) (fun c _ _ σ g1 ⟨g0, σo, g2, g3, g4⟩ => ⟨g0, σo, g2, g3.trans g1, hmX _ _ _ g1 g4⟩)
    ⟨σb0, rfl, hle1, by rw [preN_zero]; exact hmI _ _ _ _ hle1 hI0⟩ ?_ ?_ ?_
  · rintro l2 k hk H2 σb2 σf2 w hle2 ⟨σo, rfl, hle0, hIk⟩ hs ⟨rr, hrr⟩
    obtain ⟨x, hx⟩ := nth (l := s.arcs) (by simpa using hk)
    obtain ⟨c1, c2, c3, c4, c5, c6⟩ := hok.arcs.2 x (List.mem_of_getElem? hx)
    have hxk : (s.arcs.map fun x => [Value.agg x.v.toArray])[k] = [.agg x.v.toArray] := by rw [List.getElem_map]; rw [List.getElem?_eq_some_iff] at hx; obtain ⟨h1, h2⟩ := hx; rw [h2]
    rw [hxk]
    have hkt : k < ts.length := by rw [← hlen]; simpa using hk
    have hxl : x.l = (k : Int) := arcsOf_l hx
    obtain ⟨r1, r2, r3⟩ := resid_get (ts := ts) hx hkt
    refine .region ?_
    refine .o (.alloc hs Try.zeroValue205 rfl ?_); intro b3 w hs
    refine .o (.stores (vs := x.v) hs rfl rfl Try.sizeOf205 ?_); intro w hs
    refine .nil ?_
    refine nT ?_
    refine ⟨H2, .blk b3 x.v :: .blk b2 [.func (.yield l) #[] #[]] :: σo, HLe.refl _, hs, ?_⟩; rintro w σf2 - hs
    refine .block (.seq (.regSeq ?_))
    refine .y hs (zld Try.isAgg234) ?_
    refine .q hs (q_loads (vs := x.v) rfl Try.isAgg205 Try.sizeOf205) ?_
    have hyd := hy (preN s.arcs ts k) (by simpa using (List.getElem?_eq_some_iff.1 r1).1) H2 σo (.blk b3 x.v :: .blk b2 [.func (.yield l) #[] #[]] :: σf2) w (hle.trans hle0) hIk (St.deep (σ1 := σo) (St.deep (σ1 := .blk b3 x.v :: σo) (hs.perm (.swap _ _ _))))
    rw [map_at r1] at hyd
    refine .o (.yield (vs := [.agg x.v.toArray]) rfl rfl hyd ?_); rintro v12 w ⟨H3, σ3, hle3, hs, g3⟩
    obtain ⟨bb, rfl, gT, gF⟩ := yd_bool g3
    replace hs : St H3 w (.blk b3 x.v :: .blk b2 [.func (.yield l) #[] #[]] :: (σ3 ++ σf2)) := (St.shallow (σ1 := .blk b3 x.v :: σ3) (St.shallow (σ1 := σ3) hs)).perm (.swap _ _ _)
    refine .z znot (.nil ?_)
    refine (.cond rfl (fun hc13 => ?_) (fun hc13 => ?_))
    · refine .ret (rT (rB (?_)))
      exact ⟨H3, .blk b2 [.func (.yield l) #[] #[]] :: σ3, hle3, hs.tail, rfl, σ3, rfl, hle0.trans hle3, gF (by simpa using hc13)⟩
    · refine .skip ?_
      refine nT ?_
      refine .seq (.draw mix rfl hs ?_); intro w hs
      have hb3 : cellAt H3 b1 0 = some (.pointer (some ⟨bf, 0, none⟩)) := cellAt.mono hb0 (hle0.trans hle3)
      have hf3 : cellAt H3 bf 2 = some (.slice (some ⟨bt, 0, none⟩) ts.length ts.length) := ((hF0.mono (hle0.trans hle3)).f).at 2
      have ht3 : cellAt H3 bt k = some (I (gi ts k)) := ((hF0.mono (hle0.trans hle3)).t).at k (Is_gi hkt)
      have hI3 := gT (by simpa using hc13)
      refine .r (i := 0) hs rfl (by kernel_rfl) .none (q_loadR rfl Try.isAgg175 hb3) ?_
      refine .z 1 rfl znc ?_; refine .z 2 rfl (zfa fa_bound_flow_1) ?_; refine .y 3 rfl hs Try.isAgg22 ?_; refine .z 4 rfl (zfa fa_bound_step_3) ?_; refine .y 5 rfl hs Try.isAgg3 ?_
      refine .p (i := 6) rfl (by kernel_rfl) .none (q_ixO (k := k) rfl rfl Try.runUnderlying22 Try.sizeOf3 hxl hkt) ?_
      refine .r (i := 7) hs rfl (by kernel_rfl) .none (q_loadR rfl Try.isAgg3 ht3) ?_
      refine .z 8 rfl zgtr ?_; refine .z 9 rfl zm ?_
      refine .bifD (t' := 23) rfl (fun hb23 => ?_) (fun hb23 => ?_)
      · refine .y 10 rfl hs Try.isAgg234 ?_
        refine .z 11 rfl (zfa fa_bound_step_1) ?_; refine .y 12 rfl hs Try.isAgg3 ?_; refine .z 13 rfl (zfa fa_bound_step_0) ?_; refine .y 14 rfl hs Try.isAgg3 ?_; refine .z 15 rfl (zfa fa_bound_step_2) ?_; refine .y 16 rfl hs Try.isAgg3 ?_; refine .z 17 rfl zneg ?_; refine .z 18 rfl (zfa fa_bound_step_3) ?_; refine .y 19 rfl hs Try.isAgg3 ?_; refine .z 20 rfl (zbd [_, _, _, _] bld_bound_step) ?_
        refine .e1 (i := 21) (by kernel_rfl) rfl rfl (.some rfl rfl) hs ?_
        obtain ⟨r4, r5⟩ := r2 hb23
        have hyd := hy (preN s.arcs ts k + 1) (by simpa using (List.getElem?_eq_some_iff.1 r4).1) H3 σ3 (.blk b3 x.v :: .blk b2 [.func (.yield l) #[] #[]] :: σf2) w (hle.trans (hle0.trans hle3)) hI3 (St.deep (σ1 := σ3) (St.deep (σ1 := .blk b3 x.v :: σ3) (hs.perm (.swap _ _ _))))
        rw [map_at r4] at hyd
        refine .yield (vs := [.agg x.back.v.toArray]) rfl rfl hyd ?_; rintro v35 w ⟨H4, σ4, hle4, hs, g4⟩
        obtain ⟨bb4, rfl, gT4, gF4⟩ := yd_bool g4
        replace hs : St H4 w (.blk b3 x.v :: .blk b2 [.func (.yield l) #[] #[]] :: (σ4 ++ σf2)) := (St.shallow (σ1 := .blk b3 x.v :: σ4) (St.shallow (σ1 := σ4) hs)).perm (.swap _ _ _)
        refine .go ?_
        refine .z 22 rfl znot ?_; refine .z 23 rfl zpT ?_; refine .done (by kernel_rfl) hs ?_
        refine (.cond rfl (fun hc37 => ?_) (fun hc37 => ?_))
        · refine .ret (rB (?_))
          exact ⟨H4, .blk b2 [.func (.yield l) #[] #[]] :: σ4, hle3.trans hle4, hs.tail, rfl, σ4, rfl, hle0.trans (hle3.trans hle4), gF4 (by simpa using hc37)⟩
        · refine .skip ?_
          refine nB ?_
          exact ⟨H4, .blk b2 [.func (.yield l) #[] #[]] :: σ4, hle3.trans hle4, hs.tail, σ4, rfl, hle0.trans (hle3.trans hle4), by rw [r5]; exact gT4 (by simpa using hc37)⟩
      · refine .qF (i := 10) rfl (by kernel_rfl) rfl rfl ?_
        refine .qF (i := 11) rfl (by kernel_rfl) rfl rfl ?_
        refine .qF (i := 12) rfl (by kernel_rfl) rfl rfl ?_
        refine .qF (i := 13) rfl (by kernel_rfl) rfl rfl ?_
        refine .qF (i := 14) rfl (by kernel_rfl) rfl rfl ?_
        refine .qF (i := 15) rfl (by kernel_rfl) rfl rfl ?_
        refine .qF (i := 16) rfl (by kernel_rfl) rfl rfl ?_
        refine .qF (i := 17) rfl (by kernel_rfl) rfl rfl ?_
        refine .qF (i := 18) rfl (by kernel_rfl) rfl rfl ?_
        refine .qF (i := 19) rfl (by kernel_rfl) rfl rfl ?_
        refine .qF (i := 20) rfl (by kernel_rfl) rfl rfl ?_
        refine .qF (i := 21) rfl (by kernel_rfl) rfl rfl ?_
        refine .qF (i := 22) rfl (by kernel_rfl) rfl rfl ?_
        refine .z 23 rfl zpF ?_; refine .done (by kernel_rfl) hs ?_
        refine (.condF rfl rfl ?_)
        refine .skip ?_
        refine nB ?_
        exact ⟨H3, .blk b2 [.func (.yield l) #[] #[]] :: σ3, hle3, hs.tail, σ3, rfl, hle0.trans hle3, by rw [r3 hb23]; exact hI3⟩
  · rintro D H2 σb2 w hle2 ⟨σo, rfl, hle0, hIk⟩ hs
    refine nB ?_
    exact Fin.endD [D] [] hs.shallowD fun w hs => ⟨_, results0 Try.results211, H2, σo, hle0, hs, .inl (by simpa [preN_end hlen] using hIk)⟩
  · rintro D c H2 σb2 w hle2 ⟨rfl, σo, rfl, hle0, hx⟩ hs
    exact .ret (rB (Fin.retD [D] [] hs.shallowD fun w hs => ⟨_, results0 Try.results211, H2, σo, hle0, hs, .inr hx⟩))
theorem bound_flow_rest_spec {H : Heap} {w : World} {σ : List Ent} {bf bt bl cl : Nat} {s : Syst} {ts lf : List Int} {vl : Value} {sp : List Value} (hs : St H w σ) (hok : s.Ok) (hF : FlowH H bf s ts lf vl bt bl cl sp) (hlt : ts.length = s.lims.length) :
    Cl Try.prog 195 [.pointer (some ⟨bf, 0, none⟩)] w fun v w' => ∃ H1 b, HLe H H1 ∧ v = .func (.func 211) #[] #[.pointer (some ⟨b, 0, none⟩)] ∧ ItA Try.prog 211 [.pointer (some ⟨b, 0, none⟩)] H1 (resid s.arcs ts) ∧ St H1 w' σ := by
  refine Cl.of Try.func195 rfl Try.ntmps195 (by simp) (args_cons (k := 0) rfl (args0)) ?_
  refine .regSeq ?_
  refine .o (.box hs rfl rfl ?_); intro b1 w hs
  refine .z zg (.nil (.regSeq ?_))
  refine .q hs (q_makeFunc (f := []) (c := [_]) rfl rfl) ?_
  refine .z zg (.nil ?_)
  refine .ret (Fin.ret1 Try.results195 rfl ?_)
  obtain ⟨H1, g1, g2, hs⟩ := hs.publish .here
  exact ⟨H1, b1, g1, rfl, bound_flow_rest_1_iter hok g2 (hF.mono g1) hlt, hs⟩
theorem bound_flow_way_spec {H : Heap} {w : World} {σ : List Ent} {bf bt bl cl to : Nat} {s : Syst} {ts lf : List Int} {vl : Value} {sp : List Value} (hs : St H w σ) (hok : s.Ok) (hF : FlowH H bf s ts lf vl bt bl cl sp) (hlt : ts.length = s.lims.length) (hll : lf.length = s.n)
    (hD : ∃ p, Feas (resid s.arcs ts) p) (hto : to < s.n) (hpos : 0 < gi lf to) :
    Cl Try.prog 206 [.pointer (some ⟨bf, 0, none⟩), I to] w fun v w' => ∃ H1 p en, HLe H H1 ∧ OwnS 4 v (Arcs p) en ∧ St H1 w' (en :: σ) ∧ WayR s.n s.arcs ts lf p to := by
  obtain ⟨N, hN⟩ := Int.eq_ofNat_of_zero_le hok.m0
  have hN1 := hok.m1
  have hn : s.n = N + 1 := by simp [Syst.n, hN]
  have hoka := hok.arcs
  have hlen : s.arcs.length = ts.length := by simp [Syst.arcs, arcsOf_length, hlt]
  rw [hn] at hoka hll hto ⊢
  obtain ⟨D, hg⟩ := resid_WG (by omega) (by omega) hoka hlen hD
  have hf0 : cellAt H bf 0 = some (I (N : Int)) := by have := hF.f.at 0 (v := I s.many); rwa [hN] at this
  have hf3 : cellAt H bf 3 = some (.slice (some ⟨bl, 0, none⟩) lf.length cl) := hF.f.at 3
  refine Cl.of Try.func206 rfl Try.ntmps206 (by simp) (args_cons (k := 0) rfl (args_cons (k := 1) rfl (args0))) ?_
  refine .regSeq ?_
  refine .o (.box hs rfl rfl ?_); intro b2 w hs
  refine .z zg (.nil (.regSeq ?_))
  refine .o (.buildSlice (cells := [_]) hs bls_sl_int_1 rfl rfl ?_); intro b13 w hs
  refine .y hs (zld Try.isAgg175) (.z znc (.z (zfa fa_bound_flow_0) (.z (zfa fa_api_System_0) (.y hs (zld Try.isAgg3) (.z zadd ?_)))))
  refine .o (.call Try.call192 rfl (slices_Repeat_int (z := far) (c := N + 1) hs .here (by omega) (by omega)) ?_); rintro _ w ⟨bc, rfl, hs⟩
  refine .o (.alloc hs Try.zeroValue22 rfl ?_); intro b5 w hs
  refine .o (.store hs rfl rfl Try.sizeOf22 ?_); intro w hs
  refine .nil (.regSeq (.y hs (zld Try.isAgg175) (.z znc (.z (zfa fa_bound_flow_0) (.z (zfa fa_api_System_0) (.y hs (zld Try.isAgg3) (.z zadd ?_)))))))
  refine .o (.makeA (N + 1) hs rfl rfl Try.runUnderlying198 Try.typeInfo205 rfl Try.sizeOf205 Try.zeroValue205 (by omega) ?_); intro b27 w hs
  refine .o (.alloc hs Try.zeroValue198 rfl ?_); intro b6 w hs
  refine .o (.store hs rfl rfl Try.sizeOf198 ?_); intro w hs
  refine .nil (.seq (.regSeq (.y hs (zld Try.isAgg175) (.z znc (.z (zfa fa_bound_flow_2) (.y hs (zld Try.isAgg22) (.z (zlen Try.runUnderlying22) (.z zm (.nil ?_)))))))))
  refine .for (N := lf.length) (J := fun k fr w => fr = [(31, .slice (some ⟨bl, 0, none⟩) lf.length cl), (5, .pointer (some ⟨b5, 0, none⟩)), (6, .pointer (some ⟨b6, 0, none⟩)), (2, .pointer (some ⟨b2, 0, none⟩)), (1, I to)] ∧ ∃ st, WInit (N + 1) lf k st ∧   St H w (.blk b6 [.slice (some ⟨b27, 0, none⟩) (N + 1) (N + 1)] :: .blk b27 (Arcs st.by_) :: .blk b5 [.slice (some ⟨bc, 0, none⟩) (N + 1) (N + 1)] :: .blk bc (Is st.cost) :: .blk b2 [.pointer (some ⟨bf, 0, none⟩)] :: σ)) (by omega) ?_ ?_ ?_
  · exact .mk ⟨rfl, _, .start _ _, hs.sub (by repeat (first | exact Sub.refl _ | constructor | apply Sub.weaken))⟩
  · rintro k fr w hk ⟨rfl, st, hI, hs⟩
    have hck : cellAt H bl k = some (I (gi lf k)) := hF.d.at k (Is_get (gi_get hk) sp)
    have hlc := hI.lc
    have hlb := hI.lb
    have hkb : k < st.by_.length := by omega
    refine .block (.regSeq (.z zm ?_))
    first | (refine .ixv hs Try.runUnderlying22 Try.sizeOf3 ?_; intro b36 o36 hc36) | refine .z (zix Try.runUnderlying22 Try.sizeOf3) ?_
    refine .q hs (q_loadR rfl Try.isAgg3 hck) ?_
    refine .z zg (.z zg (.nil (.regSeq (.z zm (.z zlss (.nil ?_))))))
    refine (.condD rfl (fun hc39 => ?_) (fun hc39 => ?_))
    · refine .regSeq (.y hs (zld Try.isAgg22) (.z zm ?_))
      first | (refine .ixv hs Try.runUnderlying22 Try.sizeOf3 ?_; intro b42 o42 hc42) | refine .z (zix Try.runUnderlying22 Try.sizeOf3) ?_
      refine .o (.store hs rfl rfl Try.sizeOf3 ?_); intro w hs
      refine .nil (.region (.y hs (zld Try.isAgg198) (.z zm ?_)))
      first | (refine .ixw hs Try.runUnderlying198 Try.sizeOf205 ?_; intro b45 o45 hc45) | refine .z (zixm Try.runUnderlying198 Try.sizeOf205) ?_
      refine .z (zfa fa_bound_step_3) ?_
      refine .o (.store hs rfl rfl Try.sizeOf3 ?_ (by repeat constructor) (blt_Arcs hkb (by omega)) (Arcs_set3 hkb _)); intro w hs
      refine .nil ?_
      refine nB (nT ?_)
      exact .mk ⟨rfl, _, hI.take (by omega) hc39, hs⟩
    · refine .skip ?_
      refine nB (nT ?_)
      exact .mk ⟨rfl, _, hI.skip hc39, hs⟩
  · rintro fr w ⟨rfl, st0, hI0, hs⟩
    rw [hll] at hI0
    have hW0 := hI0.inv hg
    refine nT ?_
    refine .seq (.regSeq ?_)
    refine .o (.alloc hs Try.zeroValue4 rfl ?_); intro b9 w hs
    refine .o (.store hs rfl rfl Try.sizeOf4 ?_); intro w hs
    refine .nil (.block ?_)
    refine .loop (fun p : Nat × List Nat × Heap × BS × Bool => ⟨141, marks p.2.1, [(9, .pointer (some ⟨p.1, 0, none⟩)), (5, .pointer (some ⟨b5, 0, none⟩)), (6, .pointer (some ⟨b6, 0, none⟩)), (2, .pointer (some ⟨b2, 0, none⟩)), (1, I to)]⟩)
      (fun p w => HLe H p.2.2.1 ∧ (∃ j, WInv (N + 1) (resid s.arcs ts) (fun v => gi lf v < 0) D j p.2.2.2.2 p.2.2.2.1 ∧ (p.2.2.2.2 = false → j = (resid s.arcs ts).length)) ∧
        St p.2.2.1 w (.blk p.1 [.bool p.2.2.2.2] :: .blk b6 [.slice (some ⟨b27, 0, none⟩) (N + 1) (N + 1)] :: .blk b27 (Arcs p.2.2.2.1.by_) :: .blk b5 [.slice (some ⟨bc, 0, none⟩) (N + 1) (N + 1)] :: .blk bc (Is p.2.2.2.1.cost) :: .blk b2 [.pointer (some ⟨bf, 0, none⟩)] :: (mes p.2.1 ++ σ)))
      (fun p => 2 * WM (N + 1) D p.2.2.2.1 + (if p.2.2.2.2 = true then 1 else 0)) (b9, [], H, st0, true) (by repeat (first | exact .nil rfl rfl | refine .cons rfl ?_)) ⟨HLe.refl _, ⟨0, hW0, fun h => by cases h⟩, hs⟩ ?_
    rintro ⟨b9, Ds, H1, st, ag⟩ w ⟨hle1, ⟨j, hW, hj⟩, hs⟩
    dsimp only at hle1 hW hj hs ⊢
    have hlc := hW.lc
    have hlb := hW.lb
    refine .seq (.regSeq (.y hs (zld Try.isAgg4) (.nil ?_)))
    refine (.cond rfl (fun hc48 => ?_) (fun hc48 => ?_))
    · refine .skip ?_
      refine nT ?_
      refine .seq (.block (.regSeq ?_))
      subst hc48
      refine .o (.store hs rfl rfl Try.sizeOf4 ?_); intro w hs
      refine .nil (.regSeq (.y hs (zld Try.isAgg175) ?_))
      refine .o (.call Try.call195 rfl (bound_flow_rest_spec hs hok (hF.mono hle1) hlt) ?_); rintro _ w ⟨H2, b50, hle2, rfl, hit, hs⟩
      refine .nil (.block ?_)
      refine .rangeFunc (gf := 211) (cap := [.pointer (some ⟨b50, 0, none⟩)]) (xs := (resid s.arcs ts).map fun x : Arc => [Value.agg x.v.toArray])
        (σb := [.blk b9 [.bool false], .blk b6 [.slice (some ⟨b27, 0, none⟩) (N + 1) (N + 1)], .blk b27 (Arcs st.by_), .blk b5 [.slice (some ⟨bc, 0, none⟩) (N + 1) (N + 1)], .blk bc (Is st.cost), .blk b2 [.pointer (some ⟨bf, 0, none⟩)]]) (σf := mes Ds ++ σ) hs trivial rfl hit Try.call211 (by simp) rfl
        (I := fun k H' σb => HLe H2 H' ∧ ∃ st' ag, σb = [.blk b9 [.bool ag], .blk b6 [.slice (some ⟨b27, 0, none⟩) (N + 1) (N + 1)], .blk b27 (Arcs st'.by_), .blk b5 [.slice (some ⟨bc, 0, none⟩) (N + 1) (N + 1)], .blk bc (Is st'.cost), .blk b2 [.pointer (some ⟨bf, 0, none⟩)]] ∧
          WInv (N + 1) (resid s.arcs ts) (fun v => gi lf v < 0) D k ag st' ∧ WM (N + 1) D st' ≤ WM (N + 1) D st ∧ (ag = true → WM (N + 1) D st' < WM (N + 1) D st)) (Ix := fun _ _ _ => False)
        (by rintro k _ _ σ g1 ⟨g2, g3⟩; exact ⟨g2.trans g1, g3⟩) (fun _ _ _ _ _ h => h) ⟨HLe.refl _, st, false, rfl, hW.next, Nat.le_refl _, fun h => by cases h⟩ ?_ ?_ (fun D c H' σb w _ h _ => h.elim)
      · rintro l k hk H3 σb3 σf3 w hle3 ⟨hle23, st', ag, rfl, hW', hm1, hm2⟩ hs ⟨rr, hrr⟩
        obtain ⟨x, hx⟩ := nth (l := resid s.arcs ts) (by simpa using hk)
        obtain ⟨c1, c2, c3, c4, c5, c6⟩ := hg.ok x (List.mem_of_getElem? hx)
        rw [map_at hx]
        have hlc' := hW'.lc
        have hlb' := hW'.lb
        have lo1 := hW'.lo x.f c1
        have lo2 := hg.d1 x.f c1
        have hx3 : cellAt H3 bl x.t = some (I (gi lf x.t)) := ((hF.mono (hle1.trans (hle2.trans hle3))).d).at x.t (Is_get (gi_get (by omega)) sp)
        have hf33 : cellAt H3 bf 3 = some (.slice (some ⟨bl, 0, none⟩) lf.length cl) := cellAt.mono hf3 (hle1.trans (hle2.trans hle3))
        refine .region ?_
        refine .o (.alloc hs Try.zeroValue205 rfl ?_); intro b10 w hs
        refine .o (.stores (vs := x.v) hs rfl rfl Try.sizeOf205 ?_); intro w hs
        refine .nil ?_
        refine nT ?_
        refine ⟨H3, [.blk b10 x.v, .blk b9 [.bool ag], .blk b6 [.slice (some ⟨b27, 0, none⟩) (N + 1) (N + 1)], .blk b27 (Arcs st'.by_), .blk b5 [.slice (some ⟨bc, 0, none⟩) (N + 1) (N + 1)], .blk bc (Is st'.cost), .blk b2 [.pointer (some ⟨bf, 0, none⟩)]], HLe.refl _, hs, ?_⟩; rintro w σf4 - hs
        refine .block ?_
        refine .seq (.draw mix rfl hs ?_); intro w hs
        refine .y 0 rfl hs Try.isAgg22 ?_; refine .z 1 rfl (zfa fa_bound_step_0) ?_; refine .y 2 rfl hs Try.isAgg3 ?_
        first | (refine .ixv 3 rfl hs Try.runUnderlying22 Try.sizeOf3 ?_; intro b55 o55 hc55) | refine .z 3 rfl (zix Try.runUnderlying22 Try.sizeOf3) ?_
        refine .y 4 rfl hs Try.isAgg3 ?_; refine .z 5 rfl zlss ?_; refine .z 6 rfl zm ?_
        refine .bifD (t' := 58) rfl (fun hb58 => ?_) (fun hb58 => ?_)
        · refine .y 7 rfl hs Try.isAgg22 ?_; refine .z 8 rfl (zfa fa_bound_step_0) ?_; refine .y 9 rfl hs Try.isAgg3 ?_
          first | (refine .ixv 10 rfl hs Try.runUnderlying22 Try.sizeOf3 ?_; intro b62 o62 hc62) | refine .z 10 rfl (zix Try.runUnderlying22 Try.sizeOf3) ?_
          refine .y 11 rfl hs Try.isAgg3 ?_; refine .z 12 rfl (zfa fa_bound_step_2) ?_; refine .y 13 rfl hs Try.isAgg3 ?_; refine .z 14 rfl zadd ?_; refine .y 15 rfl hs Try.isAgg22 ?_; refine .z 16 rfl (zfa fa_bound_step_1) ?_; refine .y 17 rfl hs Try.isAgg3 ?_
          first | (refine .ixv 18 rfl hs Try.runUnderlying22 Try.sizeOf3 ?_; intro b70 o70 hc70) | refine .z 18 rfl (zix Try.runUnderlying22 Try.sizeOf3) ?_
          refine .y 19 rfl hs Try.isAgg3 ?_; refine .z 20 rfl zlss ?_; refine .z 21 rfl zpT ?_; refine .z 22 rfl zm ?_
          refine .bifD (t' := 74) rfl (fun hb74 => ?_) (fun hb74 => ?_)
          · refine .y 23 rfl hs Try.isAgg175 ?_; refine .z 24 rfl znc ?_; refine .z 25 rfl (zfa fa_bound_flow_2) ?_; refine .y 26 rfl hs Try.isAgg22 ?_; refine .z 27 rfl (zfa fa_bound_step_1) ?_; refine .y 28 rfl hs Try.isAgg3 ?_
            first | (refine .ixv 29 rfl hs Try.runUnderlying22 Try.sizeOf3 ?_; intro b81 o81 hc81) | refine .z 29 rfl (zix Try.runUnderlying22 Try.sizeOf3) ?_
            refine .y 30 rfl hs Try.isAgg3 ?_; refine .z 31 rfl zgeq ?_; refine .z 32 rfl zm ?_
            refine .bifD (t' := 84) rfl (fun hb84 => ?_) (fun hb84 => ?_)
            · refine .qF (i := 33) rfl (by kernel_rfl) rfl rfl ?_
              refine .qF (i := 34) rfl (by kernel_rfl) rfl rfl ?_
              refine .qF (i := 35) rfl (by kernel_rfl) rfl rfl ?_
              refine .qF (i := 36) rfl (by kernel_rfl) rfl rfl ?_
              refine .qF (i := 37) rfl (by kernel_rfl) rfl rfl ?_
              refine .qF (i := 38) rfl (by kernel_rfl) rfl rfl ?_
              refine .qF (i := 39) rfl (by kernel_rfl) rfl rfl ?_
              refine .qF (i := 40) rfl (by kernel_rfl) rfl rfl ?_
              refine .qF (i := 41) rfl (by kernel_rfl) rfl rfl ?_
              refine .z 42 rfl zpT ?_; refine .z 43 rfl zpT ?_; refine .done (by kernel_rfl) hs ?_
              refine (.condT rfl rfl ?_)
              refine .draw mix rfl hs ?_; intro w hs
              refine .y 0 rfl hs Try.isAgg22 ?_; refine .z 1 rfl (zfa fa_bound_step_1) ?_; refine .y 2 rfl hs Try.isAgg3 ?_; refine .y 3 rfl hs Try.isAgg198 ?_; refine .z 4 rfl (zfa fa_bound_step_1) ?_; refine .y 5 rfl hs Try.isAgg3 ?_; refine .y 6 rfl hs Try.isAgg22 ?_; refine .z 7 rfl (zfa fa_bound_step_0) ?_; refine .y 8 rfl hs Try.isAgg3 ?_
              first | (refine .ixv 9 rfl hs Try.runUnderlying22 Try.sizeOf3 ?_; intro b105 o105 hc105) | refine .z 9 rfl (zix Try.runUnderlying22 Try.sizeOf3) ?_
              refine .y 10 rfl hs Try.isAgg3 ?_; refine .z 11 rfl (zfa fa_bound_step_2) ?_; refine .y 12 rfl hs Try.isAgg3 ?_; refine .z 13 rfl zadd ?_
              refine .loads (i := 14) (vs := x.v) hs rfl (by kernel_rfl) .none rfl Try.isAgg205 Try.sizeOf205 ?_
              first | (refine .ixv 15 rfl hs Try.runUnderlying22 Try.sizeOf3 ?_; intro b111 o111 hc111) | refine .z 15 rfl (zix Try.runUnderlying22 Try.sizeOf3) ?_
              refine .e1 (i := 16) (by kernel_rfl) rfl rfl .none hs ?_
              refine .store hs rfl rfl Try.sizeOf3 ?_; intro w hs
              refine .go ?_
              first | (refine .ixw 17 rfl hs Try.runUnderlying198 Try.sizeOf205 ?_; intro b112 o112 hc112) | refine .z 17 rfl (zixm Try.runUnderlying198 Try.sizeOf205) ?_
              refine .e1 (i := 18) (by kernel_rfl) rfl rfl .none hs ?_
              refine .stores (vs := x.v) hs rfl rfl Try.sizeOf205 ?_; intro w hs
              refine .go ?_
              refine .e1 (i := 19) (by kernel_rfl) rfl rfl .none hs ?_
              refine .store hs rfl rfl Try.sizeOf4 ?_; intro w hs
              refine .go ?_
              refine .done (by kernel_rfl) hs ?_
              refine nB ?_
              have := hW'.less hg hx hb58 hb74
              exact ⟨H3, _, HLe.refl _, hs.tail, hle23, st'.rlx x, true, rfl, hW'.relax hg hx hb58 hb74, by omega, fun _ => by omega⟩
            · refine .y 33 rfl hs Try.isAgg22 ?_; refine .z 34 rfl (zfa fa_bound_step_0) ?_; refine .y 35 rfl hs Try.isAgg3 ?_
              first | (refine .ixv 36 rfl hs Try.runUnderlying22 Try.sizeOf3 ?_; intro b88 o88 hc88) | refine .z 36 rfl (zix Try.runUnderlying22 Try.sizeOf3) ?_
              refine .y 37 rfl hs Try.isAgg3 ?_; refine .z 38 rfl (zfa fa_bound_step_2) ?_; refine .y 39 rfl hs Try.isAgg3 ?_; refine .z 40 rfl zadd ?_; refine .z 41 rfl zlss ?_; refine .z 42 rfl zpF ?_; refine .z 43 rfl zpT ?_; refine .done (by kernel_rfl) hs ?_
              refine (.condD rfl (fun hc95 => ?_) (fun hc95 => ?_))
              · refine .draw mix rfl hs ?_; intro w hs
                refine .y 0 rfl hs Try.isAgg22 ?_; refine .z 1 rfl (zfa fa_bound_step_1) ?_; refine .y 2 rfl hs Try.isAgg3 ?_; refine .y 3 rfl hs Try.isAgg198 ?_; refine .z 4 rfl (zfa fa_bound_step_1) ?_; refine .y 5 rfl hs Try.isAgg3 ?_; refine .y 6 rfl hs Try.isAgg22 ?_; refine .z 7 rfl (zfa fa_bound_step_0) ?_; refine .y 8 rfl hs Try.isAgg3 ?_
                first | (refine .ixv 9 rfl hs Try.runUnderlying22 Try.sizeOf3 ?_; intro b105 o105 hc105) | refine .z 9 rfl (zix Try.runUnderlying22 Try.sizeOf3) ?_
                refine .y 10 rfl hs Try.isAgg3 ?_; refine .z 11 rfl (zfa fa_bound_step_2) ?_; refine .y 12 rfl hs Try.isAgg3 ?_; refine .z 13 rfl zadd ?_
                refine .loads (i := 14) (vs := x.v) hs rfl (by kernel_rfl) .none rfl Try.isAgg205 Try.sizeOf205 ?_
                first | (refine .ixv 15 rfl hs Try.runUnderlying22 Try.sizeOf3 ?_; intro b111 o111 hc111) | refine .z 15 rfl (zix Try.runUnderlying22 Try.sizeOf3) ?_
                refine .e1 (i := 16) (by kernel_rfl) rfl rfl .none hs ?_
                refine .store hs rfl rfl Try.sizeOf3 ?_; intro w hs
                refine .go ?_
                first | (refine .ixw 17 rfl hs Try.runUnderlying198 Try.sizeOf205 ?_; intro b112 o112 hc112) | refine .z 17 rfl (zixm Try.runUnderlying198 Try.sizeOf205) ?_
                refine .e1 (i := 18) (by kernel_rfl) rfl rfl .none hs ?_
                refine .stores (vs := x.v) hs rfl rfl Try.sizeOf205 ?_; intro w hs
                refine .go ?_
                refine .e1 (i := 19) (by kernel_rfl) rfl rfl .none hs ?_
                refine .store hs rfl rfl Try.sizeOf4 ?_; intro w hs
                refine .go ?_
                refine .done (by kernel_rfl) hs ?_
                refine nB ?_
                have := hW'.less hg hx hb58 hb74
                exact ⟨H3, _, HLe.refl _, hs.tail, hle23, st'.rlx x, true, rfl, hW'.relax hg hx hb58 hb74, by omega, fun _ => by omega⟩
              · refine .skip ?_
                refine nB ?_
                have := hW'.src x.t c2 (by omega)
                omega
          · refine .qF (i := 23) rfl (by kernel_rfl) rfl rfl ?_
            refine .qF (i := 24) rfl (by kernel_rfl) rfl rfl ?_
            refine .qF (i := 25) rfl (by kernel_rfl) rfl rfl ?_
            refine .qF (i := 26) rfl (by kernel_rfl) rfl rfl ?_
            refine .qF (i := 27) rfl (by kernel_rfl) rfl rfl ?_
            refine .qF (i := 28) rfl (by kernel_rfl) rfl rfl ?_
            refine .qF (i := 29) rfl (by kernel_rfl) rfl rfl ?_
            refine .qF (i := 30) rfl (by kernel_rfl) rfl rfl ?_
            refine .qF (i := 31) rfl (by kernel_rfl) rfl rfl ?_
            refine .qF (i := 32) rfl (by kernel_rfl) rfl rfl ?_
            refine .qF (i := 33) rfl (by kernel_rfl) rfl rfl ?_
            refine .qF (i := 34) rfl (by kernel_rfl) rfl rfl ?_
            refine .qF (i := 35) rfl (by kernel_rfl) rfl rfl ?_
            refine .qF (i := 36) rfl (by kernel_rfl) rfl rfl ?_
            refine .qF (i := 37) rfl (by kernel_rfl) rfl rfl ?_
            refine .qF (i := 38) rfl (by kernel_rfl) rfl rfl ?_
            refine .qF (i := 39) rfl (by kernel_rfl) rfl rfl ?_
            refine .qF (i := 40) rfl (by kernel_rfl) rfl rfl ?_
            refine .qF (i := 41) rfl (by kernel_rfl) rfl rfl ?_
            refine .qF (i := 42) rfl (by kernel_rfl) rfl rfl ?_
            refine .z 43 rfl zpF ?_; refine .done (by kernel_rfl) hs ?_
            refine (.condF rfl rfl ?_)
            refine .skip ?_
            refine nB ?_
            exact ⟨H3, _, HLe.refl _, hs.tail, hle23, st', ag, rfl, hW'.skip hx (fun h => hb74 h.2), hm1, hm2⟩
        · refine .qF (i := 7) rfl (by kernel_rfl) rfl rfl ?_
          refine .qF (i := 8) rfl (by kernel_rfl) rfl rfl ?_
          refine .qF (i := 9) rfl (by kernel_rfl) rfl rfl ?_
          refine .qF (i := 10) rfl (by kernel_rfl) rfl rfl ?_
          refine .qF (i := 11) rfl (by kernel_rfl) rfl rfl ?_
          refine .qF (i := 12) rfl (by kernel_rfl) rfl rfl ?_
          refine .qF (i := 13) rfl (by kernel_rfl) rfl rfl ?_
          refine .qF (i := 14) rfl (by kernel_rfl) rfl rfl ?_
          refine .qF (i := 15) rfl (by kernel_rfl) rfl rfl ?_
          refine .qF (i := 16) rfl (by kernel_rfl) rfl rfl ?_
          refine .qF (i := 17) rfl (by kernel_rfl) rfl rfl ?_
          refine .qF (i := 18) rfl (by kernel_rfl) rfl rfl ?_
          refine .qF (i := 19) rfl (by kernel_rfl) rfl rfl ?_
          refine .qF (i := 20) rfl (by kernel_rfl) rfl rfl ?_
          refine .z 21 rfl zpF ?_; refine .z 22 rfl zm ?_
          refine .qF (i := 23) rfl (by kernel_rfl) rfl rfl ?_
          refine .qF (i := 24) rfl (by kernel_rfl) rfl rfl ?_
          refine .qF (i := 25) rfl (by kernel_rfl) rfl rfl ?_
          refine .qF (i := 26) rfl (by kernel_rfl) rfl rfl ?_
          refine .qF (i := 27) rfl (by kernel_rfl) rfl rfl ?_
          refine .qF (i := 28) rfl (by kernel_rfl) rfl rfl ?_
          refine .qF (i := 29) rfl (by kernel_rfl) rfl rfl ?_
          refine .qF (i := 30) rfl (by kernel_rfl) rfl rfl ?_
          refine .qF (i := 31) rfl (by kernel_rfl) rfl rfl ?_
          refine .qF (i := 32) rfl (by kernel_rfl) rfl rfl ?_
          refine .qF (i := 33) rfl (by kernel_rfl) rfl rfl ?_
          refine .qF (i := 34) rfl (by kernel_rfl) rfl rfl ?_
          refine .qF (i := 35) rfl (by kernel_rfl) rfl rfl ?_
          refine .qF (i := 36) rfl (by kernel_rfl) rfl rfl ?_
          refine .qF (i := 37) rfl (by kernel_rfl) rfl rfl ?_
          refine .qF (i := 38) rfl (by kernel_rfl) rfl rfl ?_
          refine .qF (i := 39) rfl (by kernel_rfl) rfl rfl ?_
          refine .qF (i := 40) rfl (by kernel_rfl) rfl rfl ?_
          refine .qF (i := 41) rfl (by kernel_rfl) rfl rfl ?_
          refine .qF (i := 42) rfl (by kernel_rfl) rfl rfl ?_
          refine .z 43 rfl zpF ?_; refine .done (by kernel_rfl) hs ?_
          refine (.condF rfl rfl ?_)
          refine .skip ?_
          refine nB ?_
          exact ⟨H3, _, HLe.refl _, hs.tail, hle23, st', ag, rfl, hW'.skip hx (fun h => hb58 h.1), hm1, hm2⟩
      · rintro D3 H3 σb3 w hle3 ⟨hle23, st', ag, rfl, hW', hm1, hm2⟩ hs
        replace hs : St H3 w (.blk b9 [.bool ag] :: .blk b6 [.slice (some ⟨b27, 0, none⟩) (N + 1) (N + 1)] :: .blk b27 (Arcs st'.by_) :: .blk b5 [.slice (some ⟨bc, 0, none⟩) (N + 1) (N + 1)] :: .blk bc (Is st'.cost) :: .blk b2 [.pointer (some ⟨bf, 0, none⟩)] :: (mes (D3 :: Ds) ++ σ)) := St.deep (σ1 := [_, _, _, _, _, _]) hs
        rw [List.length_map] at hW'
        refine nB (nB (nT ?_))
        refine .regSeq (.y hs (zld Try.isAgg4) (.nil (.region ?_)))
        refine .o (.alloc hs Try.zeroValue4 rfl ?_); intro b9 w hs
        refine .o (.store hs rfl rfl Try.sizeOf4 ?_); intro w hs
        refine .nil ?_
        refine nT ?_
        exact ⟨(b9, D3 :: Ds, H3, st', ag), by repeat (first | exact .nil rfl rfl | refine .cons rfl ?_), ⟨hle1.trans (hle2.trans hle3), ⟨_, hW', fun _ => rfl⟩, hs.sub (by repeat (first | exact Sub.refl _ | constructor | apply Sub.weaken))⟩, by
            dsimp only
            cases ag with
            | false => simp; omega
            | true => have := hm2 rfl; simp; omega⟩
    · refine .exit ?_
      refine xT (xT (xB (nT ?_)))
      refine .seq (.regSeq ?_)
      subst hc48
      obtain rfl := hj rfl
      refine .y hs (zld Try.isAgg22) (.z zm ?_)
      first | (refine .ixv hs Try.runUnderlying22 Try.sizeOf3 ?_; intro b116 o116 hc116) | refine .z (zix Try.runUnderlying22 Try.sizeOf3) ?_
      refine .y hs (zld Try.isAgg3) (.z zeql (.nil ?_))
      refine (.condD rfl (fun hc118 => ?_) (fun hc118 => ?_))
      · refine .regSeq (.z zg (.nil ?_))
        refine .ret (rT (?_))
        refine Fin.retD Ds [_, _, _, _, _, _] hs fun w hs => ⟨_, results1 Try.results206 rfl, H1, [], .nul, hle1, .nil 4 none, (hs.sub (by repeat (first | exact Sub.refl _ | constructor | apply Sub.weaken))).nul, hW.none hg hc118⟩
      · refine .skip ?_
        refine nT ?_
        refine .regSeq (.z zg (.nil (.seq (.regSeq (.z zm (.z zg (.nil (.block ?_))))))))
        have hreach : gi st.cost to < far := by have := hW.top to hto; have e : far = 1152921504606846976 := rfl; omega
        obtain ⟨kk, cc, u, hbk, hroot, hkn, hk0, hcl, hway⟩ := hW.back hg hto hreach hpos
        refine .loop (fun p : Nat × Nat × Value × Ent => ⟨141, marks Ds, [(11, p.2.2.1), (12, I p.2.1), (6, .pointer (some ⟨b6, 0, none⟩))]⟩)
          (fun p w => p.1 ≤ kk ∧ (p.2.1 < N + 1 ∧ gi st.cost p.2.1 < far) ∧ OwnS 4 p.2.2.1 (Arcs (trail st.by_ to p.1)) p.2.2.2 ∧ (∃ d, Back st.by_ to p.1 d p.2.1) ∧ (∃ d, Back st.by_ p.2.1 (kk - p.1) d u) ∧
            St H1 w (p.2.2.2 :: .blk b9 [.bool false] :: .blk b6 [.slice (some ⟨b27, 0, none⟩) (N + 1) (N + 1)] :: .blk b27 (Arcs st.by_) :: .blk b5 [.slice (some ⟨bc, 0, none⟩) (N + 1) (N + 1)] :: .blk bc (Is st.cost) :: .blk b2 [.pointer (some ⟨bf, 0, none⟩)] :: (mes Ds ++ σ)))
          (fun p => kk - p.1) (0, to, .slice none 0 0, .nul) (by repeat (first | exact .nil rfl rfl | refine .cons rfl ?_)) ⟨Nat.zero_le _, ⟨hto, hreach⟩, .nil 4 none, ⟨0, .nil⟩, ⟨cc, hbk⟩, hs.nul⟩ ?_
        rintro ⟨i, v, v11, en⟩ w ⟨hik, ⟨hv1, hv2⟩, hO, ⟨d1, hb1⟩, ⟨d2, hb2⟩, hs⟩
        dsimp only at hik hv1 hv2 hO hb1 hb2 hs ⊢
        have hvb : v < st.by_.length := by omega
        refine .seq (.regSeq (.y hs (zld Try.isAgg198) (.z zm ?_)))
        first | (refine .ixw hs Try.runUnderlying198 Try.sizeOf205 ?_; intro b122 o122 hc122) | refine .z (zixm Try.runUnderlying198 Try.sizeOf205) ?_
        refine .z (zfa fa_bound_step_3) ?_
        refine .q hs (q_load rfl Try.isAgg3 (hv := (Arcs_get hvb (j := 3) (by omega)).trans rfl)) ?_
        refine .z zgeq (.nil ?_)
        refine (.condD rfl (fun hc125 => ?_) (fun hc125 => ?_))
        · refine .skip ?_
          refine nT ?_
          refine .seq (.block (.region (.z zm (.y hs (zld Try.isAgg198) (.z zm ?_)))))
          first | (refine .ixw hs Try.runUnderlying198 Try.sizeOf205 ?_; intro b134 o134 hc134) | refine .z (zixm Try.runUnderlying198 Try.sizeOf205) ?_
          refine .q hs (q_loads (vs := (ga st.by_ v).v) rfl Try.isAgg205 Try.sizeOf205 (hv := Arcs_sub hvb)) ?_
          refine .o (.buildSlice (cells := (ga st.by_ v).v) hs bls_sl_bound_step_1 rfl rfl ?_); intro b136 w hs
          refine .o (.append (ys := (ga st.by_ v).v) hs app_sl_bound_step_bound_step rfl rfl hO (.own .here rfl rfl) (by simp [Arc.v, Value.oneCell']) (fun l h => by rw [Arcs_length, trail_length] at h; omega) ?_); intro v137 en137 w hO2 hs
          refine .z zg (.nil ?_)
          refine nB (nT ?_)
          refine .region (.y hs (zld Try.isAgg198) (.z zm ?_))
          first | (refine .ixw hs Try.runUnderlying198 Try.sizeOf205 ?_; intro b128 o128 hc128) | refine .z (zixm Try.runUnderlying198 Try.sizeOf205) ?_
          refine .z (zfa fa_bound_step_0) ?_
          refine .q hs (q_load rfl Try.isAgg3 (hv := (Arcs_get hvb (j := 0) (by omega)).trans rfl)) ?_
          refine .z zg (.nil ?_)
          refine nT ?_
          obtain ⟨g1, g2⟩ := hcl v hv1 hv2 hc125
          obtain ⟨m, hm⟩ : ∃ m, kk - i = m + 1 := by
            refine ⟨kk - i - 1, ?_⟩
            rcases Nat.lt_or_ge i kk with h | h
            · omega
            · obtain e : kk - i = 0 := by omega
              rw [e] at hb2
              cases hb2
              omega
          rw [hm] at hb2
          obtain ⟨d3, hb3⟩ : ∃ d, Back st.by_ (ga st.by_ v).f m d u := by cases hb2 with | cons _ t => exact ⟨_, t⟩
          rw [← Arcs_snoc, ← trail_succ hb1] at hO2
          exact ⟨(i + 1, (ga st.by_ v).f, v137, en137), by repeat (first | exact .nil rfl rfl | refine .cons rfl ?_), ⟨by dsimp only; omega, ⟨g1, g2⟩, hO2, ⟨_, hb1.trans (.cons hc125 .nil)⟩, ⟨d3, by rw [show kk - (i + 1) = m by omega]; exact hb3⟩, hs.sub (by repeat (first | exact Sub.refl _ | constructor | apply Sub.weaken))⟩, by dsimp only; omega⟩
        · refine .exit ?_
          refine xT (xT (xB (nT ?_)))
          refine .regSeq ?_
          obtain rfl : i = kk := by
            rcases Nat.lt_or_ge i kk with h | h
            · obtain ⟨m, hm⟩ : ∃ m, kk - i = m + 1 := ⟨kk - i - 1, by omega⟩
              rw [hm] at hb2
              cases hb2 with
              | cons hl _ => omega
            · omega
          refine .z zm ?_
          refine .o (.call Try.call216 rfl (slices_Reverse_step hs hO (by rw [trail_length]; omega)) ?_); rintro v139 w ⟨en', hO', hs⟩
          refine .nil (.regSeq (.z zm (.z zg (.nil ?_))))
          refine .ret ?_
          refine Fin.retD Ds [_, _, _, _, _, _, _] hs fun w hs => ⟨_, results1 Try.results206 rfl, H1, _, en', hle1, hO', hs.sub (by repeat (first | exact Sub.refl _ | constructor | apply Sub.weaken)), hway _ rfl⟩
end Go.Proofs.Ytiiokdeehlfeeaa

namespace Go.Proofs.Ytiiokdeehlfeeaa
open Go.MW
theorem OfEs_lim {s : Syst} {x : Arc} (hok : s.Ok) (hx : OfEs s.arcs x) : ∃ (i : Nat) (l : Lim), s.lims[i]? = some l ∧ x.l = (i : Int) ∧ (l.A = (x.f : Int) ↔ fwd s.arcs x) ∧ i < s.lims.length := by
  obtain ⟨i, y, h1, h2⟩ := hx
  have hl := arcsOf_l h1
  have hlt : i < s.lims.length := by have := (List.getElem?_eq_some_iff.1 h1).1; simpa [Syst.arcs, arcsOf_length] using this
  obtain ⟨l, hl2⟩ := nth hlt
  have h3 := arcsOf_get hl2
  have h1' : (arcsOf s.lims)[i]? = some y := h1
  rw [h3] at h1'
  cases h1'
  obtain ⟨a1, a2, _⟩ := hok.arc (List.mem_of_getElem? hl2) i
  refine ⟨i, l, hl2, ?_, ?_, hlt⟩
  · rcases h2 with rfl | rfl <;> rfl
  · have hg : ga s.arcs i = l.arc i := by simp [ga, Syst.arcs, h3]
    have hxl : x.l.toNat = i := by rcases h2 with rfl | rfl <;> rfl
    unfold fwd
    rw [hxl, hg, ← a1]
    exact ⟨fun e => by exact_mod_cast e, fun e => by exact_mod_cast e⟩
theorem bound_flow_along_spec {H : Heap} {w : World} {σ : List Ent} {bf : Nat} {s : Syst} {vl vt vd : Value} {x : Arc} (hs : St H w σ) (hok : s.Ok) (hf : Row H bf [I s.many, vl, vt, vd]) (hl : RL H vl s.lims) (hx : OfEs s.arcs x) :
    Cl Try.prog 217 [.pointer (some ⟨bf, 0, none⟩), .agg x.v.toArray] w fun v w' => v = .bool (decide (fwd s.arcs x)) ∧ St H w' σ := by
  obtain ⟨i, l, hl1, hxl, hfw, hil⟩ := OfEs_lim hok hx
  have hf1 : cellAt H bf 1 = some vl := hf.at 1
  refine Cl.of Try.func217 rfl Try.ntmps217 (by simp) (args_cons (k := 0) rfl (args_cons (k := 1) rfl (args0))) ?_
  refine .regSeq ?_
  refine .o (.box hs rfl rfl ?_); intro b3 w hs
  refine .z zg (.nil ?_)
  refine .seq (.draw mix rfl hs ?_); intro w hs
  refine .z 0 rfl zm ?_; refine .z 1 rfl znc ?_; refine .z 2 rfl (zfa fa_bound_flow_0) ?_; refine .z 3 rfl (zfa fa_api_System_1) ?_; refine .y 4 rfl hs Try.isAgg30 ?_; refine .z 5 rfl (zfa fa_bound_step_3) ?_; refine .y 6 rfl hs Try.isAgg3 ?_
  refine .ixX (i := 7) hs rfl (by kernel_rfl) .none hl rfl rfl Try.runUnderlying30 Try.sizeOf100 hl1 hxl ?_; intro b12 o12 hc12
  have hA : cellAt H b12 o12 = some (I l.A) := hc12.get 0 rfl
  refine .z 8 rfl (zfa fa_api_Limit_0) ?_; refine .y 9 rfl hs Try.isAgg3 ?_; refine .z 10 rfl (zfa fa_bound_step_0) ?_; refine .y 11 rfl hs Try.isAgg3 ?_; refine .z 12 rfl zeql ?_; refine .z 13 rfl zg ?_; refine .done (by kernel_rfl) hs ?_
  refine .ret (Fin.ret1 Try.results217 rfl ?_)
  exact ⟨by simp only [decide_eq_decide.2 hfw], hs.out⟩
theorem bound_flow_send_spec {H : Heap} {w : World} {σ : List Ent} {bf bt bl cl u v : Nat} {s : Syst} {ts lf : List Int} {wt : Nat → Int} {vl vp : Value} {sp : List Value} {p : List Arc} (hs : St H w (.blk bt (Is ts) :: .blk bl (Is lf ++ sp) :: σ)) (hok : s.Ok)
    (hf : Row H bf [I s.many, vl, .slice (some ⟨bt, 0, none⟩) ts.length ts.length, .slice (some ⟨bl, 0, none⟩) lf.length cl]) (hl : RL H vl s.lims) (hp : RS H 4 vp (p.map Arc.v)) (hI : FInv s.n s.arcs wt ts lf) (hw : WayP s.arcs ts lf s.n p u v) (hpn : p ≠ []) (hpl : p.length < s.n) :
    Cl Try.prog 207 [.pointer (some ⟨bf, 0, none⟩), vp] w fun _ w' => St H w' (.blk bt (Is (pushes s.arcs (much s.arcs ts lf p u v) ts p)) :: .blk bl (Is (lfTo lf (much s.arcs ts lf p u v) u v) ++ sp) :: σ) := by
  have hN1 := hok.m1
  have hn65 : s.n ≤ 65 := by simp only [Syst.n]; have := hok.m0; omega
  have hnum : Numb s.arcs := fun i x hx => ⟨arcsOf_l hx, (hok.arcs.2 x (List.mem_of_getElem? hx)).2.2.2.2.2⟩
  have hlt := hI.lt
  have hll := hI.ll
  obtain ⟨m0, m1, m2, m3⟩ := much_pos hlt.symm hnum hw
  have hsu := hI.sg u hw.un
  have hsv := hI.sg v hw.vn
  have hun : u < lf.length := by rw [hll]; exact hw.un
  have hvn : v < lf.length := by rw [hll]; exact hw.vn
  obtain ⟨a, cap, hvp⟩ := hp.shape
  rw [List.length_map] at hvp
  subst hvp
  have hp0 : 0 < p.length := List.length_pos_iff.2 hpn
  obtain ⟨x0, hx0⟩ := nth hp0
  obtain ⟨x1, hx1⟩ := nth (l := p) (k := p.length - 1) (by omega)
  have hh := hw.ch.head hx0
  have hla := hw.ch.last hx1
  have hf2 : cellAt H bf 2 = some (.slice (some ⟨bt, 0, none⟩) ts.length ts.length) := hf.at 2
  have hf3 : cellAt H bf 3 = some (.slice (some ⟨bl, 0, none⟩) lf.length cl) := hf.at 3
  have hix : ∀ x ∈ p, OfEs s.arcs x ∧ x.l.toNat < ts.length ∧ x.l = (x.l.toNat : Int) := fun x hx => by
    obtain ⟨g1, g2, _⟩ := of_resid hlt.symm hnum (hw.mem x hx)
    obtain ⟨i, l, _, g3, _⟩ := OfEs_lim hok g1
    exact ⟨g1, g2, by rw [g3]; simp⟩
  simp only [FF] at hsu hsv
  have huv : v ≠ u := fun e => by have := hw.lu; have := hw.lv; rw [e] at *; omega
  have htt : ∀ i < ts.length, 0 ≤ gi ts i ∧ gi ts i ≤ 3600000000000 := fun i hi => by
    have h1 := hI.nn i (by omega)
    have h2 := hI.tb i (by omega)
    have h3 : 0 ≤ rem s.n lf := sumTo_nonneg fun v _ => by omega
    simp only [FF] at h2
    omega
  have hM : much s.arcs ts lf p u v = least s.arcs ts (min (-gi lf u) (gi lf v)) p := rfl
  generalize much s.arcs ts lf p u v = M at *
  have hgv : gi (lf.set u (gi lf u + M)) v = gi lf v := by rw [gi_set hun, if_neg huv]
  refine Cl.of Try.func207 rfl Try.ntmps207 (by simp) (args_cons (k := 0) rfl (args_cons (k := 1) rfl (args0))) ?_
  refine .seq (.draw mix rfl hs ?_); intro w hs
  refine .z 0 rfl zm ?_
  refine .ixX (i := 1) hs rfl (by kernel_rfl) .none hp rfl rfl Try.runUnderlying198 Try.sizeOf205 hx0 rfl ?_; intro b12 o12 hc12
  have h14 : cellAt H b12 (o12 + 0) = some (I u) := by rw [← hh]; exact hc12.get 0 rfl
  refine .z 2 rfl (zfa fa_bound_step_0) ?_; refine .y 3 rfl hs Try.isAgg3 ?_; refine .z 4 rfl zm ?_; refine .z 5 rfl zm ?_; refine .z 6 rfl (zlen Try.runUnderlying198) ?_; refine .z 7 rfl zsub ?_
  refine .ixX (i := 8) hs rfl (by kernel_rfl) .none hp rfl rfl Try.runUnderlying198 Try.sizeOf205 hx1 (by omega) ?_; intro b19 o19 hc19
  have h21 : cellAt H b19 (o19 + 1) = some (I v) := by rw [← hla]; exact hc19.get 1 rfl
  refine .z 9 rfl (zfa fa_bound_step_1) ?_; refine .y 10 rfl hs Try.isAgg3 ?_; refine .z 11 rfl zg ?_; refine .z 12 rfl zg ?_; refine .done (by kernel_rfl) hs ?_
  refine .seq (.draw mix rfl hs ?_); intro w hs
  refine .z 0 rfl zm ?_; refine .z 1 rfl znc ?_; refine .z 2 rfl (zfa fa_bound_flow_2) ?_; refine .y 3 rfl hs Try.isAgg22 ?_; refine .z 4 rfl zm ?_
  first | (refine .ixv 5 rfl hs Try.runUnderlying22 Try.sizeOf3 ?_; intro b27 o27 hc27) | refine .z 5 rfl (zix Try.runUnderlying22 Try.sizeOf3) ?_
  refine .load (i := 6) hs rfl (by kernel_rfl) .none rfl Try.isAgg3 ?_ (hv := Is_gi_sp hun sp)
  refine .z 7 rfl zneg ?_; refine .z 8 rfl zm ?_; refine .z 9 rfl znc ?_; refine .z 10 rfl (zfa fa_bound_flow_2) ?_; refine .y 11 rfl hs Try.isAgg22 ?_; refine .z 12 rfl zm ?_
  first | (refine .ixv 13 rfl hs Try.runUnderlying22 Try.sizeOf3 ?_; intro b35 o35 hc35) | refine .z 13 rfl (zix Try.runUnderlying22 Try.sizeOf3) ?_
  refine .load (i := 14) hs rfl (by kernel_rfl) .none rfl Try.isAgg3 ?_ (hv := Is_gi_sp hvn sp)
  refine .z 15 rfl zmin ?_; refine .z 16 rfl zg ?_; refine .done (by kernel_rfl) hs ?_
  refine .seq (.regSeq (.z zm (.z (zlen Try.runUnderlying198) (.z zm (.nil ?_)))))
  refine .for (N := p.length) (J := fun k fr w => fr = [(38, .slice a p.length cap), (6, I (least s.arcs ts (min (-gi lf u) (gi lf v)) (p.take k))), (0, .pointer (some ⟨bf, 0, none⟩)), (1, .slice a p.length cap), (4, I u), (5, I v)] ∧   St H w (.blk bt (Is ts) :: .blk bl (Is lf ++ sp) :: σ)) (by omega) ?_ ?_ ?_
  · exact .mk ⟨rfl, hs⟩
  · rintro k fr w hk ⟨rfl, hs⟩
    obtain ⟨x, hx⟩ := nth hk
    obtain ⟨g1, g2, g3⟩ := hix x (List.mem_of_getElem? hx)
    refine .block (.regSeq ?_)
    refine .ixX hs hp rfl rfl Try.runUnderlying198 Try.sizeOf205 hx rfl ?_; intro b42 o42 hc42
    refine .q hs (q_loadsR (vs := x.v) rfl Try.isAgg205 Try.sizeOf205 hc42) ?_
    refine .o (.alloc hs Try.zeroValue205 rfl ?_); intro b8 w hs
    refine .o (.stores (vs := x.v) hs rfl rfl Try.sizeOf205 ?_); intro w hs
    refine .nil (.regSeq (.z zm ?_))
    refine .q hs (q_loads (vs := x.v) rfl Try.isAgg205 Try.sizeOf205) ?_
    refine .o (.call Try.call217 rfl (bound_flow_along_spec hs hok hf hl g1) ?_); rintro _ w ⟨rfl, hs⟩
    refine .z znot (.nil ?_)
    refine (.cond rfl (fun hc47 => ?_) (fun hc47 => ?_))
    · refine .draw mix rfl hs ?_; intro w hs
      refine .z 0 rfl zm ?_; refine .z 1 rfl zm ?_; refine .z 2 rfl znc ?_; refine .z 3 rfl (zfa fa_bound_flow_1) ?_; refine .y 4 rfl hs Try.isAgg22 ?_; refine .z 5 rfl (zfa fa_bound_step_3) ?_; refine .y 6 rfl hs Try.isAgg3 ?_
      refine .p (i := 7) rfl (by kernel_rfl) .none (q_ixO (k := x.l.toNat) rfl rfl Try.runUnderlying22 Try.sizeOf3 g3 g2) ?_
      refine .y 8 rfl hs Try.isAgg3 ?_; refine .z 9 rfl zmin ?_; refine .z 10 rfl zg ?_; refine .done (by kernel_rfl) hs ?_
      refine nB (nT ?_)
      have e : min (least s.arcs ts (min (-gi lf u) (gi lf v)) (p.take k)) (gi ts x.l.toNat) = least s.arcs ts (min (-gi lf u) (gi lf v)) (p.take (k + 1)) := by rw [take_snoc hx, least_snoc, if_neg (by simpa using hc47)]
      exact .mk ⟨rfl, hs.tail⟩ (hs := .cons rfl (.cons rfl (.cons rfl (.consI rfl e (.cons rfl (.cons rfl (.cons rfl (.cons rfl (.nil rfl rfl)))))))))
    · refine .skip ?_
      refine nB (nT ?_)
      have e : least s.arcs ts (min (-gi lf u) (gi lf v)) (p.take k) = least s.arcs ts (min (-gi lf u) (gi lf v)) (p.take (k + 1)) := by rw [take_snoc hx, least_snoc, if_pos (by simpa using hc47)]
      exact .mk ⟨rfl, hs.tail⟩ (hs := .cons rfl (.cons rfl (.cons rfl (.consI rfl e (.cons rfl (.cons rfl (.cons rfl (.cons rfl (.nil rfl rfl)))))))))
  · rintro fr w ⟨rfl, hs⟩
    have e6 : least s.arcs ts (min (-gi lf u) (gi lf v)) (List.take p.length p) = M := by rw [List.take_length]; exact hM.symm
    rw [e6]
    refine nT ?_
    refine .seq (.regSeq (.z zm (.z (zlen Try.runUnderlying198) (.z zm (.nil ?_)))))
    refine .for (N := p.length) (J := fun k fr w => fr = [(59, .slice a p.length cap), (6, I M), (0, .pointer (some ⟨bf, 0, none⟩)), (1, .slice a p.length cap), (4, I u), (5, I v)] ∧   St H w (.blk bt (Is (pushes s.arcs M ts (p.take k))) :: .blk bl (Is lf ++ sp) :: σ)) (by omega) ?_ ?_ ?_
    · exact .mk ⟨rfl, hs⟩
    · rintro k fr w hk ⟨rfl, hs⟩
      obtain ⟨x, hx⟩ := nth hk
      obtain ⟨g1, g2, g3⟩ := hix x (List.mem_of_getElem? hx)
      have hpl2 := pushes_length s.arcs M (p.take k) ts
      have hbd := pushes_bd (es := s.arcs) (m := M) (ts := ts) (p := p.take k) (by omega) (by simp only [FF]; omega) (by rw [List.length_take]; omega) (fun y hy => (hix y (List.mem_of_mem_take hy)).2.1) x.l.toNat
      have h9 := htt _ g2
      refine .block (.regSeq ?_)
      refine .ixX hs hp rfl rfl Try.runUnderlying198 Try.sizeOf205 hx rfl ?_; intro b63 o63 hc63
      refine .q hs (q_loadsR (vs := x.v) rfl Try.isAgg205 Try.sizeOf205 hc63) ?_
      refine .o (.alloc hs Try.zeroValue205 rfl ?_); intro b10 w hs
      refine .o (.stores (vs := x.v) hs rfl rfl Try.sizeOf205 ?_); intro w hs
      refine .nil (.regSeq (.z zm ?_))
      refine .q hs (q_loads (vs := x.v) rfl Try.isAgg205 Try.sizeOf205) ?_
      refine .o (.call Try.call217 rfl (bound_flow_along_spec hs hok hf hl g1) ?_); rintro _ w ⟨rfl, hs⟩
      refine .nil ?_
      refine (.cond rfl (fun hc67 => ?_) (fun hc67 => ?_))
      · refine .draw mix rfl hs ?_; intro w hs
        refine .z 0 rfl zm ?_; refine .z 1 rfl znc ?_; refine .z 2 rfl (zfa fa_bound_flow_1) ?_; refine .y 3 rfl hs Try.isAgg22 ?_; refine .z 4 rfl (zfa fa_bound_step_3) ?_; refine .y 5 rfl hs Try.isAgg3 ?_
        refine .p (i := 6) rfl (by kernel_rfl) .none (q_ixO (k := x.l.toNat) rfl rfl Try.runUnderlying22 Try.sizeOf3 g3 g2) ?_
        refine .y 7 rfl hs Try.isAgg3 ?_; refine .z 8 rfl zm ?_; refine .z 9 rfl zadd ?_
        refine .p (i := 10) rfl (by kernel_rfl) .none (q_ixO (k := x.l.toNat) rfl rfl Try.runUnderlying22 Try.sizeOf3 g3 g2) ?_
        refine .e1 (i := 11) (by kernel_rfl) rfl rfl .none hs ?_
        refine .store hs rfl rfl Try.sizeOf3 ?_; intro w hs
        refine .go ?_
        refine .done (by kernel_rfl) hs ?_
        refine nB (nT ?_)
        have e : pushes s.arcs M ts (p.take (k + 1)) = (pushes s.arcs M ts (p.take k)).set x.l.toNat (gi (pushes s.arcs M ts (p.take k)) x.l.toNat + M) := by rw [take_snoc hx, pushes_snoc, push, if_pos (by simpa using hc67)]
        exact .mk ⟨rfl, by rw [e]; exact hs.tail⟩
      · refine .draw mix rfl hs ?_; intro w hs
        refine .z 0 rfl zm ?_; refine .z 1 rfl znc ?_; refine .z 2 rfl (zfa fa_bound_flow_1) ?_; refine .y 3 rfl hs Try.isAgg22 ?_; refine .z 4 rfl (zfa fa_bound_step_3) ?_; refine .y 5 rfl hs Try.isAgg3 ?_
        refine .p (i := 6) rfl (by kernel_rfl) .none (q_ixO (k := x.l.toNat) rfl rfl Try.runUnderlying22 Try.sizeOf3 g3 g2) ?_
        refine .y 7 rfl hs Try.isAgg3 ?_; refine .z 8 rfl zm ?_; refine .z 9 rfl zsub ?_
        refine .p (i := 10) rfl (by kernel_rfl) .none (q_ixO (k := x.l.toNat) rfl rfl Try.runUnderlying22 Try.sizeOf3 g3 g2) ?_
        refine .e1 (i := 11) (by kernel_rfl) rfl rfl .none hs ?_
        refine .store hs rfl rfl Try.sizeOf3 ?_; intro w hs
        refine .go ?_
        refine .done (by kernel_rfl) hs ?_
        refine nB (nT ?_)
        have e : pushes s.arcs M ts (p.take (k + 1)) = (pushes s.arcs M ts (p.take k)).set x.l.toNat (gi (pushes s.arcs M ts (p.take k)) x.l.toNat - M) := by rw [take_snoc hx, pushes_snoc, push, if_neg (by simpa using hc67)]
        exact .mk ⟨rfl, by rw [e]; exact hs.tail⟩
    · rintro fr w ⟨rfl, hs⟩
      rw [List.take_length] at hs
      refine nT ?_
      refine .regSeq (.z zm (.z znc (.z (zfa fa_bound_flow_2) (.y hs (zld Try.isAgg22) (.z zm ?_)))))
      first | (refine .ixv hs Try.runUnderlying22 Try.sizeOf3 ?_; intro b96 o96 hc96) | refine .z (zix Try.runUnderlying22 Try.sizeOf3) ?_
      refine .q hs (q_load rfl Try.isAgg3 (hv := Is_gi_sp hun sp)) ?_
      refine .z zm (.z zadd ?_)
      first | (refine .ixv hs Try.runUnderlying22 Try.sizeOf3 ?_; intro b100 o100 hc100) | refine .z (zix Try.runUnderlying22 Try.sizeOf3) ?_
      refine .o (.store hs rfl rfl Try.sizeOf3 ?_ (by repeat constructor) (blt_Is_sp hun sp) (Is_set_sp hun sp _)); intro w hs
      refine .nil (.region (.z zm (.z znc (.z (zfa fa_bound_flow_2) (.y hs (zld Try.isAgg22) (.z zm ?_))))))
      first | (refine .ixv hs Try.runUnderlying22 Try.sizeOf3 ?_; intro b106 o106 hc106) | refine .z (zix Try.runUnderlying22 Try.sizeOf3) ?_
      refine .q hs (q_load rfl Try.isAgg3 (hv := Is_gi_sp (by rw [List.length_set]; exact hvn) sp)) ?_
      refine .z zm (.z zsub ?_)
      first | (refine .ixv hs Try.runUnderlying22 Try.sizeOf3 ?_; intro b110 o110 hc110) | refine .z (zix Try.runUnderlying22 Try.sizeOf3) ?_
      refine .o (.store hs rfl rfl Try.sizeOf3 ?_ (by repeat constructor) (blt_Is_sp (by rw [List.length_set]; exact hvn) sp) (Is_set_sp (by rw [List.length_set]; exact hvn) sp _)); intro w hs
      refine .nil ?_
      exact Fin.end0 Try.results207 hs
end Go.Proofs.Ytiiokdeehlfeeaa

namespace Go.Proofs.Ytiiokdeehlfeeaa
open Go.MW
theorem left_step {w : List Int} {N k : Nat} (hw : w.length = N + 1) : gi (w.set 0 (-tailTo w k)) 0 - gi (w.set 0 (-tailTo w k)) (k + 1) = -tailTo w (k + 1) := by
  rw [gi_set (by omega), gi_set (by omega), if_pos rfl, if_neg (by omega)]
  simp only [tailTo, sumTo]; omega
theorem bound_sent_spec {H : Heap} {w : World} {σ : List Ent} {v vw : Value} {s : Syst} {ws : List Int} (hs : St H w σ) (hok : s.Ok) (hr : RSy H v s) (hrw : RI H vw ws) (hwl : ws.length = s.n) (hsz : SizedW ws) (hsnd : s.Sound) :
    Cl Try.prog 193 [v, vw] w fun v w' => (v = .tuple #[.pointer none, .bool false] ∧ OpenS s.arcs (wtOf ws s.n) s.n ∧ St H w' σ) ∨
      (∃ H1 bf bt bl cl ts lf vl sp, HLe H H1 ∧ v = .tuple #[.pointer (some ⟨bf, 0, none⟩), .bool true] ∧ FlowH H1 bf s ts lf vl bt bl cl sp ∧ FlowOk s.n s.arcs (wtOf ws s.n) ts ∧ St H1 w' σ) := by
  obtain ⟨vl, rfl, hr⟩ := hr
  obtain ⟨al, cpl, rfl⟩ := RL.shape hr
  obtain ⟨aw, cw, rfl⟩ := RI.shape hrw
  obtain ⟨N, hN⟩ := Int.eq_ofNat_of_zero_le hok.m0
  have hN1 := hok.m1
  have hn : s.n = N + 1 := by simp [Syst.n, hN]
  have hlim := hok.len
  have hoka := hok.arcs
  have hal : s.arcs.length = s.lims.length := by simp [Syst.arcs, arcsOf_length]
  have hnum : Numb s.arcs := fun i x hx => ⟨arcsOf_l hx, (hok.arcs.2 x (List.mem_of_getElem? hx)).2.2.2.2.2⟩
  have hin : ∀ x ∈ s.arcs, x.f < s.n ∧ x.t < s.n := fun x hx => by have := hoka.2 x hx; omega
  have hwt0 := wt_sum ws (n := s.n) (by omega)
  unfold SizedW at hsz
  rw [hwl] at hsz
  refine Cl.of Try.func193 rfl Try.ntmps193 (by simp) (args_cons (k := 0) rfl (args_cons (k := 1) rfl (args0))) ?_
  refine .regSeq ?_
  refine .o (.box hs rfl rfl ?_); intro b2 w hs
  refine .z zg (.z zg (.nil ?_))
  refine .scope ?_
  refine .cut (fun fs w => ∃ bf bt bl cl sp, FSub fs ⟨73, [], [(6, .pointer (some ⟨bf, 0, none⟩))]⟩ ∧ St H w (.blk bf [I s.many, .slice al s.lims.length cpl, .slice (some ⟨bt, 0, none⟩) s.lims.length s.lims.length, .slice (some ⟨bl, 0, none⟩) ws.length cl] :: .blk bt (Is (List.replicate s.lims.length 0)) :: .blk bl (Is ws ++ sp) :: σ)) ?_ ?_
  · refine .draw mix rfl hs ?_; intro w hs
    refine .ys 0 rfl hs [_, _] Try.isAgg32 Try.sizeOf32 ?_; refine .z 1 rfl (zfa fa_api_System_1) ?_; refine .y 2 rfl hs Try.isAgg30 ?_; refine .z 3 rfl (zlen Try.runUnderlying30) ?_; refine .z 5 rfl zm ?_
    refine .e2 (i := 4) (j := 6) (by kernel_rfl) rfl rfl rfl rfl .none .none hs ?_ ?_
    · refine .makeI s.lims.length hs rfl rfl Try.runUnderlying22 Try.typeInfo3 rfl Try.sizeOf3 Try.zeroValue3 (by omega) ?_; intro b15 w hs
      refine .go ?_
      refine .e1 (i := 6) (by kernel_rfl) rfl rfl .none hs ?_
      refine .call Try.call128 rfl (slices_Clone_int hs hrw (by omega)) ?_; rintro v17 w ⟨en17, hO, hs⟩
      obtain ⟨bl, cl, sp, rfl, rfl, hsp⟩ := hO.some (by omega)
      refine .go ?_
      refine .z 7 rfl (zbd [_, _, _, _] bld_bound_flow) ?_
      refine .e1 (i := 8) (by kernel_rfl) rfl rfl .none hs ?_
      refine .box hs rfl rfl ?_; intro b19 w hs
      refine .go ?_
      refine .z 9 rfl zg ?_; refine .done (by kernel_rfl) hs ?_
      exact nT ⟨b19, b15, bl, cl, sp, by repeat (first | exact .nil rfl rfl | refine .cons rfl ?_), hs.sub (by repeat (first | exact Sub.refl _ | constructor | apply Sub.weaken))⟩
    · refine .call Try.call128 rfl (slices_Clone_int hs hrw (by omega)) ?_; rintro v17 w ⟨en17, hO, hs⟩
      obtain ⟨bl, cl, sp, rfl, rfl, hsp⟩ := hO.some (by omega)
      refine .go ?_
      refine .e1 (i := 4) (by kernel_rfl) rfl rfl .none hs ?_
      refine .makeI s.lims.length hs rfl rfl Try.runUnderlying22 Try.typeInfo3 rfl Try.sizeOf3 Try.zeroValue3 (by omega) ?_; intro b15 w hs
      refine .go ?_
      refine .z 7 rfl (zbd [_, _, _, _] bld_bound_flow) ?_
      refine .e1 (i := 8) (by kernel_rfl) rfl rfl .none hs ?_
      refine .box hs rfl rfl ?_; intro b19 w hs
      refine .go ?_
      refine .z 9 rfl zg ?_; refine .done (by kernel_rfl) hs ?_
      exact nT ⟨b19, b15, bl, cl, sp, by repeat (first | exact .nil rfl rfl | refine .cons rfl ?_), hs.sub (by repeat (first | exact Sub.refl _ | constructor | apply Sub.weaken))⟩
  · rintro fs w ⟨bf, bt, bl, cl, sp, hfs, hs⟩
    refine WE.sub ?_ hfs
    obtain ⟨H1, hle1, hRf, hs⟩ := hs.publish .here
    have hf0 : cellAt H1 bf 0 = some (I (N : Int)) := by have := hRf.at 0 (v := I s.many); rwa [hN] at this
    have hf3 : cellAt H1 bf 3 = some (.slice (some ⟨bl, 0, none⟩) ws.length cl) := hRf.at 3
    have hrl := hr.mono hle1
    refine .regSeq (.z zm (.z znc (.z (zfa fa_bound_flow_2) (.y hs (zld Try.isAgg22) ?_))))
    refine .q hs (q_ixO (k := 0) rfl rfl Try.runUnderlying22 Try.sizeOf3 rfl (by omega)) ?_
    refine .o (.store hs rfl rfl Try.sizeOf3 ?_ (by repeat constructor) (blt_Is_sp (by omega) sp) (Is_set_sp (by omega) sp _)); intro w hs
    refine .nil (.seq (.regSeq (.z zm (.z znc (.z (zfa fa_bound_flow_0) (.z (zfa fa_api_System_0) (.y hs (zld Try.isAgg3) (.z zm (.nil ?_)))))))))
    refine .for (N := N) (J := fun k fr w => fr = [(6, .pointer (some ⟨bf, 0, none⟩))] ∧ St H1 w (.blk bt (Is (List.replicate s.lims.length 0)) :: .blk bl (Is (ws.set 0 (-tailTo ws k)) ++ sp) :: σ)) (by omega) ?_ ?_ ?_
    · exact .mk ⟨rfl, by simpa [tailTo, sumTo] using hs⟩
    · rintro k fr w hk ⟨rfl, hs⟩
      have e := left_step (w := ws) (N := N) (k := k) (by omega)
      have hb1 := tail_bound ws (k + 1)
      have hb2 : sizesTo ws (k + 1 + 1) ≤ sizesTo ws s.n := sumTo_mono (fun v => by omega) (by omega)
      simp only [FF] at hsz
      refine .block (.regSeq (.z zm (.z zg (.nil ?_))))
      refine .draw mix rfl hs ?_; intro w hs
      refine .z 0 rfl zm ?_; refine .z 1 rfl znc ?_; refine .z 2 rfl (zfa fa_bound_flow_2) ?_; refine .y 3 rfl hs Try.isAgg22 ?_
      refine .p (i := 4) rfl (by kernel_rfl) .none (q_ixO (k := 0) rfl rfl Try.runUnderlying22 Try.sizeOf3 rfl (by omega)) ?_
      refine .load (i := 5) hs rfl (by kernel_rfl) .none rfl Try.isAgg3 ?_ (hv := Is_gi_sp (by rw [List.length_set]; omega) sp)
      refine .z 6 rfl zm ?_; refine .z 7 rfl znc ?_; refine .z 8 rfl (zfa fa_bound_flow_2) ?_; refine .y 9 rfl hs Try.isAgg22 ?_; refine .z 10 rfl zm ?_; refine .z 11 rfl zadd ?_
      refine .p (i := 12) rfl (by kernel_rfl) .none (q_ixO (k := k + 1) rfl rfl Try.runUnderlying22 Try.sizeOf3 (by omega) (by omega)) ?_
      refine .load (i := 13) hs rfl (by kernel_rfl) .none rfl Try.isAgg3 ?_ (hv := Is_gi_sp (by rw [List.length_set]; omega) sp)
      refine .z 14 rfl zsub ?_
      refine .p (i := 15) rfl (by kernel_rfl) .none (q_ixO (k := 0) rfl rfl Try.runUnderlying22 Try.sizeOf3 rfl (by omega)) ?_
      refine .e1 (i := 16) (by kernel_rfl) rfl rfl .none hs ?_
      refine .store hs rfl rfl Try.sizeOf3 ?_ (by repeat constructor) (blt_Is_sp (by rw [List.length_set]; omega) sp) (Is_set_sp (by rw [List.length_set]; omega) sp _); intro w hs
      refine .go ?_
      refine .done (by kernel_rfl) hs ?_
      refine nB (nT ?_)
      rw [e, List.set_set] at hs
      exact .mk ⟨rfl, hs⟩
    · rintro fr w ⟨rfl, hs⟩
      have hI0 : FInv s.n s.arcs (wtOf ws s.n) (List.replicate s.lims.length 0) (ws.set 0 (-tailTo ws N)) := by
        rw [← hal, hn]
        rw [hn] at hsz
        refine FInv.start hsz (by rw [List.length_set]; omega) (fun v hv => ?_) hsnd
        rw [gi_set (by omega)]
        cases v with
        | zero => rw [if_pos rfl, wt_zero]
        | succ v => rw [if_neg (by omega), wt_succ]
      refine nT ?_
      refine .seq ?_
      refine .label ?_
      refine nT ?_
      refine .block ?_
      refine .loop (fun _ : Heap × List Int × List Int => ⟨73, [], [(6, .pointer (some ⟨bf, 0, none⟩))]⟩)
        (fun p w => HLe H1 p.1 ∧ FInv s.n s.arcs (wtOf ws s.n) p.2.1 p.2.2 ∧ St p.1 w (.blk bt (Is p.2.1) :: .blk bl (Is p.2.2 ++ sp) :: σ)) (fun p => (rem s.n p.2.2).toNat) (H1, List.replicate s.lims.length 0, ws.set 0 (-tailTo ws N))
        (by repeat (first | exact .nil rfl rfl | refine .cons rfl ?_)) ⟨HLe.refl _, hI0, hs⟩ ?_
      rintro ⟨H2, ts, lf⟩ w ⟨hle2, hI, hs⟩
      dsimp only at hle2 hI hs ⊢
      have hlt := hI.lt
      have hll := hI.ll
      have hRf2 : Row H2 bf [I s.many, .slice al s.lims.length cpl, .slice (some ⟨bt, 0, none⟩) ts.length ts.length, .slice (some ⟨bl, 0, none⟩) lf.length cl] := by
        rw [hlt, hal, hll, ← hwl]; exact hRf.mono hle2
      have hf32 : cellAt H2 bf 3 = some (.slice (some ⟨bl, 0, none⟩) lf.length cl) := hRf2.at 3
      refine .block (.seq (.regSeq (.z zm (.z znc (.z (zfa fa_bound_flow_2) (.y hs (zld Try.isAgg22) (.z (zlen Try.runUnderlying22) (.z zm (.nil ?_)))))))))
      refine .for (N := lf.length) (J := fun k fr w => fr = [(53, .slice (some ⟨bl, 0, none⟩) lf.length cl), (6, .pointer (some ⟨bf, 0, none⟩))] ∧ (∀ v < k, gi lf v ≤ 0) ∧ St H2 w (.blk bt (Is ts) :: .blk bl (Is lf ++ sp) :: σ)) (by omega) ?_ ?_ ?_
      · exact .mk ⟨rfl, fun v hv => by omega, hs⟩
      · rintro k fr w hk ⟨rfl, hle0, hs⟩
        refine .block (.regSeq (.z zm ?_))
        first | (refine .ixv hs Try.runUnderlying22 Try.sizeOf3 ?_; intro b58 o58 hc58) | refine .z (zix Try.runUnderlying22 Try.sizeOf3) ?_
        refine .q hs (q_load rfl Try.isAgg3 (hv := Is_gi_sp hk sp)) ?_
        refine .z zg (.z zg (.nil (.seq (.regSeq (.z zm (.z zleq (.nil ?_)))))))
        refine (.condD rfl (fun hc61 => ?_) (fun hc61 => ?_))
        · refine .exit ?_
          refine xT (xB (nT ?_))
          exact .mk ⟨rfl, fun v hv => by
              by_cases e : v = k
              · subst e; exact hc61
              · exact hle0 v (by omega), hs⟩
        · refine .skip ?_
          refine nT ?_
          refine .regSeq (.z zm (.z zm ?_))
          obtain ⟨Ha, hla, hra, hsa, -, hba⟩ := hs.lend
          obtain ⟨Hb, hlb, hrb, hsb, -, hbb⟩ := hsa.lend
          refine .o (.call Try.call206 rfl (bound_flow_way_spec (s := s) (to := k) hsb hok ⟨hRf2.mono (hla.trans hlb), hr.mono (hle1.trans (hle2.trans (hla.trans hlb))), hra.mono hlb, hrb⟩ (by omega) (by omega) hI.fe (by omega) (by omega)) ?_); rintro v64 w ⟨Hc, p, en, hlc, hO, hsc, hWR⟩
          have hs := hba (HLe.refl _) (hbb hlc hsc)
          obtain ⟨ap, lp, cp, rfl, hlp⟩ := hO.shape
          obtain rfl : lp = p.length := by rw [Arcs_length] at hlp; omega
          refine .z zg (.nil (.seq (.regSeq (.z zm (.z (zlen Try.runUnderlying198) (.z zeql (.nil ?_)))))))
          refine (.condD rfl (fun hc67 => ?_) (fun hc67 => ?_))
          · refine .regSeq (.z zg (.z zg (.nil ?_)))
            refine .ret (rT (rB (rT (rB (rT (rB (rT (rB (rS (Fin.ret2 Try.results193 rfl rfl ?_))))))))))
            rcases hWR with ⟨_, R, hS, hR, hto⟩ | ⟨hp, _⟩
            · exact .inl ⟨rfl, hI.open hin hS hR (by omega) hto (by omega), (hs.le (hle1.trans hle2)).out⟩
            · exact (hp (List.length_eq_zero_iff.1 (by omega))).elim
          · refine .skip ?_
            refine nT ?_
            refine .regSeq (.z zm (.z zm ?_))
            obtain ⟨hp, hpl, u, hw⟩ := hWR.resolve_left fun h => by rw [h.1] at hc67; exact hc67 rfl
            obtain ⟨H3, hle3, hRS, hs⟩ := OwnS.publish (cs := p.map Arc.v) hO (fun c hc => by simp only [List.mem_map] at hc; obtain ⟨x, _, rfl⟩ := hc; rfl) (by omega) (by rw [List.length_map]; omega) hs (by repeat constructor)
            refine .o (.call Try.call207 rfl (bound_flow_send_spec hs hok (hRf2.mono hle3) (hr.mono (hle1.trans (hle2.trans hle3))) hRS hI hw hp hpl) ?_); rintro v70 w hs
            refine .nil ?_
            refine .exit ?_
            refine xN (xT (xN (xT (xB (nT ?_)))))
            obtain ⟨q1, q2⟩ := hI.send hnum hw (by omega)
            have q3 : 0 ≤ rem s.n (lfTo lf (much s.arcs ts lf p u k) u k) := sumTo_nonneg fun v _ => by omega
            exact ⟨(H3, pushes s.arcs (much s.arcs ts lf p u k) ts p, lfTo lf (much s.arcs ts lf p u k) u k), by repeat (first | exact .nil rfl rfl | refine .cons rfl ?_), ⟨hle2.trans hle3, q1, hs⟩, by dsimp only; omega⟩
      · rintro fr w ⟨rfl, hle0, hs⟩
        refine nT ?_
        refine .regSeq (.z zm (.z zg (.z zg (.nil ?_))))
        refine .ret (rB (rT (rB (rS (Fin.ret2 Try.results193 rfl rfl ?_)))))
        obtain ⟨H3, l3, r3, hs⟩ := hs.publish .here
        obtain ⟨H4, l4, r4, hs⟩ := hs.publish .here
        exact .inr ⟨H4, bf, bt, bl, cl, ts, lf, _, sp, hle1.trans (hle2.trans (l3.trans l4)), rfl, ⟨hRf2.mono (l3.trans l4), hr.mono (hle1.trans (hle2.trans (l3.trans l4))), r3.mono l4, r4⟩, hI.ok hin hwt0 (fun v hv => hle0 v (by omega)), hs⟩
end Go.Proofs.Ytiiokdeehlfeeaa

namespace Go.Proofs.Ytiiokdeehlfeeaa
open Go.MW
theorem bound_isSized_spec {H : Heap} {w : World} {σ : List Ent} {v : Value} {ws : List Int} (hs : St H w σ) (hr : RI H v ws) : Cl Try.prog 168 [v] w fun v w' => ∃ b, v = .bool b ∧ (b = true ↔ SizedW ws) ∧ St H w' σ := by
  obtain ⟨a, c, rfl⟩ := RI.shape hr
  have hl := (RI.len hr).2.2
  refine Cl.of Try.func168 rfl Try.ntmps168 (by simp) (args_cons (k := 0) rfl (args0)) ?_
  refine .regSeq (.z zg (.nil (.regSeq (.z zg (.nil (.seq (.regSeq (.z zm (.z (zlen Try.runUnderlying22) ?_)))))))))
  refine .z zm (.nil ?_)
  refine .for (N := ws.length) (J := fun k fr w => fr = [(6, .slice a ws.length c), (3, I (3600000000000 - sizesTo ws k))] ∧ sizesTo ws k ≤ 3600000000000 ∧ St H w σ) (by omega) ?_ ?_ ?_
  · exact .mk ⟨rfl, by simp [sizesTo, sumTo], hs⟩
  · rintro k fr w hk ⟨rfl, hle, hs⟩
    have hx := gi_get hk
    have h0 : 0 ≤ sizesTo ws k := sumTo_nonneg fun v _ => by omega
    have h1 : sizesTo ws (k + 1) = sizesTo ws k + max (gi ws k) (-gi ws k) := rfl
    refine .block (.regSeq ?_)
    first | (refine .ixv hs Try.runUnderlying22 Try.sizeOf3 ?_; intro b10 o10 hc10) | refine .z (zix Try.runUnderlying22 Try.sizeOf3) ?_
    refine .y hs (zld Try.isAgg3) (.z zg (.nil (.seq (.regSeq (.z zm (.z zm (.z zneg (.z zlss (.z zm ?_)))))))))
    refine .bifD (t' := 16) rfl (fun hb16 => ?_) (fun hb16 => ?_)
    · refine .gFs 3 4 false rfl rfl rfl ?_
      refine .z zpT (.nil ?_)
      refine (.condT rfl rfl ?_)
      refine .regSeq (.z zg (.nil ?_))
      refine .ret (rT (rB (rT (rB (rT (Fin.ret1 Try.results168 rfl ?_))))))
      exact ⟨false, rfl, ⟨fun h => (by cases h), fun h => (sizes_over (k := k + 1) hk (by simp only [FF]; omega) h).elim⟩, hs⟩
    · refine .gT rfl rfl ?_
      refine .z zm ?_
      refine .gT rfl rfl ?_
      refine .z zm ?_
      refine .gT rfl rfl ?_
      refine .z zgtr (.z zpF (.nil ?_))
      refine (.condD rfl (fun hc20 => ?_) (fun hc20 => ?_))
      · refine .regSeq (.z zg (.nil ?_))
        refine .ret (rT (rB (rT (rB (rT (Fin.ret1 Try.results168 rfl ?_))))))
        exact ⟨false, rfl, ⟨fun h => (by cases h), fun h => (sizes_over (k := k + 1) hk (by simp only [FF]; omega) h).elim⟩, hs⟩
      · refine .skip ?_
        refine nT ?_
        refine .region (.z zm (.z zm (.z zm (.z zneg (.z zmax (.z zsub (.z zg (.nil ?_))))))))
        refine nB (nT ?_)
        exact .mk ⟨rfl, by omega, hs⟩ (hs := .cons rfl (.cons rfl (.cons rfl (.consI rfl (by omega) (.nil rfl rfl)))))
  · rintro fr w ⟨rfl, hle, hs⟩
    refine nT ?_
    refine .regSeq (.z zg (.nil ?_))
    refine .ret (Fin.ret1 Try.results168 rfl ?_)
    exact ⟨true, rfl, ⟨fun _ => hle, fun _ => rfl⟩, hs⟩
theorem bound_checkWeights_spec {H : Heap} {w : World} {σ : List Ent} {v vw : Value} {s : Syst} {ws : List Int} (hs : St H w σ) (hr : RSy H v s) (hrw : RI H vw ws) : Cl Try.prog 176 [v, vw] w fun v w' => v = I (askErr s ws) ∧ St H w' σ := by
  obtain ⟨vl, rfl, hr⟩ := hr
  obtain ⟨al, cpl, rfl⟩ := RL.shape hr
  obtain ⟨aw, cw, rfl⟩ := RI.shape hrw
  have hlw := (RI.len hrw).2.2
  have hn : s.check = 0 → 0 ≤ s.many ∧ s.many ≤ 64 ∧ (s.n : Int) = s.many + 1 := fun h => by
    have h1 := s.ok_iff.1 h
    have := h1.m0
    have := h1.m1
    simp only [Syst.n]; omega
  refine Cl.of Try.func176 rfl Try.ntmps176 (by simp) (args_cons (k := 0) rfl (args_cons (k := 1) rfl (args0))) ?_
  refine .regSeq ?_
  refine .o (.box hs rfl rfl ?_); intro b2 w hs
  refine .z zg (.nil (.seq (.regSeq (.y hs (zls [_, _] Try.isAgg32 Try.sizeOf32) ?_))))
  refine .o (.call Try.call72 rfl (bound_Check_spec (s := s) hs ⟨_, rfl, hr⟩) ?_); rintro _ w ⟨rfl, hs⟩
  refine .z zg (.nil (.regSeq (.z zm (.z zneq (.nil ?_)))))
  refine (.condN rfl (fun hc9 => ?_) (fun hc9 => ?_))
  · refine .regSeq (.z zm (.z zg (.nil ?_)))
    refine .ret (rT (Fin.ret1 Try.results176 rfl ?_))
    exact ⟨by unfold askErr; rw [if_pos hc9], hs.tail⟩
  · refine .skip ?_
    refine nT ?_
    refine .seq (.regSeq (.z zm ?_))
    obtain ⟨n0, n1, n2⟩ := hn hc9
    refine .z (zlen Try.runUnderlying22) (.z (zfa fa_api_System_0) (.y hs (zld Try.isAgg3) (.z zadd (.z zneq (.z zm ?_)))))
    refine .bifN (t' := 17) rfl (fun hb17 => ?_) (fun hb17 => ?_)
    · refine .gFs 3 6 false rfl rfl rfl ?_
      refine .z zpT (.nil ?_)
      refine (.condT rfl rfl ?_)
      refine .regSeq (.z zg (.nil ?_))
      refine .ret (rT (Fin.ret1 Try.results176 rfl ?_))
      exact ⟨by unfold askErr; rw [if_neg (by omega), if_neg (by omega)], hs.tail⟩
    · refine .gT rfl rfl ?_
      refine .z zm ?_
      refine .gT rfl rfl ?_
      refine .o (.call Try.call168 rfl (bound_isSized_spec hs hrw) ?_); rintro _ w ⟨bz, rfl, hbz, hs⟩
      refine .gT rfl rfl ?_
      refine .z znot (.z zpF (.nil ?_))
      refine (.cond rfl (fun hc21 => ?_) (fun hc21 => ?_))
      · refine .regSeq (.z zg (.nil ?_))
        refine .ret (rT (Fin.ret1 Try.results176 rfl ?_))
        exact ⟨by unfold askErr; rw [if_neg (by omega), if_neg (fun h => by rw [hbz.2 h.2] at hc21; cases hc21)], hs.tail⟩
      · refine .skip ?_
        refine nT ?_
        refine .regSeq (.z zg (.nil ?_))
        refine .ret (Fin.ret1 Try.results176 rfl ?_)
        exact ⟨by unfold askErr; rw [if_neg (by omega), if_pos ⟨by omega, hbz.1 (by simpa using hc21)⟩], hs.tail⟩
theorem bound_asked_spec {H : Heap} {w : World} {σ : List Ent} {v vw : Value} {s : Syst} {ws : List Int} (hs : St H w σ) (hr : RSy H v s) (hrw : RI H vw ws) :
    Cl Try.prog 140 [v, vw] w fun v w' => ∃ H1 e pf, HLe H H1 ∧ v = .tuple #[pf, I e] ∧ AskR s ws e ∧ St H1 w' σ ∧ (e ≠ 0 → pf = .pointer none) ∧
      (e = 0 → ∃ bf bt bl cl ts lf vl sp, pf = .pointer (some ⟨bf, 0, none⟩) ∧ FlowH H1 bf s ts lf vl bt bl cl sp ∧ FlowOk s.n s.arcs (wtOf ws s.n) ts ∧ s.Ok ∧ sizesTo ws s.n ≤ FF) := by
  obtain ⟨vl, rfl, hr⟩ := hr
  refine Cl.of Try.func140 rfl Try.ntmps140 (by simp) (args_cons (k := 0) rfl (args_cons (k := 1) rfl (args0))) ?_
  refine .regSeq ?_
  refine .o (.box hs rfl rfl ?_); intro b2 w hs
  refine .z zg (.z zg (.nil (.seq (.regSeq (.y hs (zls [_, _] Try.isAgg32 Try.sizeOf32) (.z zm ?_))))))
  refine .o (.call Try.call176 rfl (bound_checkWeights_spec (s := s) hs ⟨_, rfl, hr⟩ hrw) ?_); rintro _ w ⟨rfl, hs⟩
  refine .z zg (.nil (.regSeq (.z zm (.z zneq (.nil ?_)))))
  refine (.condN rfl (fun hc13 => ?_) (fun hc13 => ?_))
  · refine .regSeq (.z zm (.z zg (.z zg (.nil ?_))))
    refine .ret (rT (Fin.ret2 Try.results140 rfl rfl ?_))
    exact ⟨H, _, _, HLe.refl _, rfl, .bad hc13, hs.tail, fun _ => rfl, fun h => (hc13 h).elim⟩
  · refine .skip ?_
    refine nT ?_
    refine .seq (.regSeq (.y hs (zls [_, _] Try.isAgg32 Try.sizeOf32) ?_))
    obtain ⟨hok, hwl, hsz⟩ := askErr_ok hc13
    refine .o (.call Try.call149 rfl (bound_isSound_spec (s := s) hs hok ⟨_, rfl, hr⟩) ?_); rintro _ w ⟨H1, b, hle1, rfl, hb, hs⟩
    refine .z znot (.nil ?_)
    refine (.cond rfl (fun hc17 => ?_) (fun hc17 => ?_))
    · refine .regSeq (.z zg (.z zg (.nil ?_)))
      refine .ret (rT (Fin.ret2 Try.results140 rfl rfl ?_))
      exact ⟨H1, _, _, hle1, rfl, .clash hc13 (fun h => by rw [hb.2 h] at hc17; cases hc17), hs.tail, fun _ => rfl, fun h => by cases h⟩
    · refine .skip ?_
      refine nT ?_
      refine .regSeq (.y hs (zls [_, _] Try.isAgg32 Try.sizeOf32) (.z zm ?_))
      have hsnd : s.Sound := hb.1 (by simpa using hc17)
      refine .o (.call Try.call193 rfl (bound_sent_spec (s := s) hs hok ⟨_, rfl, hr.mono hle1⟩ (hrw.mono hle1) hwl hsz hsnd) ?_); rintro v21 w hcase
      obtain ⟨pf, bb, H2, hle2, rfl, hs, hT, hF⟩ : ∃ pf bb H2, HLe H1 H2 ∧ v21 = .tuple #[pf, .bool bb] ∧ St H2 w (.blk b2 [I s.many, vl] :: σ) ∧ (bb = false → pf = .pointer none ∧ OpenS s.arcs (wtOf ws s.n) s.n) ∧
          (bb = true → ∃ bf bt bl cl ts lf vl sp, pf = .pointer (some ⟨bf, 0, none⟩) ∧ FlowH H2 bf s ts lf vl bt bl cl sp ∧ FlowOk s.n s.arcs (wtOf ws s.n) ts) := by
        rcases hcase with ⟨rfl, h1, h2⟩ | ⟨H2, bf, bt, bl, cl, ts, lf, vl, sp, h1, rfl, h2, h3, h4⟩
        · exact ⟨_, false, H1, HLe.refl _, rfl, h2, fun _ => ⟨rfl, h1⟩, fun h => by cases h⟩
        · exact ⟨_, true, H2, h1, rfl, h4, fun h => (by cases h), fun _ => ⟨bf, bt, bl, cl, ts, lf, vl, sp, rfl, h2, h3⟩⟩
      refine .z zm (.z zex (.z zex (.z zg (.z zg (.nil (.seq (.regSeq (.z zm (.z znot ?_)))))))))
      refine .nil ?_
      refine (.cond rfl (fun hc25 => ?_) (fun hc25 => ?_))
      · refine .regSeq (.z zg (.z zg (.nil ?_)))
        refine .ret (rT (Fin.ret2 Try.results140 rfl rfl ?_))
        exact ⟨H2, _, _, hle1.trans hle2, rfl, .opn hc13 hsnd (hT (by simpa using hc25)).2, hs.tail, fun _ => rfl, fun h => by cases h⟩
      · refine .skip ?_
        refine nT ?_
        refine .regSeq (.z zm (.z zg (.z zg (.nil ?_))))
        refine .ret (Fin.ret2 Try.results140 rfl rfl ?_)
        obtain ⟨bf, bt, bl, cl, ts, lf, vl, sp, rfl, h2, h3⟩ := hF (by simpa using hc25)
        have hn0 : 0 < s.n := by simp [Syst.n]
        have hn1 : s.n ≤ 65 := by have := hok.m0; have := hok.m1; simp only [Syst.n]; omega
        have hsz' : sizesTo ws s.n ≤ FF := by unfold SizedW at hsz; rwa [hwl] at hsz
        exact ⟨H2, _, _, hle1.trans hle2, rfl, .ok hc13 hsnd (h3.value hn0 hn1 hok.arcs hsz').2.1, hs.tail, fun h => (h rfl).elim, fun _ => ⟨bf, bt, bl, cl, ts, lf, vl, sp, rfl, h2, h3, hok, hsz'⟩⟩
theorem bound_flow_bound_spec {H : Heap} {w : World} {σ : List Ent} {bf bt bl cl : Nat} {s : Syst} {ts lf ws : List Int} {vl : Value} {sp : List Value} (hs : St H w σ) (hok : s.Ok) (hF : FlowH H bf s ts lf vl bt bl cl sp) (hFo : FlowOk s.n s.arcs (wtOf ws s.n) ts) (hsz : sizesTo ws s.n ≤ FF) :
    Cl Try.prog 141 [.pointer (some ⟨bf, 0, none⟩)] w fun v w' => v = I (dot s.arcs ts (·.c)) ∧ OptS s.arcs (s.wt ws) s.n (dot s.arcs ts (·.c)) ∧ dot s.arcs ts (·.c) ≤ BB ∧ -BB ≤ dot s.arcs ts (·.c) ∧ St H w' σ := by
  obtain ⟨hFf, hFl, hFt, hFd⟩ := hF
  obtain ⟨al, cpl, rfl⟩ := RL.shape hFl
  have hlim := hok.len
  have hal : s.arcs.length = s.lims.length := by simp [Syst.arcs, arcsOf_length]
  have hlt := hFo.lt
  have hn0 : 0 < s.n := by simp [Syst.n]
  have hn1 : s.n ≤ 65 := by have := hok.m0; have := hok.m1; simp only [Syst.n]; omega
  have hv := hFo.value hn0 hn1 hok.arcs hsz
  have hd := dot_dotTo (es := s.arcs) hlt
  have hf1 : cellAt H bf 1 = some (.slice al s.lims.length cpl) := hFf.at 1
  have hf2 : cellAt H bf 2 = some (.slice (some ⟨bt, 0, none⟩) ts.length ts.length) := hFf.at 2
  refine Cl.of Try.func141 rfl Try.ntmps141 (by simp) (args_cons (k := 0) rfl (args0)) ?_
  refine .regSeq (.z zg (.nil (.regSeq (.z zg (.nil (.seq (.regSeq (.z zm (.z znc ?_)))))))))
  refine .z (zfa fa_bound_flow_0) (.z (zfa fa_api_System_1) (.y hs (zld Try.isAgg30) (.z (zlen Try.runUnderlying30) (.z zm (.nil ?_)))))
  refine .for (N := s.lims.length) (J := fun k fr w => fr = [(10, .slice al s.lims.length cpl), (3, I (IntKind.i64.wrap (dotTo s.arcs ts k))), (0, .pointer (some ⟨bf, 0, none⟩))] ∧ St H w σ) (by omega) ?_ ?_ ?_
  · exact .mk ⟨rfl, hs⟩ (hs := .cons rfl (.cons rfl (.cons rfl (.consI rfl (by simp [dotTo, sumTo, i64wrap_eq]) (.cons rfl (.nil rfl rfl))))))
  · rintro k fr w hk ⟨rfl, hs⟩
    obtain ⟨l, hl⟩ := nth hk
    have hg : (ga s.arcs k).c = l.M := by simp [ga, Syst.arcs, arcsOf_get hl, Lim.arc]
    have hlm := hok.lim l (List.mem_of_getElem? hl)
    have hkt : k < ts.length := by omega
    have htb := hFo.nn k (by omega)
    have hct : cellAt H bt k = some (I (gi ts k)) := hFt.at k (Is_gi hkt)
    have hmul : gi ts k * l.M ≤ 72000000000000000 ∧ -72000000000000000 ≤ gi ts k * l.M := by
      simp only [FF] at htb
      have g1 : gi ts k * l.M ≤ gi ts k * 20000 := Int.mul_le_mul_of_nonneg_left hlm.2.2.2.1.2 htb.1
      have g2 : gi ts k * (-20000) ≤ gi ts k * l.M := Int.mul_le_mul_of_nonneg_left hlm.2.2.2.1.1 htb.1
      omega
    refine .block (.regSeq (.z zm ?_))
    refine .ixX hs hFl rfl rfl Try.runUnderlying30 Try.sizeOf100 hl rfl ?_; intro b15 o15 hc15
    refine .q hs (q_loadsR (vs := l.c) rfl Try.isAgg100 Try.sizeOf100 hc15) ?_
    refine .o (.alloc hs Try.zeroValue100 rfl ?_); intro b5 w hs
    refine .z zg ?_
    refine .o (.stores (vs := l.c) hs rfl rfl Try.sizeOf100 ?_); intro w hs
    refine .nil ?_
    refine .draw mix rfl hs ?_; intro w hs
    refine .z 0 rfl zm ?_; refine .z 1 rfl zm ?_; refine .z 2 rfl znc ?_; refine .z 3 rfl (zfa fa_bound_flow_1) ?_; refine .y 4 rfl hs Try.isAgg22 ?_; refine .z 5 rfl zm ?_
    refine .p (i := 6) rfl (by kernel_rfl) .none (q_ixO (k := k) rfl rfl Try.runUnderlying22 Try.sizeOf3 rfl hkt) ?_
    refine .r (i := 7) hs rfl (by kernel_rfl) .none (q_loadR rfl Try.isAgg3 hct) ?_
    refine .z 8 rfl (zfa fa_api_Limit_2) ?_; refine .y 9 rfl hs Try.isAgg3 ?_; refine .z 10 rfl zmul ?_
    refine .p (i := 11) rfl (by kernel_rfl) .none (q_add rfl rfl) ?_
    refine .z 12 rfl zg ?_; refine .done (by kernel_rfl) hs ?_
    refine nB (nT ?_)
    exact .mk ⟨rfl, hs.tail⟩ (hs := .cons rfl (.cons rfl (.cons rfl (.consI rfl (by rw [i64wrap_add]; simp only [dotTo, sumTo, hg]) (.cons rfl (.nil rfl rfl))))))
  · rintro fr w ⟨rfl, hs⟩
    rw [← hal, ← hd, i64wrap (by have := hv.2.2; simp only [BB] at this; omega)]
    refine nT ?_
    refine .regSeq (.z zm (.z zg (.nil ?_)))
    refine .ret (Fin.ret1 Try.results141 rfl ?_)
    exact ⟨rfl, hv.1, hv.2.2.1, hv.2.2.2, hs⟩
theorem bound_Most_spec {H : Heap} {w : World} {σ : List Ent} {v vw : Value} {s : Syst} {ws : List Int} (hs : St H w σ) (hr : RSy H v s) (hrw : RI H vw ws) :
    Cl Try.prog 56 [v, vw] w fun v w' => ∃ H1 n e, HLe H H1 ∧ v = .tuple #[I n, I e] ∧ MostR s ws n e ∧ St H1 w' σ := by
  obtain ⟨vl, rfl, hr⟩ := hr
  refine Cl.of Try.func56 rfl Try.ntmps56 (by simp) (args_cons (k := 0) rfl (args_cons (k := 1) rfl (args0))) ?_
  refine .regSeq ?_
  refine .o (.box hs rfl rfl ?_); intro b2 w hs
  refine .z zg (.z zg (.nil (.regSeq (.y hs (zls [_, _] Try.isAgg32 Try.sizeOf32) (.z zm ?_)))))
  refine .o (.call Try.call140 rfl (bound_asked_spec (s := s) hs ⟨_, rfl, hr⟩ hrw) ?_); rintro _ w ⟨H1, e, pf, hle1, rfl, hA, hs, hne, heq⟩
  refine .z zm (.z zex (.z zex (.z zg (.z zg (.nil (.seq (.regSeq (.z zm (.z zneq ?_)))))))))
  refine .nil ?_
  refine (.condN rfl (fun hc15 => ?_) (fun hc15 => ?_))
  · refine .regSeq (.z zm (.z zg (.z zg (.nil ?_))))
    refine .ret (rT (Fin.ret2 Try.results56 rfl rfl ?_))
    exact ⟨H1, _, _, hle1, rfl, ⟨hA, fun _ => rfl, fun h => (hc15 h).elim⟩, hs.tail⟩
  · refine .skip ?_
    refine nT ?_
    refine .regSeq (.z zm ?_)
    subst hc15
    obtain ⟨bf, bt, bl, cl, ts, lf, vl, sp, rfl, hF, hFo, hok, hsz⟩ := heq rfl
    refine .o (.call Try.call141 rfl (bound_flow_bound_spec hs hok hF hFo hsz) ?_); rintro _ w ⟨rfl, h1, h2, h3, hs⟩
    refine .z zg (.z zg (.nil ?_))
    refine .ret (Fin.ret2 Try.results56 rfl rfl ?_)
    exact ⟨H1, _, _, hle1, rfl, ⟨hA, fun h => (h rfl).elim, fun _ => ⟨h1, h2, h3⟩⟩, hs.tail⟩
theorem bound_turned_spec {H : Heap} {w : World} {σ : List Ent} {vw : Value} {ws : List Int} (hs : St H w σ) (hrw : RI H vw ws) (hlw : ws.length ≤ 1000000) (hb : ∀ k, -9223372036854775807 ≤ gi ws k ∧ gi ws k ≤ 9223372036854775807) :
    Cl Try.prog 146 [vw] w fun v w' => ∃ H1, HLe H H1 ∧ RI H1 v (negW ws) ∧ St H1 w' σ := by
  obtain ⟨aw, cw, rfl⟩ := RI.shape hrw
  refine Cl.of Try.func146 rfl Try.ntmps146 (by simp) (args_cons (k := 0) rfl (args0)) ?_
  refine .regSeq (.z zg (.nil (.regSeq (.z zm (.z (zlen Try.runUnderlying22) ?_)))))
  refine .o (.makeI ws.length hs rfl rfl Try.runUnderlying22 Try.typeInfo3 rfl Try.sizeOf3 Try.zeroValue3 (by omega) ?_); intro b8 w hs
  refine .z zg (.nil (.seq (.regSeq (.z zm (.z (zlen Try.runUnderlying22) (.z zm (.nil ?_)))))))
  refine .for (N := ws.length) (J := fun k fr w => fr = [(9, .slice aw ws.length cw), (3, .slice (some ⟨b8, 0, none⟩) ws.length ws.length)] ∧ ∃ L, (L.length = ws.length ∧ ∀ v < ws.length, gi L v = if v < k then -gi ws v else 0) ∧ St H w (.blk b8 (Is L) :: σ)) (by omega) ?_ ?_ ?_
  · exact .mk ⟨rfl, _, ⟨by simp, fun v hv => by rw [gi_replicate _ _ hv, if_neg (by omega)]⟩, hs⟩
  · rintro k fr w hk ⟨rfl, L, ⟨hL1, hL2⟩, hs⟩
    have hx := gi_get hk
    have hbk := hb k
    refine .block (.regSeq (.z zm ?_))
    first | (refine .ixv hs Try.runUnderlying22 Try.sizeOf3 ?_; intro b14 o14 hc14) | refine .z (zix Try.runUnderlying22 Try.sizeOf3) ?_
    refine .y hs (zld Try.isAgg3) (.z zg (.z zg (.nil (.region (.z zm (.z zm (.z zm (.z zneg ?_))))))))
    first | (refine .ixv hs Try.runUnderlying22 Try.sizeOf3 ?_; intro b20 o20 hc20) | refine .z (zix Try.runUnderlying22 Try.sizeOf3) ?_
    refine .o (.store hs rfl rfl Try.sizeOf3 ?_); intro w hs
    refine .nil ?_
    refine nB (nT ?_)
    refine .mk ⟨rfl, _, ⟨by rw [List.length_set]; exact hL1, fun v hv => ?_⟩, hs⟩
    rw [gi_set (by omega)]
    by_cases e : v = k
    · subst e; rw [if_pos rfl, if_pos (by omega)]
    · rw [if_neg e, hL2 v hv]; congr 1; apply propext; omega
  · rintro fr w ⟨rfl, L, ⟨hL1, hL2⟩, hs⟩
    obtain rfl : L = negW ws := ext_gi (by simp [hL1, negW]) (fun k hk => by rw [hL2 k (by omega), if_pos (by omega), gi_neg])
    refine nT ?_
    refine .regSeq (.z zm (.z zg (.nil ?_)))
    refine .ret (Fin.ret1 Try.results146 rfl ?_)
    obtain ⟨H1, g1, g2, hs⟩ := hs.publish .here
    refine ⟨H1, g1, ?_, hs⟩
    rw [← hL1]
    exact Row.RI (spare := []) (by simpa using g2) _ (Nat.le_refl _) (by omega)
theorem bound_Range_spec {H : Heap} {w : World} {σ : List Ent} {v vw : Value} {s : Syst} {ws : List Int} (hs : St H w σ) (hr : RSy H v s) (hrw : RI H vw ws) :
    Cl Try.prog 60 [v, vw] w fun v w' => ∃ H1 lo hi e, HLe H H1 ∧ v = .tuple #[I lo, I hi, I e] ∧ RangeR s ws lo hi e ∧ St H1 w' σ := by
  obtain ⟨vl, rfl, hr⟩ := hr
  refine Cl.of Try.func60 rfl Try.ntmps60 (by simp) (args_cons (k := 0) rfl (args_cons (k := 1) rfl (args0))) ?_
  refine .regSeq ?_
  refine .o (.box hs rfl rfl ?_); intro b2 w hs
  refine .z zg (.z zg (.z zg (.nil (.regSeq (.y hs (zls [_, _] Try.isAgg32 Try.sizeOf32) (.z zm ?_))))))
  refine .o (.call Try.call140 rfl (bound_asked_spec (s := s) hs ⟨_, rfl, hr⟩ hrw) ?_); rintro _ w ⟨H1, e, pf, hle1, rfl, hA, hs, hne, heq⟩
  refine .z zm (.z zex (.z zex (.z zg (.z zg (.nil (.seq (.regSeq (.z zm (.z zneq ?_)))))))))
  refine .nil ?_
  refine (.condN rfl (fun hc16 => ?_) (fun hc16 => ?_))
  · refine .regSeq (.z zm (.z zg (.z zg (.z zg (.nil ?_)))))
    refine .ret (rT (Fin.ret3 Try.results60 rfl rfl rfl ?_))
    exact ⟨H1, _, _, _, hle1, rfl, .first ⟨hA, fun _ => rfl, fun h => (hc16 h).elim⟩ hc16, hs.tail⟩
  · refine .skip ?_
    refine nT ?_
    refine .seq (.draw mix rfl hs ?_); intro w hs
    refine .ys 0 rfl hs [_, _] Try.isAgg32 Try.sizeOf32 ?_; refine .z 1 rfl zm ?_
    refine .e1 (i := 2) (by kernel_rfl) rfl rfl .none hs ?_
    subst hc16
    obtain ⟨bf, bt, bl, cl, ts, lf, vl', sp, rfl, hF, hFo, hok, hsz⟩ := heq rfl
    have hwl := (askErr_ok hA.zero.1).2.1
    have hbw : ∀ k, -9223372036854775807 ≤ gi ws k ∧ gi ws k ≤ 9223372036854775807 := fun k => by
      simp only [FF] at hsz
      by_cases hk : k < s.n
      · have := sizes_at ws hk; omega
      · have : gi ws k = 0 := by simp [gi, List.getElem?_eq_none (show ws.length ≤ k by omega)]
        omega
    refine .call Try.call146 rfl (bound_turned_spec hs (hrw.mono hle1) (by have := hok.m1; simp only [Syst.n] at hwl; omega) hbw) ?_; rintro v21 w ⟨H2, hle2, hr21, hs⟩
    refine .go ?_
    refine .e1 (i := 3) (by kernel_rfl) rfl rfl .none hs ?_
    refine .call Try.call140 rfl (bound_asked_spec (s := s) hs ⟨_, rfl, hr.mono (hle1.trans hle2)⟩ hr21) ?_; rintro _ w ⟨H3, e2, pg, hle3, rfl, hA2, hs, hne2, heq2⟩
    refine .go ?_
    refine .z 4 rfl zm ?_; refine .z 5 rfl zex ?_; refine .z 6 rfl zex ?_; refine .z 7 rfl zg ?_; refine .z 8 rfl zg ?_; refine .done (by kernel_rfl) hs ?_
    refine .seq (.regSeq (.z zm (.z zneq (.nil ?_))))
    refine (.condN rfl (fun hc26 => ?_) (fun hc26 => ?_))
    · refine .regSeq (.z zm (.z zg (.z zg (.z zg (.nil ?_)))))
      refine .ret (rT (Fin.ret3 Try.results60 rfl rfl rfl ?_))
      obtain ⟨q1, q2, q3, q4⟩ := hFo.value (by simp [Syst.n]) (by have := hok.m0; have := hok.m1; simp only [Syst.n]; omega) hok.arcs hsz
      exact ⟨H3, _, _, _, hle1.trans (hle2.trans hle3), rfl, .second ⟨hA, fun h => (h rfl).elim, fun _ => ⟨q1, q3, q4⟩⟩ ⟨hA2, fun _ => rfl, fun h => (hc26 h).elim⟩ hc26, hs.tail⟩
    · refine .skip ?_
      refine nT ?_
      refine .regSeq (.z zm ?_)
      subst hc26
      obtain ⟨bf2, bt2, bl2, cl2, ts2, lf2, vl2, sp2, rfl, hF2, hFo2, hok2, hsz2⟩ := heq2 rfl
      refine .o (.call Try.call141 rfl (bound_flow_bound_spec hs hok hF2 hFo2 hsz2) ?_); rintro _ w ⟨rfl, a1, a2, a3, hs⟩
      simp only [BB] at a2 a3
      refine .z zneg (.z zm ?_)
      refine .o (.call Try.call141 rfl (bound_flow_bound_spec hs hok (hF.mono (hle2.trans hle3)) hFo hsz) ?_); rintro _ w ⟨rfl, c1, c2, c3, hs⟩
      refine .z zg (.z zg (.z zg (.nil ?_)))
      refine .ret (Fin.ret3 Try.results60 rfl rfl rfl ?_)
      exact ⟨H3, _, _, _, hle1.trans (hle2.trans hle3), rfl, .ok ⟨hA, fun h => (h rfl).elim, fun _ => ⟨c1, c2, c3⟩⟩ ⟨hA2, fun h => (h rfl).elim, fun _ => ⟨a1, by simp only [BB]; omega, by simp only [BB]; omega⟩⟩, hs.tail⟩
end Go.Proofs.Ytiiokdeehlfeeaa

namespace Go.Proofs.Ytiiokdeehlfeeaa
open Go.MW
theorem bound_flow_point_spec {H : Heap} {w : World} {σ : List Ent} {bf bt bl cl : Nat} {s : Syst} {ts lf ws : List Int} {vl : Value} {sp : List Value} (hs : St H w σ) (hok : s.Ok) (hF : FlowH H bf s ts lf vl bt bl cl sp) (hFo : FlowOk s.n s.arcs (wtOf ws s.n) ts) (hsz : sizesTo ws s.n ≤ FF) :
    Cl Try.prog 147 [.pointer (some ⟨bf, 0, none⟩)] w fun v w' => ∃ H1 xs, HLe H H1 ∧ RI H1 v xs ∧ BestR s ws xs ∧ St H1 w' σ := by
  obtain ⟨N, hN⟩ := Int.eq_ofNat_of_zero_le hok.m0
  have hN1 := hok.m1
  have hn : s.n = N + 1 := by simp [Syst.n, hN]
  have hlt := hFo.lt
  have hal : s.arcs.length = s.lims.length := by simp [Syst.arcs, arcsOf_length]
  have hlim := hok.len
  have hf0 : cellAt H bf 0 = some (I (N : Int)) := by have := hF.f.at 0 (v := I s.many); rwa [hN] at this
  have hoka := resid_arcs hok.arcs hlt.symm (by omega)
  rw [hn] at hoka
  refine Cl.of Try.func147 rfl Try.ntmps147 (by simp) (args_cons (k := 0) rfl (args0)) ?_
  refine .regSeq (.z zg (.nil ?_))
  refine .seq (.draw mix rfl hs ?_); intro w hs
  refine .z 0 rfl zm ?_; refine .z 1 rfl znc ?_; refine .z 2 rfl (zfa fa_bound_flow_0) ?_; refine .z 3 rfl (zfa fa_api_System_0) ?_; refine .y 4 rfl hs Try.isAgg3 ?_; refine .z 5 rfl zm ?_
  refine .e1 (i := 6) (by kernel_rfl) rfl rfl .none hs ?_
  refine .call Try.call195 rfl (bound_flow_rest_spec hs hok hF (by omega)) ?_; rintro _ w ⟨H1, b15, hle1, rfl, hit, hs⟩
  refine .go ?_
  refine .e1 (i := 7) (by kernel_rfl) rfl rfl .none hs ?_
  refine .call Try.call173 rfl (bound_nearest_spec hs (by omega) hoka hit Try.call211) ?_; rintro _ w ⟨H2, bc, bb, st, ov, vo, hle2, rfl, hov, ⟨r, hNI, hr⟩, hs⟩
  have hovn : ov = none := by
    cases ov with
    | none => rfl
    | some x => exact (hNI.none hoka (by omega) (by have := hr (by simp); omega) hFo.fe).elim
  subst hovn
  obtain ⟨hfe, hbd⟩ := hNI.sol hoka (by omega)
  have hlc := hNI.lc
  have hb0 := hbd 0 (by omega)
  refine .go ?_
  refine .z 8 rfl zm ?_; refine .z 9 rfl zex ?_; refine .z 10 rfl zex ?_; refine .z 11 rfl zex ?_; refine .z 12 rfl zg ?_; refine .z 13 rfl zg ?_; refine .z 14 rfl zg ?_; refine .done (by kernel_rfl) hs ?_
  refine .regSeq (.z zm ?_)
  refine .q hs (q_ixO (k := 0) rfl rfl Try.runUnderlying22 Try.sizeOf3 rfl (by omega)) ?_
  refine .y hs (zld Try.isAgg3) (.z zg (.nil (.seq (.regSeq (.z zm (.z (zlen Try.runUnderlying22) (.z zm (.nil ?_))))))))
  refine .for (N := N + 1) (J := fun k fr w => fr = [(3, .slice (some ⟨bc, 0, none⟩) (N + 1) (N + 1)), (6, I (gi st.cost 0))] ∧ ∃ L, (L.length = N + 1 ∧ ∀ v < N + 1, gi L v = if v < k then gi st.cost v - gi st.cost 0 else gi st.cost v) ∧ St H2 w (.blk bc (Is L) :: σ)) (by omega) ?_ ?_ ?_
  · exact .mk ⟨rfl, st.cost, ⟨hlc, fun v hv => by rw [if_neg (by omega)]⟩, hs.sub (by repeat (first | exact Sub.refl _ | constructor | apply Sub.weaken))⟩
  · rintro k fr w hk ⟨rfl, L, ⟨hL1, hL2⟩, hs⟩
    have hLk := hL2 k hk
    rw [if_neg (by omega)] at hLk
    have hbk := hbd k hk
    refine .block (.regSeq (.z zm (.z zg (.nil (.region (.z zm (.z zm ?_)))))))
    first | (refine .ixv hs Try.runUnderlying22 Try.sizeOf3 ?_; intro b30 o30 hc30) | refine .z (zix Try.runUnderlying22 Try.sizeOf3) ?_
    refine .y hs (zld Try.isAgg3) (.z zm (.z zsub ?_))
    first | (refine .ixv hs Try.runUnderlying22 Try.sizeOf3 ?_; intro b34 o34 hc34) | refine .z (zix Try.runUnderlying22 Try.sizeOf3) ?_
    refine .o (.store hs rfl rfl Try.sizeOf3 ?_); intro w hs
    refine .nil ?_
    refine nB (nT ?_)
    refine .mk ⟨rfl, _, ⟨by rw [List.length_set]; exact hL1, fun v hv => ?_⟩, hs⟩
    rw [gi_set (by omega)]
    by_cases e : v = k
    · subst e; rw [if_pos rfl, if_pos (by omega), hLk]
    · rw [if_neg e, hL2 v hv]; congr 1; apply propext; omega
  · rintro fr w ⟨rfl, L, ⟨hL1, hL2⟩, hs⟩
    refine nT ?_
    refine .regSeq (.z zm (.z zg (.nil ?_)))
    refine .ret (Fin.ret1 Try.results147 rfl ?_)
    obtain ⟨H3, g1, g2, hs⟩ := hs.publish .here
    have hg : ∀ v < N + 1, gi L v = gi st.cost v - gi st.cost 0 := fun v hv => by rw [hL2 v hv, if_pos hv]
    obtain ⟨p1, p2⟩ := hFo.point (by omega) hok.arcs hfe
    refine ⟨H3, L, hle1.trans (hle2.trans g1), ?_, ⟨by omega, by rw [hg 0 (by omega)]; omega, fun v hv => ?_, fun x hx => ?_, ?_⟩, hs⟩
    · have := Row.RI (spare := []) (by simpa using g2) (N + 1) (by omega) (by omega)
      rwa [hL1] at this
    · have := hbd v (by omega)
      rw [hg v (by omega)]; omega
    · have h1 := hok.arcs.2 x hx
      have h2 := p2 x hx
      rw [hg _ (by omega), hg _ (by omega)]; omega
    · have h1 := hFo.value (by omega) (by omega) hok.arcs hsz
      rw [← p1] at h1
      have e : sumTo (fun v => gi ws v * gi L v) s.n = sumTo (fun v => gi ws v * (gi st.cost v - gi st.cost 0)) s.n := sumTo_congr fun v hv => by rw [hg v (by omega)]
      rw [e]; exact h1.1
theorem bound_Best_spec {H : Heap} {w : World} {σ : List Ent} {v vw : Value} {s : Syst} {ws : List Int} (hs : St H w σ) (hr : RSy H v s) (hrw : RI H vw ws) :
    Cl Try.prog 61 [v, vw] w fun v w' => ∃ H1 vx xs e, HLe H H1 ∧ v = .tuple #[vx, I e] ∧ AskR s ws e ∧ RI H1 vx xs ∧ (e ≠ 0 → xs = []) ∧ (e = 0 → BestR s ws xs) ∧ St H1 w' σ := by
  obtain ⟨vl, rfl, hr⟩ := hr
  refine Cl.of Try.func61 rfl Try.ntmps61 (by simp) (args_cons (k := 0) rfl (args_cons (k := 1) rfl (args0))) ?_
  refine .regSeq ?_
  refine .o (.box hs rfl rfl ?_); intro b2 w hs
  refine .z zg (.z zg (.nil (.regSeq (.y hs (zls [_, _] Try.isAgg32 Try.sizeOf32) (.z zm ?_)))))
  refine .o (.call Try.call140 rfl (bound_asked_spec (s := s) hs ⟨_, rfl, hr⟩ hrw) ?_); rintro _ w ⟨H1, e, pf, hle1, rfl, hA, hs, hne, heq⟩
  refine .z zm (.z zex (.z zex (.z zg (.z zg (.nil (.seq (.regSeq (.z zm (.z zneq ?_)))))))))
  refine .nil ?_
  refine (.condN rfl (fun hc15 => ?_) (fun hc15 => ?_))
  · refine .regSeq (.z zm (.z zg (.z zg (.nil ?_))))
    refine .ret (rT (Fin.ret2 Try.results61 rfl rfl ?_))
    exact ⟨H1, _, [], _, hle1, rfl, hA, RS.nil H1 1 none 0, fun _ => rfl, fun h => (hc15 h).elim, hs.tail⟩
  · refine .skip ?_
    refine nT ?_
    refine .regSeq (.z zm ?_)
    subst hc15
    obtain ⟨bf, bt, bl, cl, ts, lf, vl, sp, rfl, hF, hFo, hok, hsz⟩ := heq rfl
    refine .o (.call Try.call147 rfl (bound_flow_point_spec hs hok hF hFo hsz) ?_); rintro v18 w ⟨H2, xs, hle2, hx, hB, hs⟩
    refine .z zg (.z zg (.nil ?_))
    refine .ret (Fin.ret2 Try.results61 rfl rfl ?_)
    exact ⟨H2, _, xs, _, hle1.trans hle2, rfl, hA, hx, fun h => (h rfl).elim, fun _ => hB, hs.tail⟩
end Go.Proofs.Ytiiokdeehlfeeaa

namespace Go.Proofs.Ytiiokdeehlfeeaa
open Go.MW
theorem slices_Clone_Lim {H : Heap} {w : World} {σ : List Ent} {v : Value} {xs : List Lim} (hs : St H w σ) (hr : RL H v xs) (hx : xs.length ≤ 1000000) : Cl Try.prog 143 [v] w fun v w' => ∃ en, OwnS 4 v (Lims xs) en ∧ St H w' (en :: σ) := by
  obtain ⟨a, c, rfl⟩ := RL.shape hr
  refine Cl.of Try.func143 rfl Try.ntmps143 (by simp) (args_cons (k := 0) rfl (args0)) ?_
  refine .regSeq (.z zg (.nil (.seq (.regSeq (.z zm ?_)))))
  refine .q hs (q_eqSN rfl rfl Try.runUnderlying30) ?_
  refine .nil ?_
  refine (.cond rfl (fun hc4 => ?_) (fun hc4 => ?_))
  · refine .regSeq (.z zg (.nil ?_))
    refine .ret (rT (Fin.ret1 Try.results143 rfl ?_))
    obtain rfl : a = none := by simpa using hc4
    obtain rfl := RL.nilOf hr
    exact ⟨.nul, .nil 4 none, hs.nul⟩
  · refine .skip ?_
    refine nT ?_
    refine .regSeq ?_
    refine .o (.buildSlice (cells := []) hs bls_sl_api_Limit_0 rfl rfl ?_); intro b5 w hs
    refine .z zm ?_
    refine .o (.append (xs := []) (ys := Lims xs) hs app_sl_api_Limit_api_Limit rfl rfl (.full rfl) (by have := Src.rs (P := Try.prog) (σ := .blk b5 [] :: σ) hr; rw [List.length_map] at this; exact this) (Lims_cell xs) (fun l h => by simp at h; omega) ?_); intro v7 en7 w hO hs
    refine .z zg (.nil ?_)
    refine .ret (Fin.ret1 Try.results143 rfl ?_)
    exact ⟨en7, hO, hs⟩
end Go.Proofs.Ytiiokdeehlfeeaa

namespace Go.Proofs.Ytiiokdeehlfeeaa
open Go.MW
structure Pck where
  probes : List Int
  width : Int
  bound : Int
  uses : List Use
  fails : List (List Int × List Int)
def Pck.none : Pck := ⟨[], 0, 0, [], []⟩
def RPick (H : Heap) (v : Value) (p : Pck) : Prop := ∃ (vp vu vf : Value) (css : List (List Value)), v = .agg #[vp, I p.width, I p.bound, vu, vf] ∧ RI H vp p.probes ∧ RU H vu p.uses ∧ RS H 2 vf css ∧ css.length = p.fails.length ∧ ∀ (j : Nat) (c : List Value) (t : List Int × List Int), css[j]? = some c → p.fails[j]? = some t → TwC H c t
theorem RPick.nil (H : Heap) : RPick H (.agg #[.slice none 0 0, I 0, I 0, .slice none 0 0, .slice none 0 0]) .none :=
  ⟨_, _, _, [], rfl, RS.nil _ _ _ _, RS.nil _ _ _ _, RS.nil _ _ _ _, rfl, fun _ _ _ h => by simp at h⟩
end Go.Proofs.Ytiiokdeehlfeeaa

namespace Go.Proofs.Ytiiokdeehlfeeaa
open Go.MW
theorem ref02_Same_spec {H : Heap} {w : World} {σ : List Ent} {va vb : Value} {A B : List Int} (hs : St H w σ) (hA : RI H va A) (hB : RI H vb B) :
    Cl Try.prog 31 [va, vb] w fun v w' => v = .bool (decide (A = B)) ∧ St H w' σ := by
  obtain ⟨aA, cA, rfl⟩ := RI.shape hA
  obtain ⟨aB, cB, rfl⟩ := RI.shape hB
  have hlA := (RI.len hA).2.2
  have hlB := (RI.len hB).2.2
  refine Cl.of Try.func31 rfl Try.ntmps31 (by simp) (args_cons (k := 0) rfl (args_cons (k := 1) rfl (args0))) ?_
  refine .regSeq (.z zg (.nil (.seq (.regSeq (.z zm (.z (zlen Try.runUnderlying22) (.z zm (.z (zlen Try.runUnderlying22) (.z zneq ?_)))))))))
  refine .nil ?_
  refine (.condN rfl (fun hc10 => ?_) (fun hc10 => ?_))
  · refine .regSeq (.z zg (.nil ?_))
    refine .ret (rT (Fin.ret1 Try.results31 rfl ?_))
    exact ⟨by rw [decide_eq_false (by intro h; subst h; exact hc10 rfl)], hs⟩
  · refine .skip ?_
    refine nT ?_
    refine .seq (.regSeq (.z zm (.z (zlen Try.runUnderlying22) (.z zm (.nil ?_)))))
    refine .for (N := A.length) (J := fun k fr w => fr = [(0, .slice aA A.length cA), (1, .slice aB B.length cB)] ∧ (∀ j < k, A[j]? = B[j]?) ∧ St H w σ) (by omega) ?_ ?_ ?_
    · exact .mk ⟨rfl, fun j h => by omega, hs⟩
    · rintro k fr w hk ⟨rfl, h0, hs⟩
      obtain ⟨xA, hxA⟩ := nth hk
      obtain ⟨xB, hxB⟩ := nth (l := B) (k := k) (by omega)
      refine .block (.regSeq (.z zm (.z zg (.nil ?_))))
      refine .seq (.draw mix rfl hs ?_); intro w hs
      refine .z 0 rfl zm ?_; refine .z 1 rfl zm ?_
      refine .ixX (enc := fun x => [I x]) (i := 2) hs rfl (by kernel_rfl) .none hA rfl rfl Try.runUnderlying22 Try.sizeOf3 hxA rfl ?_; intro b18 o18 hc18; replace hc18 := CellsAt.one hc18
      refine .r (i := 3) hs rfl (by kernel_rfl) .none (q_loadR rfl Try.isAgg3 hc18) ?_
      refine .z 4 rfl zm ?_; refine .z 5 rfl zm ?_
      refine .ixX (enc := fun x => [I x]) (i := 6) hs rfl (by kernel_rfl) .none hB rfl rfl Try.runUnderlying22 Try.sizeOf3 hxB rfl ?_; intro b22 o22 hc22; replace hc22 := CellsAt.one hc22
      refine .r (i := 7) hs rfl (by kernel_rfl) .none (q_loadR rfl Try.isAgg3 hc22) ?_
      refine .z 8 rfl zneq ?_; refine .done (by kernel_rfl) hs ?_
      refine (.condN rfl (fun hc24 => ?_) (fun hc24 => ?_))
      · refine .regSeq (.z zg (.nil ?_))
        refine .ret (rB (rT (rB (rT (Fin.ret1 Try.results31 rfl ?_)))))
        exact ⟨by rw [decide_eq_false (by intro h; subst h; rw [hxA] at hxB; cases hxB; exact hc24 rfl)], hs⟩
      · refine .skip ?_
        refine nB (nT ?_)
        exact .mk ⟨rfl, fun j hj => by
          by_cases e : j = k
          · subst e; rw [hxA, hxB, hc24]
          · exact h0 j (by omega), hs⟩
    · rintro fr w ⟨rfl, h0, hs⟩
      refine nT ?_
      refine .regSeq (.z zg (.nil ?_))
      refine .ret (Fin.ret1 Try.results31 rfl ?_)
      exact ⟨by rw [decide_eq_true (List.ext_getElem? fun j => by
        by_cases e : j < A.length
        · exact h0 j e
        · rw [List.getElem?_eq_none (by omega), List.getElem?_eq_none (by omega)])], hs⟩
end Go.Proofs.Ytiiokdeehlfeeaa

namespace Go.Proofs.Ytiiokdeehlfeeaa
open Go.MW
theorem rem_emod {n m : Int} (hm : 0 < m) : (n.tmod m + m).tmod m = n % m := by
  have h2 := Int.lt_tmod_of_pos n hm
  rw [Int.tmod_eq_emod_of_nonneg (by omega), Int.tmod_def, show n - m * n.tdiv m + m = n + m * (1 - n.tdiv m) by rw [Int.mul_sub]; omega, Int.add_mul_emod_self_left]
end Go.Proofs.Ytiiokdeehlfeeaa

namespace Go.Proofs.Ytiiokdeehlfeeaa
open Go.MW
def ways0 (i j : Nat) : Int := if i = j then 0 else free
theorem ways0_B {n : Nat} (es : List Arc) {T : Nat → Nat → Int} (h : ∀ i j, i < n → j < n → T i j = ways0 i j) : WayB n es 0 T :=
  ⟨fun i hi => by rw [h i i hi hi]; simp [ways0], fun _ _ h => by omega, fun i j hi hj hij => .inl (by rw [h i j hi hj]; simp [ways0, hij])⟩
end Go.Proofs.Ytiiokdeehlfeeaa

namespace Go.Proofs.Ytiiokdeehlfeeaa
open Go.MW
def SettledR (a : Quest) (b : Bool) (e : Int) : Prop := (CAskR a e ∧ e ≠ 0 ∧ b = false) ∨ (AskOk a ∧ e = 0 ∧ ∃ lo hi, RangeR a.sys a.ws lo hi 0 ∧ b = decide (hi - lo ≤ a.width))
def SideR (a : Quest) (z x e : Int) : Prop := (CAskR a e ∧ e ≠ 0 ∧ x = 0) ∨ (AskOk a ∧ e = 0 ∧ ∃ lo hi, RangeR a.sys a.ws lo hi 0 ∧ x = if z ≤ lo then 1 else if hi < z then 0 else 2)
theorem WidthR.uniq {a : Quest} {n m e f : Int} (h : WidthR a n e) (g : WidthR a m f) : n = m ∧ e = f := by
  rcases h with ⟨h1, h2, h3⟩ | ⟨h1, h2, lo, hi, h3, h4⟩ <;> rcases g with ⟨g1, g2, g3⟩ | ⟨g1, g2, lo', hi', g3, g4⟩
  · exact ⟨by rw [h3, g3], h1.uniq g1⟩
  · exact (h2 (h1.uniq (CAskR.zero.2 g1))).elim
  · exact (g2 (g1.uniq (CAskR.zero.2 h1))).elim
  · obtain ⟨rfl, rfl, -⟩ := h3.uniq g3; exact ⟨by rw [h4, g4], by rw [h2, g2]⟩
theorem SettledR.uniq {a : Quest} {n m : Bool} {e f : Int} (h : SettledR a n e) (g : SettledR a m f) : n = m ∧ e = f := by
  rcases h with ⟨h1, h2, h3⟩ | ⟨h1, h2, lo, hi, h3, h4⟩ <;> rcases g with ⟨g1, g2, g3⟩ | ⟨g1, g2, lo', hi', g3, g4⟩
  · exact ⟨by rw [h3, g3], h1.uniq g1⟩
  · exact (h2 (h1.uniq (CAskR.zero.2 g1))).elim
  · exact (g2 (g1.uniq (CAskR.zero.2 h1))).elim
  · obtain ⟨rfl, rfl, -⟩ := h3.uniq g3; exact ⟨by rw [h4, g4], by rw [h2, g2]⟩
theorem SideR.uniq {a : Quest} {z n m e f : Int} (h : SideR a z n e) (g : SideR a z m f) : n = m ∧ e = f := by
  rcases h with ⟨h1, h2, h3⟩ | ⟨h1, h2, lo, hi, h3, h4⟩ <;> rcases g with ⟨g1, g2, g3⟩ | ⟨g1, g2, lo', hi', g3, g4⟩
  · exact ⟨by rw [h3, g3], h1.uniq g1⟩
  · exact (h2 (h1.uniq (CAskR.zero.2 g1))).elim
  · exact (g2 (g1.uniq (CAskR.zero.2 h1))).elim
  · obtain ⟨rfl, rfl, -⟩ := h3.uniq g3; exact ⟨by rw [h4, g4], by rw [h2, g2]⟩
end Go.Proofs.Ytiiokdeehlfeeaa

namespace Go.Proofs.Ytiiokdeehlfeeaa
open Go.MW
def PairsR (a : Quest) (l : List Prb) (S : Syst) (W : List Int) (e : Int) : Prop := (CPrbR a l e ∧ e ≠ 0 ∧ S = ⟨0, []⟩ ∧ W = []) ∨ (CPrbR a l 0 ∧ e = 0 ∧ S = dblS a l ∧ W = dblW a.ws)
theorem PairsR.uniq {a : Quest} {l : List Prb} {S T : Syst} {W V : List Int} {e f : Int} (h : PairsR a l S W e) (g : PairsR a l T V f) : S = T ∧ W = V ∧ e = f := by
  rcases h with ⟨h1, h2, h3, h4⟩ | ⟨h1, h2, h3, h4⟩ <;> rcases g with ⟨g1, g2, g3, g4⟩ | ⟨g1, g2, g3, g4⟩
  · exact ⟨by rw [h3, g3], by rw [h4, g4], h1.uniq g1⟩
  · exact (h2 (h1.uniq g1)).elim
  · exact (g2 (g1.uniq h1)).elim
  · exact ⟨by rw [h3, g3], by rw [h4, g4], by rw [h2, g2]⟩
def WorstR (a : Quest) (l : List Prb) (n e : Int) : Prop := (CPrbR a l e ∧ e ≠ 0 ∧ n = 0) ∨ (CPrbR a l 0 ∧ e = 0 ∧ PairS a l n)
theorem WorstR.uniq {a : Quest} {l : List Prb} {n m e f : Int} (h : WorstR a l n e) (g : WorstR a l m f) : n = m ∧ e = f := by
  rcases h with ⟨h1, h2, h3⟩ | ⟨h1, h2, h3⟩ <;> rcases g with ⟨g1, g2, g3⟩ | ⟨g1, g2, g3⟩
  · exact ⟨by rw [h3, g3], h1.uniq g1⟩
  · exact (h2 (h1.uniq g1)).elim
  · exact (g2 (g1.uniq h1)).elim
  · exact ⟨h3.uniq g3, by rw [h2, g2]⟩
end Go.Proofs.Ytiiokdeehlfeeaa

namespace Go.Proofs.Ytiiokdeehlfeeaa
open Go.MW
inductive CWR (a : Quest) (l : List Prb) (n m : Int) (us : List Use) : Int → Prop
  | ask {e : Int} (h : CPrbR a l e) (he : e ≠ 0) : CWR a l n m us e
  | bad {e : Int} (h : CPrbR a l 0) (h1 : ProofR (dblS a l) (dblW a.ws) m us e) (he : e ≠ 0) : CWR a l n m us 24
  | more (h : CPrbR a l 0) (h1 : ProofR (dblS a l) (dblW a.ws) m us 0) (he : n < m) : CWR a l n m us 94
  | ok (h : CPrbR a l 0) (h1 : ProofR (dblS a l) (dblW a.ws) m us 0) (he : ¬ n < m) : CWR a l n m us 0
theorem CWR.uniq {a : Quest} {l : List Prb} {n m : Int} {us : List Use} {e f : Int} (h : CWR a l n m us e) (g : CWR a l n m us f) : e = f := by
  cases h with
  | ask h he =>
    cases g with
    | ask g _ => exact h.uniq g
    | bad g _ _ => exact (he (h.uniq g)).elim
    | more g _ _ => exact (he (h.uniq g)).elim
    | ok g _ _ => exact (he (h.uniq g)).elim
  | bad h h1 he =>
    cases g with
    | ask g ge => exact (ge (g.uniq h)).elim
    | bad g _ _ => rfl
    | more g g1 _ => exact (he (h1.uniq g1)).elim
    | ok g g1 _ => exact (he (h1.uniq g1)).elim
  | more h h1 he =>
    cases g with
    | ask g ge => exact (ge (g.uniq h)).elim
    | bad g g1 ge => exact (ge (g1.uniq h1)).elim
    | more g _ _ => rfl
    | ok g _ ge => exact (ge he).elim
  | ok h h1 he =>
    cases g with
    | ask g ge => exact (ge (g.uniq h)).elim
    | bad g g1 ge => exact (ge (g1.uniq h1)).elim
    | more g _ ge => exact (he ge).elim
    | ok g _ _ => rfl
end Go.Proofs.Ytiiokdeehlfeeaa

namespace Go.Proofs.Ytiiokdeehlfeeaa
open Go.MW
inductive CycR (s : Syst) (xs : List Int) : Int → Prop
  | bad (h : s.check ≠ 0) (h1 : xs = []) : CycR s xs s.check
  | sound (h : s.Ok) (h1 : s.Sound) (h2 : xs = []) : CycR s xs 0
  | chain {st : BS} {x : Arc} {z k : Nat} (h : s.Ok) (h1 : ¬ s.Sound) (h2 : NearR s.n s.arcs st (some x)) (h3 : z = parK st.by_ x.t (s.n + 1)) (h4 : 1 ≤ k) (h5 : k ≤ s.n) (h6 : parK st.by_ z k = z) (h7 : xs = (idxTo st.by_ z k).reverse) : CycR s xs 0
end Go.Proofs.Ytiiokdeehlfeeaa

namespace Go.Proofs.Ytiiokdeehlfeeaa
open Go.MW
def ROut (H : Heap) (v : Value) (vs : List Int) : Prop := ∃ u, v = .agg #[u] ∧ RI H u vs
theorem ROut.mono {H H' : Heap} {v : Value} {vs : List Int} (h : ROut H v vs) (hl : HLe H H') : ROut H' v vs := by
  obtain ⟨u, h1, h2⟩ := h; exact ⟨u, h1, h2.mono hl⟩
end Go.Proofs.Ytiiokdeehlfeeaa

namespace Go.Proofs.Ytiiokdeehlfeeaa
open Go.MW
inductive COutR (a : Quest) (l : List Prb) (vs : List Int) : Int → Prop
  | ask {e : Int} (h : CPrbR a l e) (he : e ≠ 0) : COutR a l vs e
  | size (h : CPrbR a l 0) (h1 : vs.length ≠ l.length) : COutR a l vs 92
  | ok (h : CPrbR a l 0) (h1 : vs.length = l.length) : COutR a l vs 0
theorem COutR.zero {a : Quest} {l : List Prb} {vs : List Int} (h : COutR a l vs 0) : CPrbR a l 0 ∧ vs.length = l.length := by
  generalize hz : (0 : Int) = y at h
  cases h with
  | ask _ he => exact (he hz.symm).elim
  | size => omega
  | ok h h1 => exact ⟨h, h1⟩
theorem COutR.uniq {a : Quest} {l : List Prb} {vs : List Int} {e f : Int} (h : COutR a l vs e) (g : COutR a l vs f) : e = f := by
  cases h with
  | ask h he =>
    cases g with
    | ask g _ => exact h.uniq g
    | size g _ => exact (he (h.uniq g)).elim
    | ok g _ => exact (he (h.uniq g)).elim
  | size h h1 =>
    cases g with
    | ask g ge => exact (ge (g.uniq h)).elim
    | size => rfl
    | ok _ g1 => exact (h1 g1).elim
  | ok h h1 =>
    cases g with
    | ask g ge => exact (ge (g.uniq h)).elim
    | size _ g1 => exact (g1 h1).elim
    | ok => rfl
end Go.Proofs.Ytiiokdeehlfeeaa

namespace Go.Proofs.Ytiiokdeehlfeeaa
open Go.MW
structure KeepsP (s : Syst) (x : List Int) : Prop where
  len : x.length = s.n
  zero : gi x 0 = 0
  free : ∀ v < s.n, -1000000000 ≤ gi x v ∧ gi x v ≤ 1000000000
  feas : Feas s.arcs (gi x)
end Go.Proofs.Ytiiokdeehlfeeaa

namespace Go.Proofs.Ytiiokdeehlfeeaa
open Go.MW
inductive CPtR (s : Syst) (x : List Int) : Int → Prop
  | bad (h : s.check ≠ 0) : CPtR s x s.check
  | off (h : s.Ok) (h1 : ¬ KeepsP s x) : CPtR s x 25
  | ok (h : s.Ok) (h1 : KeepsP s x) : CPtR s x 0
theorem CPtR.uniq {s : Syst} {x : List Int} {e f : Int} (h : CPtR s x e) (g : CPtR s x f) : e = f := by
  cases h with
  | bad h =>
    cases g with
    | bad => rfl
    | off g _ => exact (h (s.ok_iff.2 g)).elim
    | ok g _ => exact (h (s.ok_iff.2 g)).elim
  | off h h1 =>
    cases g with
    | bad g => exact (g (s.ok_iff.2 h)).elim
    | off => rfl
    | ok _ g1 => exact (h1 g1).elim
  | ok h h1 =>
    cases g with
    | bad g => exact (g (s.ok_iff.2 h)).elim
    | off _ g1 => exact (g1 h1).elim
    | ok => rfl
end Go.Proofs.Ytiiokdeehlfeeaa

namespace Go.Proofs.Ytiiokdeehlfeeaa
open Go.MW
def ValR (a : Quest) (p : Prb) (lo hi e : Int) : Prop := (CPrbR a [p] e ∧ e ≠ 0 ∧ lo = 0 ∧ hi = 0) ∨ (CPrbR a [p] 0 ∧ e = 0 ∧ ∃ l h, RangeR a.sys (oneW a.sys.many p.u) l h 0 ∧ lo = l - p.t ∧ hi = h + p.t)
theorem ValR.uniq {a : Quest} {p : Prb} {lo hi e lo' hi' e' : Int} (h : ValR a p lo hi e) (g : ValR a p lo' hi' e') : lo = lo' ∧ hi = hi' ∧ e = e' := by
  rcases h with ⟨h1, h2, h3, h4⟩ | ⟨h1, h2, l, u, h3, h4, h5⟩
  · rcases g with ⟨g1, g2, g3, g4⟩ | ⟨g1, g2, _⟩
    · exact ⟨by omega, by omega, h1.uniq g1⟩
    · exact (h2 (h1.uniq g1)).elim
  · rcases g with ⟨g1, g2, g3, g4⟩ | ⟨g1, g2, l', u', g3, g4, g5⟩
    · exact (g2 (g1.uniq h1)).elim
    · obtain ⟨rfl, rfl, _⟩ := h3.uniq g3
      exact ⟨by omega, by omega, by omega⟩
end Go.Proofs.Ytiiokdeehlfeeaa

namespace Go.Proofs.Ytiiokdeehlfeeaa
open Go.MW
def apartV (a : Quest) (A B : List Int) (k : Nat) : Int := sumTo (fun i => gi a.ws i * (gi B i - gi A i)) k
inductive ApR (a : Quest) (l : List Prb) (A B : List Int) : Int → Int → Prop
  | point (h1 : ¬ (KeepsP a.sys A ∧ KeepsP a.sys B)) : ApR a l A B 0 25
  | far (h1 : KeepsP a.sys A) (h2 : KeepsP a.sys B) (h3 : ¬ Near l (gi A) (gi B)) : ApR a l A B 0 92
  | ok (h1 : KeepsP a.sys A) (h2 : KeepsP a.sys B) (h3 : Near l (gi A) (gi B)) : ApR a l A B (IntKind.i64.wrap (apartV a A B a.ws.length)) 0
theorem ApR.uniq {a : Quest} {l : List Prb} {A B : List Int} {n m e f : Int} (h : ApR a l A B n e) (g : ApR a l A B m f) : n = m ∧ e = f := by
  cases h with
  | point h1 =>
    cases g with
    | point => exact ⟨rfl, rfl⟩
    | far g1 g2 _ => exact (h1 ⟨g1, g2⟩).elim
    | ok g1 g2 _ => exact (h1 ⟨g1, g2⟩).elim
  | far h1 h2 h3 =>
    cases g with
    | point g1 => exact (g1 ⟨h1, h2⟩).elim
    | far => exact ⟨rfl, rfl⟩
    | ok _ _ g3 => exact (h3 g3).elim
  | ok h1 h2 h3 =>
    cases g with
    | point g1 => exact (g1 ⟨h1, h2⟩).elim
    | far _ _ g3 => exact (g3 h3).elim
    | ok => exact ⟨rfl, rfl⟩
def TwnR (a : Quest) (l : List Prb) (A B : List Int) (n e : Int) : Prop := (CPrbR a l e ∧ e ≠ 0 ∧ n = 0) ∨ (CPrbR a l 0 ∧ ApR a l A B n e)
theorem TwnR.uniq {a : Quest} {l : List Prb} {A B : List Int} {n m e f : Int} (h : TwnR a l A B n e) (g : TwnR a l A B m f) : n = m ∧ e = f := by
  rcases h with ⟨h1, h2, h3⟩ | ⟨h1, h2⟩
  · rcases g with ⟨g1, g2, g3⟩ | ⟨g1, g2⟩
    · exact ⟨by omega, h1.uniq g1⟩
    · exact (h2 (h1.uniq g1)).elim
  · rcases g with ⟨g1, g2, g3⟩ | ⟨g1, g2⟩
    · exact (g2 (g1.uniq h1)).elim
    · exact h2.uniq g2
end Go.Proofs.Ytiiokdeehlfeeaa

namespace Go.Proofs.Ytiiokdeehlfeeaa
open Go.MW
structure TwinF (a : Quest) (l : List Prb) (A B : List Int) : Prop where
  kA : KeepsP a.sys A
  kB : KeepsP a.sys B
  near : Near l (gi A) (gi B)
  most : PairS a l (apartV a A B a.ws.length)
  meet : meetErr A B l = 0
end Go.Proofs.Ytiiokdeehlfeeaa

namespace Go.Proofs.Ytiiokdeehlfeeaa
open Go.MW
theorem BestP.uniq {a : Quest} {l : List Prb} {x y e f : Int} (h : BestP a l x e) (g : BestP a l y f) : x = y ∧ e = f := by
  rcases h with ⟨h1, h2, h3⟩ | ⟨i, n, h1, h2, h3⟩
  · rcases g with ⟨g1, g2, g3⟩ | ⟨j, m, g1, g2, g3⟩
    · exact ⟨by omega, by omega⟩
    · subst h1; have := g3.lt; simp at this
  · rcases g with ⟨g1, g2, g3⟩ | ⟨j, m, g1, g2, g3⟩
    · subst g1; have := h3.lt; simp at this
    · refine ⟨?_, by omega⟩
      have e1 := h3.le j g3.lt m g3.here
      have e2 := g3.le i h3.lt n h3.here
      rcases Nat.lt_trichotomy i j with e | e | e
      · have := g3.first i e n h3.here; omega
      · omega
      · have := h3.first j e m g3.here; omega
end Go.Proofs.Ytiiokdeehlfeeaa

namespace Go.Proofs.Ytiiokdeehlfeeaa
open Go.MW
theorem TwinF.wrap {a : Quest} {l : List Prb} {A B : List Int} (hok : AskOk a) (h : TwinF a l A B) (hin : ∀ p ∈ l, PrbIn a p) : IntKind.i64.wrap (apartV a A B a.ws.length) = apartV a A B a.ws.length := by
  obtain ⟨lo, hi, hR⟩ := hok.range
  have hb := hR.bd
  obtain ⟨⟨x, y, g1, g2⟩, g3⟩ := h.most
  have h1 := Pair.le hR g1
  obtain ⟨z, hz⟩ := Pair.some hok hin
  have h2 := g3 z z hz
  exact i64wrap (by omega)
end Go.Proofs.Ytiiokdeehlfeeaa

namespace Go.Proofs.Ytiiokdeehlfeeaa
open Go.MW
def gtw (p : Pck) (j : Nat) : List Int × List Int := p.fails.getD j ([], [])
structure GoodK (a : Quest) (l : List Prb) (p : Pck) (k : Nat) : Prop where
  here : (choicesL l.length)[k]? = some p.probes
  len : p.fails.length = k
  width : p.width ≤ a.width
  worst : CWR a (chosenL l p.probes) p.width p.bound p.uses 0
  fails : ∀ (j : Nat) (cj : List Int), j < k → (choicesL l.length)[j]? = some cj → ∃ n, ApR a (chosenL l cj) (gtw p j).1 (gtw p j).2 n 0 ∧ a.width < n
def PickR (a : Quest) (l : List Prb) (p : Pck) (e : Int) : Prop := (CPrbR a l e ∧ e ≠ 0) ∨ (CPrbR a l 0 ∧ ((e = 0 ∧ ∃ k, GoodK a l p k) ∨ (e = 93 ∧ ¬ ∃ k, GoodK a l p k)))
theorem PickR.uniq {a : Quest} {l : List Prb} {p : Pck} {e f : Int} (h : PickR a l p e) (g : PickR a l p f) : e = f := by
  rcases h with ⟨h1, h2⟩ | ⟨h1, h2⟩
  · rcases g with ⟨g1, g2⟩ | ⟨g1, g2⟩
    · exact h1.uniq g1
    · exact (h2 (h1.uniq g1)).elim
  · rcases g with ⟨g1, g2⟩ | ⟨g1, g2⟩
    · exact (g2 (g1.uniq h1)).elim
    · rcases h2 with ⟨h2, h3⟩ | ⟨h2, h3⟩ <;> rcases g2 with ⟨g2, g3⟩ | ⟨g2, g3⟩
      · omega
      · exact (g3 h3).elim
      · exact (h3 g3).elim
      · omega
end Go.Proofs.Ytiiokdeehlfeeaa

namespace Go.Proofs
open Go.Shelf
def Try.lays189_ren : Go.Shelf.Ren := ⟨fun | 189 => 199 | 125 => 213 | 257 => 212 | 128 => 227 | 129 => 228 | 294 => 218 | 295 => 219 | 296 => 220 | 297 => 221 | 298 => 222 | 299 => 223 | 216 => 224 | 300 => 225 | 301 => 226 | 328 => 229 | 329 => 230 | 330 => 231 | 331 => 232 | 332 => 233 | 215 => 234 | 343 => 235 | n => n, fun | 28 => 22 | 3 => 3 | 46 => 221 | 0 => 0 | 51 => 247 | 53 => 250 | 4 => 4 | 183 => 255 | 182 => 254 | 131 => 228 | 5 => 5 | 9 => 9 | 218 => 262 | 222 => 266 | 228 => 268 | 229 => 269 | n => n, fun | n => n⟩
theorem Try.lays189 : Go.Proofs.Lays.n189 Try.prog Try.lays189_ren := {
  mixed := by kernel_rfl
  f125 := Try.func213.trans (congrArg some (by kernel_rfl))
  f128 := Try.func227.trans (congrArg some (by kernel_rfl))
  f129 := Try.func228.trans (congrArg some (by kernel_rfl))
  f189 := Try.func199.trans (congrArg some (by kernel_rfl))
  f215 := Try.func234.trans (congrArg some (by kernel_rfl))
  f216 := Try.func224.trans (congrArg some (by kernel_rfl))
  f257 := Try.func212.trans (congrArg some (by kernel_rfl))
  f294 := Try.func218.trans (congrArg some (by kernel_rfl))
  f295 := Try.func219.trans (congrArg some (by kernel_rfl))
  f296 := Try.func220.trans (congrArg some (by kernel_rfl))
  f297 := Try.func221.trans (congrArg some (by kernel_rfl))
  f298 := Try.func222.trans (congrArg some (by kernel_rfl))
  f299 := Try.func223.trans (congrArg some (by kernel_rfl))
  f300 := Try.func225.trans (congrArg some (by kernel_rfl))
  f301 := Try.func226.trans (congrArg some (by kernel_rfl))
  f328 := Try.func229.trans (congrArg some (by kernel_rfl))
  f329 := Try.func230.trans (congrArg some (by kernel_rfl))
  f330 := Try.func231.trans (congrArg some (by kernel_rfl))
  f331 := Try.func232.trans (congrArg some (by kernel_rfl))
  f332 := Try.func233.trans (congrArg some (by kernel_rfl))
  f343 := Try.func235.trans (congrArg some (by kernel_rfl))
  t0 := Try.underlying0
  a0 := Try.isAgg0
  z0 := Try.sizeOf0
  v0 := Try.zeroValue0
  t3 := Try.underlying3
  a3 := Try.isAgg3
  z3 := Try.sizeOf3
  v3 := Try.zeroValue3
  t4 := Try.underlying4
  a4 := Try.isAgg4
  z4 := Try.sizeOf4
  v4 := Try.zeroValue4
  t5 := Try.underlying5
  a5 := Try.isAgg5
  z5 := Try.sizeOf5
  v5 := Try.zeroValue5
  t9 := Try.underlying9
  a9 := Try.isAgg9
  z9 := Try.sizeOf9
  v9 := Try.zeroValue9
  t28 := Try.underlying22
  a28 := Try.isAgg22
  z28 := Try.sizeOf22
  v28 := Try.zeroValue22
  t46 := Try.underlying221
  a46 := Try.isAgg221
  z46 := Try.sizeOf221
  v46 := Try.zeroValue221
  t51 := Try.underlying247
  a51 := Try.isAgg247
  z51 := Try.sizeOf247
  v51 := Try.zeroValue247
  t53 := Try.underlying250
  a53 := Try.isAgg250
  z53 := Try.sizeOf250
  v53 := Try.zeroValue250
  t131 := Try.underlying228
  a131 := Try.isAgg228
  z131 := Try.sizeOf228
  v131 := Try.zeroValue228
  t182 := Try.underlying254
  a182 := Try.isAgg254
  z182 := Try.sizeOf254
  v182 := Try.zeroValue254
  t183 := Try.underlying255
  a183 := Try.isAgg255
  z183 := Try.sizeOf255
  v183 := Try.zeroValue255
  t218 := Try.underlying262
  a218 := Try.isAgg262
  z218 := Try.sizeOf262
  v218 := Try.zeroValue262
  t222 := Try.underlying266
  a222 := Try.isAgg266
  z222 := Try.sizeOf266
  v222 := Try.zeroValue266
  t228 := Try.underlying268
  a228 := Try.isAgg268
  z228 := Try.sizeOf268
  v228 := Try.zeroValue268
  t229 := Try.underlying269
  a229 := Try.isAgg269
  z229 := Try.sizeOf269
  v229 := Try.zeroValue269 }
def Try.lays2n20_ren : Go.Shelf.Ren := ⟨fun | 20 => 200 | n => n, fun | 22 => 22 | 3 => 3 | 4 => 4 | 0 => 0 | n => n, fun | n => n⟩
theorem Try.lays2n20 : Go.Proofs.Lays2.n20 Try.prog Try.lays2n20_ren := {
  mixed := by kernel_rfl
  f20 := Try.func200.trans (congrArg some (by kernel_rfl))
  t0 := Try.underlying0
  a0 := Try.isAgg0
  z0 := Try.sizeOf0
  v0 := Try.zeroValue0
  t3 := Try.underlying3
  a3 := Try.isAgg3
  z3 := Try.sizeOf3
  v3 := Try.zeroValue3
  t4 := Try.underlying4
  a4 := Try.isAgg4
  z4 := Try.sizeOf4
  v4 := Try.zeroValue4
  t22 := Try.underlying22
  a22 := Try.isAgg22
  z22 := Try.sizeOf22
  v22 := Try.zeroValue22
  i3 := by kernel_rfl }
end Go.Proofs
namespace Go.Proofs.Ytiiokdeehlfeeaa
open Go.Sort Go.RowKit
theorem srt_Sort (blk off cap : Nat) (zs : List Int) (w : World) (hH : Holds (Value.int .i64) w blk off zs.toArray) (hblk : blk < w.heap.size) (hsz : zs.length < 4611686018427387904) :
    Calls Try.prog 199 #[.slice (some ⟨blk, off, none⟩) zs.length cap] w fun e w' => e = .returned (.tuple #[]) ∧ ∃ n os, w' = grow (putRow (Value.int .i64) (Sort.ahead w n) blk off (zs.mergeSort fun x y => decide (x ≤ y)).toArray) os :=
  Any.slices_Sort_int Try.lays189 blk off cap zs w hH hblk hsz
theorem srt_Sort_none (p : Option Addr) (cap : Nat) (w : World) : Calls Try.prog 199 #[.slice p 0 cap] w fun e w' => e = .returned (.tuple #[]) ∧ w' = w :=
  Any.slices_Sort_int_none Try.lays189 p cap w
theorem srt_Compact (blk off cap : Nat) (zs : List Int) (w : World) (hH : Holds (Value.int .i64) w blk off zs.toArray) (hsz : zs.length ≤ 9223372036854775807) (hcap : zs.length ≤ cap) :
    Calls Try.prog 200 #[.slice (some ⟨blk, off, none⟩) zs.length cap] w fun e w' => e = .returned (.slice (some ⟨blk, off, none⟩) (Lib.compact zs).length cap) ∧ ∃ q, w' = putRow (Value.int .i64) (Sort.ahead w q) blk off (Lib.compact zs ++ List.replicate (zs.length - (Lib.compact zs).length) 0).toArray :=
  Any.slices_Compact_int Try.lays2n20 blk off cap zs w hH hsz hcap
theorem srt_Compact_none (p : Option Addr) (cap : Nat) (w : World) : Calls Try.prog 200 #[.slice p 0 cap] w fun e w' => e = .returned (.slice p 0 cap) ∧ w' = w :=
  Any.slices_Compact_int_empty Try.lays2n20 p cap w
end Go.Proofs.Ytiiokdeehlfeeaa

namespace Go.Proofs.Ytiiokdeehlfeeaa
open Go.MW
inductive ReadyR (s : Syst) : Int → Prop
  | bad (h : s.check ≠ 0) : ReadyR s s.check
  | clash (h : s.Ok) (h1 : ¬ s.Sound) : ReadyR s 23
  | ok (h : s.Ok) (h1 : s.Sound) : ReadyR s 0
theorem bound_ready_spec {H : Heap} {w : World} {σ : List Ent} {v : Value} {s : Syst} (hs : St H w σ) (hr : RSy H v s) :
    Cl Try.prog 136 [v] w fun u w' => ∃ H1 e, HLe H H1 ∧ u = I e ∧ ReadyR s e ∧ St H1 w' σ := by
  obtain ⟨ul, rfl, hl⟩ := hr
  obtain ⟨al, cl, rfl⟩ := RL.shape hl
  refine Cl.of Try.func136 rfl Try.ntmps136 (by simp) (args_cons (k := 0) rfl (args0)) ?_
  refine .regSeq ?_
  refine .o (.box hs rfl rfl ?_); intro b1 w hs
  refine .z zg (.nil (.seq (.regSeq (.y hs (zls [_, _] Try.isAgg32 Try.sizeOf32) ?_))))
  refine .o (.call Try.call72 rfl (bound_Check_spec (s := s) hs ⟨_, rfl, hl⟩) ?_); rintro _ w ⟨rfl, hs⟩
  refine .z zg (.nil (.regSeq (.z zm (.z zneq (.nil ?_)))))
  refine (.condN rfl (fun hc7 => ?_) (fun hc7 => ?_))
  · refine .regSeq (.z zm (.z zg (.nil ?_)))
    refine .ret (rT (Fin.ret1 Try.results136 rfl ?_))
    exact ⟨H, _, HLe.refl H, rfl, .bad hc7, hs.out⟩
  · refine .skip ?_
    refine nT ?_
    refine .seq (.regSeq (.y hs (zls [_, _] Try.isAgg32 Try.sizeOf32) ?_))
    have hok : s.Ok := s.ok_iff.1 (by simpa using hc7)
    refine .o (.call Try.call149 rfl (bound_isSound_spec (s := s) hs hok ⟨_, rfl, hl⟩) ?_); rintro _ w ⟨H1, b10, hle1, rfl, hb, hs⟩
    refine .z znot (.nil ?_)
    refine (.cond rfl (fun hc11 => ?_) (fun hc11 => ?_))
    · refine .regSeq (.z zg (.nil ?_))
      refine .ret (rT (Fin.ret1 Try.results136 rfl ?_))
      exact ⟨H1, _, hle1, rfl, .clash hok (fun h => by simp [hb.2 h] at hc11), hs.out⟩
    · refine .skip ?_
      refine nT ?_
      refine .regSeq (.z zg (.nil ?_))
      refine .ret (Fin.ret1 Try.results136 rfl ?_)
      exact ⟨H1, _, hle1, rfl, .ok hok (hb.1 (by simpa using hc11)), hs.out⟩
set_option maxHeartbeats 4000000 in
theorem bound_matrix_spec {H : Heap} {w : World} {σ : List Ent} {v : Value} {s : Syst} (hs : St H w σ) (hr : RSy H v s) (hok : s.Ok) (hsd : s.Sound) :
    Cl Try.prog 137 [v] w fun u w' => ∃ H1 rs, HLe H H1 ∧ RT H1 u rs ∧ Sq s.n rs ∧ WaysT s.n s.arcs (gt rs) ∧ St H1 w' σ := by
  obtain ⟨ul, rfl, hl⟩ := hr
  obtain ⟨al, cl, rfl⟩ := RL.shape hl
  have hm0 := hok.m0
  have hm1 := hok.m1
  have hlen := hok.len
  have hnp := s.n_pos
  have hn65 := hok.n65
  have hinn := hok.inn
  have hmn : s.many + 1 = (s.n : Int) := by simp only [Syst.n]; omega
  obtain ⟨p0, hp0⟩ := hsd
  generalize hn : s.n = n at hnp hn65 hinn hmn ⊢
  refine Cl.of Try.func137 rfl Try.ntmps137 (by simp) (args_cons (k := 0) rfl (args0)) ?_
  refine .regSeq ?_
  refine .o (.box hs rfl rfl ?_); intro b1 w hs
  refine .z zg (.nil (.regSeq (.z (zfa fa_api_System_0) ?_)))
  first | refine .q hs (q_load rfl Try.isAgg3 (hm := by repeat (first | exact .here | assumption | exact Mem.row (by omega) (by omega) | refine .there ?_ | refine Mem.app2 ?_)) (hv := by first | rfl | exact ptr_get (by omega) | exact Is_gt (by assumption) (by omega) (by omega) | exact Is_gi (by first | assumption | omega))) ?_ | refine .q hs (q_loadR rfl Try.isAgg3 (by assumption)) ?_
  refine .z zadd ?_
  rw [hmn]
  refine .o (.makeP n hs rfl rfl Try.runUnderlying87 Try.typeInfo22 rfl Try.sizeOf22 Try.zeroValue22 (by omega) ?_); intro b12 w hs
  refine .o (.alloc hs Try.zeroValue87 rfl ?_); intro b3 w hs
  refine .o (.store hs rfl rfl Try.sizeOf87 ?_); intro w hs
  refine .nil (.seq (.regSeq ?_))
  first | refine .q hs (q_load rfl Try.isAgg87 (hm := by repeat (first | exact .here | assumption | exact Mem.row (by omega) (by omega) | refine .there ?_ | refine Mem.app2 ?_)) (hv := by first | rfl | exact ptr_get (by omega) | exact Is_gt (by assumption) (by omega) (by omega) | exact Is_gi (by first | assumption | omega))) ?_ | refine .q hs (q_loadR rfl Try.isAgg87 (by assumption)) ?_
  refine .z (zlen Try.runUnderlying87) (.z zm (.nil ?_))
  refine .for (N := n) (J := fun k fr w => fr = [(3, .pointer (some ⟨b3, 0, none⟩)), (1, .pointer (some ⟨b1, 0, none⟩))] ∧ ∃ bs : List Nat, bs.length = k ∧ St H w (.blk b12 (bs.map (ptr n) ++ List.replicate (n - k) (.slice none 0 0)) :: (rowsE bs (tabR ways0 n k) ++ (.blk b3 [.slice (some ⟨b12, 0, none⟩) n n] :: .blk b1 [I s.many, .slice al s.lims.length cl] :: σ)))) (by omega) ?_ ?_ ?_
  · exact .mk ⟨rfl, [], rfl, hs.perm (.swap _ _ _)⟩
  · rintro k fr w hk ⟨rfl, bs, hbl, hs⟩
    refine .block (.regSeq (.z zm (.z zg (.nil ?_))))
    refine .seq (.draw mix rfl hs ?_); intro w hs
    first | refine .load (i := 0) hs rfl (by kernel_rfl) .none rfl Try.isAgg87 ?_ (by repeat (first | exact .here | assumption | exact Mem.row (by omega) (by omega) | refine .there ?_ | refine Mem.app2 ?_)) (by first | rfl | exact ptr_get (by omega) | exact Is_gt (by assumption) (by omega) (by omega) | exact Is_gi (by first | assumption | omega)) | refine .r (i := 0) hs rfl (by kernel_rfl) .none (q_loadR rfl Try.isAgg87 (by assumption)) ?_
    refine .z 1 rfl zm ?_; refine .z 3 rfl (zfa fa_api_System_0) ?_
    first | refine .load (i := 4) hs rfl (by kernel_rfl) .none rfl Try.isAgg3 ?_ (by repeat (first | exact .here | assumption | exact Mem.row (by omega) (by omega) | refine .there ?_ | refine Mem.app2 ?_)) (by first | rfl | exact ptr_get (by omega) | exact Is_gt (by assumption) (by omega) (by omega) | exact Is_gi (by first | assumption | omega)) | refine .r (i := 4) hs rfl (by kernel_rfl) .none (q_loadR rfl Try.isAgg3 (by assumption)) ?_
    refine .z 5 rfl zadd ?_
    rw [hmn]
    refine .e1 (i := 2) (by kernel_rfl) rfl rfl .none hs ?_ (hp := by repeat (first | exact .nil | refine .cons (by first | exact HLe.bot _ | exact HLe.refl _ | assumption) (by first | exact .nil | (refine Sub.one ?_; repeat (first | exact .here | assumption | exact Mem.row (by omega) (by omega) | refine .there ?_ | refine Mem.app2 ?_))) ?_))
    refine .buildSlice (cells := [_]) hs bls_sl_int_1 rfl rfl ?_; intro b20 w hs
    refine .go ?_
    refine .e1 (i := 6) (by kernel_rfl) rfl rfl .none hs ?_ (hp := by repeat (first | exact .nil | refine .cons (by first | exact HLe.bot _ | exact HLe.refl _ | assumption) (by first | exact .nil | (refine Sub.one ?_; repeat (first | exact .here | assumption | exact Mem.row (by omega) (by omega) | refine .there ?_ | refine Mem.app2 ?_))) ?_))
    refine .call Try.call192 rfl (slices_Repeat_int (z := 1000000000) (c := n) hs .here (by omega) (by omega)) ?_; rintro _ w ⟨b24, rfl, hs⟩
    refine .go ?_
    first | (refine .ixw 7 rfl hs Try.runUnderlying87 Try.sizeOf22 ?_; intro b25 o25 hc25) | refine .z 7 rfl (zix Try.runUnderlying87 Try.sizeOf22) ?_
    refine .e1 (i := 8) (by kernel_rfl) rfl rfl .none hs ?_ (hp := by repeat (first | exact .nil | refine .cons (by first | exact HLe.bot _ | exact HLe.refl _ | assumption) (by first | exact .nil | (refine Sub.one ?_; repeat (first | exact .here | assumption | exact Mem.row (by omega) (by omega) | refine .there ?_ | refine Mem.app2 ?_))) ?_))
    refine .store hs rfl rfl Try.sizeOf22 ?_ (by repeat constructor) (by simp [hbl]; omega) (ptr_set hbl hk); intro w hs
    refine .go ?_
    refine .done (by kernel_rfl) hs ?_ (hp := by repeat (first | exact .nil | refine .cons (by first | exact HLe.bot _ | exact HLe.refl _ | assumption) (by first | exact .nil | (refine Sub.one ?_; repeat (first | exact .here | assumption | exact Mem.row (by omega) (by omega) | refine .there ?_ | refine Mem.app2 ?_))) ?_))
    refine .region ?_
    first | refine .q hs (q_load rfl Try.isAgg87 (hm := by repeat (first | exact .here | assumption | exact Mem.row (by omega) (by omega) | refine .there ?_ | refine Mem.app2 ?_)) (hv := by first | rfl | exact ptr_get (by omega) | exact Is_gt (by assumption) (by omega) (by omega) | exact Is_gi (by first | assumption | omega))) ?_ | refine .q hs (q_loadR rfl Try.isAgg87 (by assumption)) ?_
    refine .z zm ?_
    first | (refine .ixw hs Try.runUnderlying87 Try.sizeOf22 ?_; intro b28 o28 hc28) | refine .z (zix Try.runUnderlying87 Try.sizeOf22) ?_
    refine .q hs (q_load rfl Try.isAgg22 (hv := ptr_last hbl)) ?_
    refine .z zm ?_
    first | (refine .ixv hs Try.runUnderlying22 Try.sizeOf3 ?_; intro b31 o31 hc31) | refine .z (zix Try.runUnderlying22 Try.sizeOf3) ?_
    refine .o (.store hs rfl rfl Try.sizeOf3 ?_ (by repeat constructor) (blt_Is (by simp; omega)) (Is_set _ _ _)); intro w hs
    refine .nil ?_
    refine nB (nT ?_)
    have e : (List.replicate n (1000000000 : Int)).set k 0 = (List.range n).map (ways0 k) := by
      rw [range_const (fun _ => 1000000000) n 1000000000 (fun _ _ => rfl)]
      exact range_set _ _ hk 0 (fun j _ => by
        unfold ways0
        by_cases e : k = j
        · rw [if_pos e, if_pos e.symm]
        · rw [if_neg e, if_neg (fun h => e h.symm)])
    rw [e] at hs
    replace hs := (hs.perm (.swap _ _ _)).tail.rowIn (by rw [hbl, tabR_length])
    rw [← tabR_succ] at hs
    exact .mk ⟨rfl, bs ++ [b24], by simp [hbl], hs⟩
  · rintro fr w ⟨rfl, bs, hbl, hs⟩
    rw [Nat.sub_self, List.replicate_zero, List.append_nil] at hs
    refine nT ?_
    refine .seq (.regSeq ?_)
    refine .q hs (q_loads (vs := [I s.many, .slice al s.lims.length cl]) rfl Try.isAgg32 Try.sizeOf32 (hm := .there (Mem.app2 (.there .here)))) ?_
    refine .o (.call Try.call174 rfl (bound_steps_spec (s := s) hs hok ⟨_, rfl, hl⟩) ?_); rintro _ w ⟨H1, b34, hle1, rfl, hit, hs⟩
    refine .nil (.block ?_)
    refine .rangeFunc (gf := 202) (cap := [.pointer (some ⟨b34, 0, none⟩)]) (xs := s.arcs.map fun x => [.agg x.v.toArray]) (σb := .blk b12 (bs.map (ptr n)) :: (rowsE bs (tabR ways0 n n) ++ [.blk b3 [.slice (some ⟨b12, 0, none⟩) n n], .blk b1 [I s.many, .slice al s.lims.length cl]])) (σf := σ) (by simpa only [List.cons_append, List.append_assoc, List.nil_append] using hs) trivial rfl hit Try.call202 (by simp) rfl
      (I := fun k H' σb => ∃ rs, σb = .blk b12 (bs.map (ptr n)) :: (rowsE bs rs ++ [.blk b3 [.slice (some ⟨b12, 0, none⟩) n n], .blk b1 [I s.many, .slice al s.lims.length cl]]) ∧ Sq n rs ∧ WayB n s.arcs k (gt rs)) (Ix := fun _ _ _ => False) (fun _ _ _ _ _ h => h) (fun _ _ _ _ _ h => h)
      ⟨_, rfl, tabR_sq ways0 n, ways0_B s.arcs (fun i j hi hj => tabR_gt ways0 hi hj)⟩ ?_ ?_ (fun D c H' σb w _ h _ => h.elim)
    · rintro l k hk H2 σb2 σf2 w hle2 ⟨rs, rfl, hq, hB⟩ hs ⟨rr, hrr⟩
      obtain ⟨x, hx⟩ := nth (l := s.arcs) (by simpa using hk)
      have hxk : (s.arcs.map fun x => [Value.agg x.v.toArray])[k] = [.agg x.v.toArray] := map_at hx
      rw [hxk]
      obtain ⟨xf, xt, xne, xc0, xc1⟩ := hinn x (List.mem_of_getElem? hx)
      have hrl := hq.1
      replace hs : St H2 w (.blk b12 (bs.map (ptr n)) :: (rowsE bs rs ++ (.blk b3 [.slice (some ⟨b12, 0, none⟩) n n] :: .blk b1 [I s.many, .slice al s.lims.length cl] :: σf2))) := by simpa only [List.cons_append, List.append_assoc, List.nil_append] using hs
      refine .region ?_
      refine .o (.alloc hs Try.zeroValue205 rfl ?_); intro b5 w hs
      refine .o (.stores (vs := x.v) hs rfl rfl Try.sizeOf205 ?_); intro w hs
      change St _ _ (.blk b5 x.v :: _) at hs
      refine .nil ?_
      refine nT ?_
      refine ⟨H2, .blk b5 x.v :: .blk b12 (bs.map (ptr n)) :: (rowsE bs rs ++ [.blk b3 [.slice (some ⟨b12, 0, none⟩) n n], .blk b1 [I s.many, .slice al s.lims.length cl]]), HLe.refl _, by simpa only [List.cons_append, List.append_assoc, List.nil_append] using hs, ?_⟩; rintro w σf4 - hs
      replace hs : St H2 w (.blk b5 x.v :: .blk b12 (bs.map (ptr n)) :: (rowsE bs rs ++ (.blk b3 [.slice (some ⟨b12, 0, none⟩) n n] :: .blk b1 [I s.many, .slice al s.lims.length cl] :: σf4))) := by simpa only [List.cons_append, List.append_assoc, List.nil_append] using hs
      refine .block ?_
      refine .draw mix rfl hs ?_; intro w hs
      first | refine .load (i := 0) hs rfl (by kernel_rfl) .none rfl Try.isAgg87 ?_ (by repeat (first | exact .here | assumption | exact Mem.row (by omega) (by omega) | refine .there ?_ | refine Mem.app2 ?_)) (by first | rfl | exact ptr_get (by omega) | exact Is_gt (by assumption) (by omega) (by omega) | exact Is_gi (by first | assumption | omega)) | refine .r (i := 0) hs rfl (by kernel_rfl) .none (q_loadR rfl Try.isAgg87 (by assumption)) ?_
      refine .z 1 rfl (zfa fa_bound_step_0) ?_
      first | refine .load (i := 2) hs rfl (by kernel_rfl) .none rfl Try.isAgg3 ?_ (by repeat (first | exact .here | assumption | exact Mem.row (by omega) (by omega) | refine .there ?_ | refine Mem.app2 ?_)) (by first | rfl | exact ptr_get (by omega) | exact Is_gt (by assumption) (by omega) (by omega) | exact Is_gi (by first | assumption | omega)) | refine .r (i := 2) hs rfl (by kernel_rfl) .none (q_loadR rfl Try.isAgg3 (by assumption)) ?_
      first | (refine .ixw 3 rfl hs Try.runUnderlying87 Try.sizeOf22 ?_; intro b39 o39 hc39) | refine .z 3 rfl (zix Try.runUnderlying87 Try.sizeOf22) ?_
      first | refine .load (i := 4) hs rfl (by kernel_rfl) .none rfl Try.isAgg22 ?_ (by repeat (first | exact .here | assumption | exact Mem.row (by omega) (by omega) | refine .there ?_ | refine Mem.app2 ?_)) (by first | rfl | exact ptr_get (by omega) | exact Is_gt (by assumption) (by omega) (by omega) | exact Is_gi (by first | assumption | omega)) | refine .r (i := 4) hs rfl (by kernel_rfl) .none (q_loadR rfl Try.isAgg22 (by assumption)) ?_
      refine .z 5 rfl (zfa fa_bound_step_1) ?_
      first | refine .load (i := 6) hs rfl (by kernel_rfl) .none rfl Try.isAgg3 ?_ (by repeat (first | exact .here | assumption | exact Mem.row (by omega) (by omega) | refine .there ?_ | refine Mem.app2 ?_)) (by first | rfl | exact ptr_get (by omega) | exact Is_gt (by assumption) (by omega) (by omega) | exact Is_gi (by first | assumption | omega)) | refine .r (i := 6) hs rfl (by kernel_rfl) .none (q_loadR rfl Try.isAgg3 (by assumption)) ?_
      first | refine .load (i := 7) hs rfl (by kernel_rfl) .none rfl Try.isAgg87 ?_ (by repeat (first | exact .here | assumption | exact Mem.row (by omega) (by omega) | refine .there ?_ | refine Mem.app2 ?_)) (by first | rfl | exact ptr_get (by omega) | exact Is_gt (by assumption) (by omega) (by omega) | exact Is_gi (by first | assumption | omega)) | refine .r (i := 7) hs rfl (by kernel_rfl) .none (q_loadR rfl Try.isAgg87 (by assumption)) ?_
      refine .z 8 rfl (zfa fa_bound_step_0) ?_
      first | refine .load (i := 9) hs rfl (by kernel_rfl) .none rfl Try.isAgg3 ?_ (by repeat (first | exact .here | assumption | exact Mem.row (by omega) (by omega) | refine .there ?_ | refine Mem.app2 ?_)) (by first | rfl | exact ptr_get (by omega) | exact Is_gt (by assumption) (by omega) (by omega) | exact Is_gi (by first | assumption | omega)) | refine .r (i := 9) hs rfl (by kernel_rfl) .none (q_loadR rfl Try.isAgg3 (by assumption)) ?_
      first | (refine .ixw 10 rfl hs Try.runUnderlying87 Try.sizeOf22 ?_; intro b46 o46 hc46) | refine .z 10 rfl (zix Try.runUnderlying87 Try.sizeOf22) ?_
      first | refine .load (i := 11) hs rfl (by kernel_rfl) .none rfl Try.isAgg22 ?_ (by repeat (first | exact .here | assumption | exact Mem.row (by omega) (by omega) | refine .there ?_ | refine Mem.app2 ?_)) (by first | rfl | exact ptr_get (by omega) | exact Is_gt (by assumption) (by omega) (by omega) | exact Is_gi (by first | assumption | omega)) | refine .r (i := 11) hs rfl (by kernel_rfl) .none (q_loadR rfl Try.isAgg22 (by assumption)) ?_
      refine .z 12 rfl (zfa fa_bound_step_1) ?_
      first | refine .load (i := 13) hs rfl (by kernel_rfl) .none rfl Try.isAgg3 ?_ (by repeat (first | exact .here | assumption | exact Mem.row (by omega) (by omega) | refine .there ?_ | refine Mem.app2 ?_)) (by first | rfl | exact ptr_get (by omega) | exact Is_gt (by assumption) (by omega) (by omega) | exact Is_gi (by first | assumption | omega)) | refine .r (i := 13) hs rfl (by kernel_rfl) .none (q_loadR rfl Try.isAgg3 (by assumption)) ?_
      first | (refine .ixv 14 rfl hs Try.runUnderlying22 Try.sizeOf3 ?_; intro b50 o50 hc50) | refine .z 14 rfl (zix Try.runUnderlying22 Try.sizeOf3) ?_
      first | refine .load (i := 15) hs rfl (by kernel_rfl) .none rfl Try.isAgg3 ?_ (by repeat (first | exact .here | assumption | exact Mem.row (by omega) (by omega) | refine .there ?_ | refine Mem.app2 ?_)) (by first | rfl | exact ptr_get (by omega) | exact Is_gt (by assumption) (by omega) (by omega) | exact Is_gi (by first | assumption | omega)) | refine .r (i := 15) hs rfl (by kernel_rfl) .none (q_loadR rfl Try.isAgg3 (by assumption)) ?_
      refine .z 16 rfl (zfa fa_bound_step_2) ?_
      first | refine .load (i := 17) hs rfl (by kernel_rfl) .none rfl Try.isAgg3 ?_ (by repeat (first | exact .here | assumption | exact Mem.row (by omega) (by omega) | refine .there ?_ | refine Mem.app2 ?_)) (by first | rfl | exact ptr_get (by omega) | exact Is_gt (by assumption) (by omega) (by omega) | exact Is_gi (by first | assumption | omega)) | refine .r (i := 17) hs rfl (by kernel_rfl) .none (q_loadR rfl Try.isAgg3 (by assumption)) ?_
      refine .z 18 rfl zmin ?_
      first | (refine .ixv 19 rfl hs Try.runUnderlying22 Try.sizeOf3 ?_; intro b55 o55 hc55) | refine .z 19 rfl (zix Try.runUnderlying22 Try.sizeOf3) ?_
      refine .e1 (i := 20) (by kernel_rfl) rfl rfl .none hs ?_ (hp := by repeat (first | exact .nil | refine .cons (by first | exact HLe.bot _ | exact HLe.refl _ | assumption) (by first | exact .nil | (refine Sub.one ?_; repeat (first | exact .here | assumption | exact Mem.row (by omega) (by omega) | refine .there ?_ | refine Mem.app2 ?_))) ?_))
      refine .store hs rfl rfl Try.sizeOf3 ?_ (.there (.there (Upd.row _ (by omega) (by omega)))) (blt_Is (by rw [hq.2 _ xf]; exact xt)) (Is_set _ _ _); intro w hs
      refine .go ?_
      refine .done (by kernel_rfl) hs ?_ (hp := by repeat (first | exact .nil | refine .cons (by first | exact HLe.bot _ | exact HLe.refl _ | assumption) (by first | exact .nil | (refine Sub.one ?_; repeat (first | exact .here | assumption | exact Mem.row (by omega) (by omega) | refine .there ?_ | refine Mem.app2 ?_))) ?_))
      refine nB ?_
      exact ⟨H2, .blk b12 (bs.map (ptr n)) :: (rowsE bs (rs.set x.f ((gr rs x.f).set x.t (min (gt rs x.f x.t) x.c))) ++ [.blk b3 [.slice (some ⟨b12, 0, none⟩) n n], .blk b1 [I s.many, .slice al s.lims.length cl]]), HLe.refl _, by simpa only [List.cons_append, List.append_assoc, List.nil_append] using hs.tail, _, rfl, hq.set xf _, by rw [gt_set hq xf xt]; exact hB.step hinn hx⟩
    · rintro D H2 σb2 w hle2 ⟨rs, rfl, hq, hB⟩ hs
      replace hs : St H2 w (.blk b12 (bs.map (ptr n)) :: (rowsE bs rs ++ (.obj D (.deferred (some [])) :: .blk b3 [.slice (some ⟨b12, 0, none⟩) n n] :: .blk b1 [I s.many, .slice al s.lims.length cl] :: σ))) := by
        have hs' : St H2 w (.obj D (.deferred (some [])) :: .blk b12 (bs.map (ptr n)) :: (rowsE bs rs ++ (.blk b3 [.slice (some ⟨b12, 0, none⟩) n n] :: .blk b1 [I s.many, .slice al s.lims.length cl] :: σ))) := by simpa only [entOf, List.cons_append, List.append_assoc, List.nil_append] using hs
        exact hs'.perm ((List.Perm.swap _ _ _).trans (.cons _ List.perm_middle.symm))
      rw [List.length_map] at hB
      have hI := hB.go hinn hnp
      have hcb : ∀ x ∈ s.arcs, -20000 ≤ x.c ∧ x.c ≤ 20000 := fun x hx => by have := hinn x hx; omega
      refine nB (nT ?_)
      refine .seq (.regSeq ?_)
      first | refine .q hs (q_load rfl Try.isAgg87 (hm := by repeat (first | exact .here | assumption | exact Mem.row (by omega) (by omega) | refine .there ?_ | refine Mem.app2 ?_)) (hv := by first | rfl | exact ptr_get (by omega) | exact Is_gt (by assumption) (by omega) (by omega) | exact Is_gi (by first | assumption | omega))) ?_ | refine .q hs (q_loadR rfl Try.isAgg87 (by assumption)) ?_
      refine .z (zlen Try.runUnderlying87) (.z zm (.nil ?_))
      refine .forD (N := n) (J := fun m ds fr w => ds = marks [D] ∧ fr = [(3, .pointer (some ⟨b3, 0, none⟩))] ∧ ∃ rs, Sq n rs ∧ (m < n → WayI n s.arcs m (fun _ _ => False) (gt rs)) ∧ (m = n → WaysT n s.arcs (gt rs)) ∧ St H2 w (.blk b12 (bs.map (ptr n)) :: (rowsE bs rs ++ (.obj D (.deferred (some [])) :: .blk b3 [.slice (some ⟨b12, 0, none⟩) n n] :: .blk b1 [I s.many, .slice al s.lims.length cl] :: σ)))) (by omega) ?_ ?_ ?_
      · exact .mk ⟨rfl, rfl, rs, hq, fun _ => hI, fun e => by omega, hs⟩
      · clear hI hB hq
        rintro m ds fr w hm ⟨rfl, rfl, rs, hq, hI, -, hs⟩
        replace hI := hI hm
        refine .block (.regSeq (.z zm (.z zg (.nil (.regSeq ?_)))))
        first | refine .q hs (q_load rfl Try.isAgg87 (hm := by repeat (first | exact .here | assumption | exact Mem.row (by omega) (by omega) | refine .there ?_ | refine Mem.app2 ?_)) (hv := by first | rfl | exact ptr_get (by omega) | exact Is_gt (by assumption) (by omega) (by omega) | exact Is_gi (by first | assumption | omega))) ?_ | refine .q hs (q_loadR rfl Try.isAgg87 (by assumption)) ?_
        refine .z (zlen Try.runUnderlying87) (.z zm (.nil ?_))
        refine .forD (N := n) (J := fun i ds fr w => ds = marks [D] ∧ fr = [(6, I (m : Int)), (58, I (m : Int)), (57, I (n : Int)), (3, .pointer (some ⟨b3, 0, none⟩))] ∧ ∃ rs, Sq n rs ∧ WayI n s.arcs m (fun a _ => a < i) (gt rs) ∧ St H2 w (.blk b12 (bs.map (ptr n)) :: (rowsE bs rs ++ (.obj D (.deferred (some [])) :: .blk b3 [.slice (some ⟨b12, 0, none⟩) n n] :: .blk b1 [I s.many, .slice al s.lims.length cl] :: σ)))) (by omega) ?_ ?_ ?_
        · exact .mk ⟨rfl, rfl, rs, hq, hI.skip hcb hm (P := fun _ _ => False) (fun i j h => by omega) (fun _ _ _ _ h => h.elim), hs⟩
        · clear hI hq
          rintro i ds fr w hi ⟨rfl, rfl, rs, hq, hI, hs⟩
          refine .block (.regSeq (.z zm (.z zg (.nil (.regSeq ?_)))))
          first | refine .q hs (q_load rfl Try.isAgg87 (hm := by repeat (first | exact .here | assumption | exact Mem.row (by omega) (by omega) | refine .there ?_ | refine Mem.app2 ?_)) (hv := by first | rfl | exact ptr_get (by omega) | exact Is_gt (by assumption) (by omega) (by omega) | exact Is_gi (by first | assumption | omega))) ?_ | refine .q hs (q_loadR rfl Try.isAgg87 (by assumption)) ?_
          refine .z (zlen Try.runUnderlying87) (.z zm (.nil ?_))
          refine .forD (N := n) (J := fun k ds fr w => ds = marks [D] ∧ fr = [(7, I (i : Int)), (63, I (i : Int)), (62, I (n : Int)), (6, I (m : Int)), (58, I (m : Int)), (57, I (n : Int)), (3, .pointer (some ⟨b3, 0, none⟩))] ∧ ∃ rs, Sq n rs ∧ WayI n s.arcs m (fun a b => a < i ∨ (a = i ∧ b < k)) (gt rs) ∧ St H2 w (.blk b12 (bs.map (ptr n)) :: (rowsE bs rs ++ (.obj D (.deferred (some [])) :: .blk b3 [.slice (some ⟨b12, 0, none⟩) n n] :: .blk b1 [I s.many, .slice al s.lims.length cl] :: σ)))) (by omega) ?_ ?_ ?_
          · exact .mk ⟨rfl, rfl, rs, hq, hI.skip hcb hm (P := fun _ _ => False) (fun a b h => by omega) (fun _ _ _ _ h => h.elim), hs⟩
          · clear hI hq
            rintro k ds fr w hk ⟨rfl, rfl, rs, hq, hI, hs⟩
            have hrl := hq.1
            have c1 := hI.cl i m hi hm; have c2 := hI.cl m k hm hk
            have u1 := hI.up i m hi hm; have u2 := hI.up m k hm hk
            simp only [free] at u1 u2
            refine .block (.regSeq (.z zm (.z zg (.nil (.regSeq ?_)))))
            first | refine .q hs (q_load rfl Try.isAgg87 (hm := by repeat (first | exact .here | assumption | exact Mem.row (by omega) (by omega) | refine .there ?_ | refine Mem.app2 ?_)) (hv := by first | rfl | exact ptr_get (by omega) | exact Is_gt (by assumption) (by omega) (by omega) | exact Is_gi (by first | assumption | omega))) ?_ | refine .q hs (q_loadR rfl Try.isAgg87 (by assumption)) ?_
            refine .z zm ?_
            first | (refine .ixw hs Try.runUnderlying87 Try.sizeOf22 ?_; intro b73 o73 hc73) | refine .z (zix Try.runUnderlying87 Try.sizeOf22) ?_
            first | refine .q hs (q_load rfl Try.isAgg22 (hm := by repeat (first | exact .here | assumption | exact Mem.row (by omega) (by omega) | refine .there ?_ | refine Mem.app2 ?_)) (hv := by first | rfl | exact ptr_get (by omega) | exact Is_gt (by assumption) (by omega) (by omega) | exact Is_gi (by first | assumption | omega))) ?_ | refine .q hs (q_loadR rfl Try.isAgg22 (by assumption)) ?_
            refine .z zm ?_
            first | (refine .ixv hs Try.runUnderlying22 Try.sizeOf3 ?_; intro b76 o76 hc76) | refine .z (zix Try.runUnderlying22 Try.sizeOf3) ?_
            first | refine .q hs (q_load rfl Try.isAgg3 (hm := by repeat (first | exact .here | assumption | exact Mem.row (by omega) (by omega) | refine .there ?_ | refine Mem.app2 ?_)) (hv := by first | rfl | exact ptr_get (by omega) | exact Is_gt (by assumption) (by omega) (by omega) | exact Is_gi (by first | assumption | omega))) ?_ | refine .q hs (q_loadR rfl Try.isAgg3 (by assumption)) ?_
            refine .z zlss (.z zm ?_)
            refine .bifD (t' := 79) rfl (fun hb79 => ?_) (fun hb79 => ?_)
            · refine .gT rfl rfl ?_
              first | refine .q hs (q_load rfl Try.isAgg87 (hm := by repeat (first | exact .here | assumption | exact Mem.row (by omega) (by omega) | refine .there ?_ | refine Mem.app2 ?_)) (hv := by first | rfl | exact ptr_get (by omega) | exact Is_gt (by assumption) (by omega) (by omega) | exact Is_gi (by first | assumption | omega))) ?_ | refine .q hs (q_loadR rfl Try.isAgg87 (by assumption)) ?_
              refine .gT rfl rfl ?_
              refine .z zm ?_
              refine .gT rfl rfl ?_
              first | (refine .ixw hs Try.runUnderlying87 Try.sizeOf22 ?_; intro b82 o82 hc82) | refine .z (zix Try.runUnderlying87 Try.sizeOf22) ?_
              refine .gT rfl rfl ?_
              first | refine .q hs (q_load rfl Try.isAgg22 (hm := by repeat (first | exact .here | assumption | exact Mem.row (by omega) (by omega) | refine .there ?_ | refine Mem.app2 ?_)) (hv := by first | rfl | exact ptr_get (by omega) | exact Is_gt (by assumption) (by omega) (by omega) | exact Is_gi (by first | assumption | omega))) ?_ | refine .q hs (q_loadR rfl Try.isAgg22 (by assumption)) ?_
              refine .gT rfl rfl ?_
              refine .z zm ?_
              refine .gT rfl rfl ?_
              first | (refine .ixv hs Try.runUnderlying22 Try.sizeOf3 ?_; intro b85 o85 hc85) | refine .z (zix Try.runUnderlying22 Try.sizeOf3) ?_
              refine .gT rfl rfl ?_
              first | refine .q hs (q_load rfl Try.isAgg3 (hm := by repeat (first | exact .here | assumption | exact Mem.row (by omega) (by omega) | refine .there ?_ | refine Mem.app2 ?_)) (hv := by first | rfl | exact ptr_get (by omega) | exact Is_gt (by assumption) (by omega) (by omega) | exact Is_gi (by first | assumption | omega))) ?_ | refine .q hs (q_loadR rfl Try.isAgg3 (by assumption)) ?_
              refine .gT rfl rfl ?_
              refine .z zlss (.z zpT (.nil ?_))
              refine (.condD rfl (fun hc88 => ?_) (fun hc88 => ?_))
              · refine .draw mix rfl hs ?_; intro w hs
                first | refine .load (i := 0) hs rfl (by kernel_rfl) .none rfl Try.isAgg87 ?_ (by repeat (first | exact .here | assumption | exact Mem.row (by omega) (by omega) | refine .there ?_ | refine Mem.app2 ?_)) (by first | rfl | exact ptr_get (by omega) | exact Is_gt (by assumption) (by omega) (by omega) | exact Is_gi (by first | assumption | omega)) | refine .r (i := 0) hs rfl (by kernel_rfl) .none (q_loadR rfl Try.isAgg87 (by assumption)) ?_
                refine .z 1 rfl zm ?_
                first | (refine .ixw 2 rfl hs Try.runUnderlying87 Try.sizeOf22 ?_; intro b91 o91 hc91) | refine .z 2 rfl (zix Try.runUnderlying87 Try.sizeOf22) ?_
                first | refine .load (i := 3) hs rfl (by kernel_rfl) .none rfl Try.isAgg22 ?_ (by repeat (first | exact .here | assumption | exact Mem.row (by omega) (by omega) | refine .there ?_ | refine Mem.app2 ?_)) (by first | rfl | exact ptr_get (by omega) | exact Is_gt (by assumption) (by omega) (by omega) | exact Is_gi (by first | assumption | omega)) | refine .r (i := 3) hs rfl (by kernel_rfl) .none (q_loadR rfl Try.isAgg22 (by assumption)) ?_
                refine .z 4 rfl zm ?_
                first | refine .load (i := 5) hs rfl (by kernel_rfl) .none rfl Try.isAgg87 ?_ (by repeat (first | exact .here | assumption | exact Mem.row (by omega) (by omega) | refine .there ?_ | refine Mem.app2 ?_)) (by first | rfl | exact ptr_get (by omega) | exact Is_gt (by assumption) (by omega) (by omega) | exact Is_gi (by first | assumption | omega)) | refine .r (i := 5) hs rfl (by kernel_rfl) .none (q_loadR rfl Try.isAgg87 (by assumption)) ?_
                refine .z 6 rfl zm ?_
                first | (refine .ixw 7 rfl hs Try.runUnderlying87 Try.sizeOf22 ?_; intro b96 o96 hc96) | refine .z 7 rfl (zix Try.runUnderlying87 Try.sizeOf22) ?_
                first | refine .load (i := 8) hs rfl (by kernel_rfl) .none rfl Try.isAgg22 ?_ (by repeat (first | exact .here | assumption | exact Mem.row (by omega) (by omega) | refine .there ?_ | refine Mem.app2 ?_)) (by first | rfl | exact ptr_get (by omega) | exact Is_gt (by assumption) (by omega) (by omega) | exact Is_gi (by first | assumption | omega)) | refine .r (i := 8) hs rfl (by kernel_rfl) .none (q_loadR rfl Try.isAgg22 (by assumption)) ?_
                refine .z 9 rfl zm ?_
                first | (refine .ixv 10 rfl hs Try.runUnderlying22 Try.sizeOf3 ?_; intro b99 o99 hc99) | refine .z 10 rfl (zix Try.runUnderlying22 Try.sizeOf3) ?_
                first | refine .load (i := 11) hs rfl (by kernel_rfl) .none rfl Try.isAgg3 ?_ (by repeat (first | exact .here | assumption | exact Mem.row (by omega) (by omega) | refine .there ?_ | refine Mem.app2 ?_)) (by first | rfl | exact ptr_get (by omega) | exact Is_gt (by assumption) (by omega) (by omega) | exact Is_gi (by first | assumption | omega)) | refine .r (i := 11) hs rfl (by kernel_rfl) .none (q_loadR rfl Try.isAgg3 (by assumption)) ?_
                first | refine .load (i := 12) hs rfl (by kernel_rfl) .none rfl Try.isAgg87 ?_ (by repeat (first | exact .here | assumption | exact Mem.row (by omega) (by omega) | refine .there ?_ | refine Mem.app2 ?_)) (by first | rfl | exact ptr_get (by omega) | exact Is_gt (by assumption) (by omega) (by omega) | exact Is_gi (by first | assumption | omega)) | refine .r (i := 12) hs rfl (by kernel_rfl) .none (q_loadR rfl Try.isAgg87 (by assumption)) ?_
                refine .z 13 rfl zm ?_
                first | (refine .ixw 14 rfl hs Try.runUnderlying87 Try.sizeOf22 ?_; intro b103 o103 hc103) | refine .z 14 rfl (zix Try.runUnderlying87 Try.sizeOf22) ?_
                first | refine .load (i := 15) hs rfl (by kernel_rfl) .none rfl Try.isAgg22 ?_ (by repeat (first | exact .here | assumption | exact Mem.row (by omega) (by omega) | refine .there ?_ | refine Mem.app2 ?_)) (by first | rfl | exact ptr_get (by omega) | exact Is_gt (by assumption) (by omega) (by omega) | exact Is_gi (by first | assumption | omega)) | refine .r (i := 15) hs rfl (by kernel_rfl) .none (q_loadR rfl Try.isAgg22 (by assumption)) ?_
                refine .z 16 rfl zm ?_
                first | (refine .ixv 17 rfl hs Try.runUnderlying22 Try.sizeOf3 ?_; intro b106 o106 hc106) | refine .z 17 rfl (zix Try.runUnderlying22 Try.sizeOf3) ?_
                first | refine .load (i := 18) hs rfl (by kernel_rfl) .none rfl Try.isAgg3 ?_ (by repeat (first | exact .here | assumption | exact Mem.row (by omega) (by omega) | refine .there ?_ | refine Mem.app2 ?_)) (by first | rfl | exact ptr_get (by omega) | exact Is_gt (by assumption) (by omega) (by omega) | exact Is_gi (by first | assumption | omega)) | refine .r (i := 18) hs rfl (by kernel_rfl) .none (q_loadR rfl Try.isAgg3 (by assumption)) ?_
                first | refine .load (i := 19) hs rfl (by kernel_rfl) .none rfl Try.isAgg87 ?_ (by repeat (first | exact .here | assumption | exact Mem.row (by omega) (by omega) | refine .there ?_ | refine Mem.app2 ?_)) (by first | rfl | exact ptr_get (by omega) | exact Is_gt (by assumption) (by omega) (by omega) | exact Is_gi (by first | assumption | omega)) | refine .r (i := 19) hs rfl (by kernel_rfl) .none (q_loadR rfl Try.isAgg87 (by assumption)) ?_
                refine .z 20 rfl zm ?_
                first | (refine .ixw 21 rfl hs Try.runUnderlying87 Try.sizeOf22 ?_; intro b110 o110 hc110) | refine .z 21 rfl (zix Try.runUnderlying87 Try.sizeOf22) ?_
                first | refine .load (i := 22) hs rfl (by kernel_rfl) .none rfl Try.isAgg22 ?_ (by repeat (first | exact .here | assumption | exact Mem.row (by omega) (by omega) | refine .there ?_ | refine Mem.app2 ?_)) (by first | rfl | exact ptr_get (by omega) | exact Is_gt (by assumption) (by omega) (by omega) | exact Is_gi (by first | assumption | omega)) | refine .r (i := 22) hs rfl (by kernel_rfl) .none (q_loadR rfl Try.isAgg22 (by assumption)) ?_
                refine .z 23 rfl zm ?_
                first | (refine .ixv 24 rfl hs Try.runUnderlying22 Try.sizeOf3 ?_; intro b113 o113 hc113) | refine .z 24 rfl (zix Try.runUnderlying22 Try.sizeOf3) ?_
                first | refine .load (i := 25) hs rfl (by kernel_rfl) .none rfl Try.isAgg3 ?_ (by repeat (first | exact .here | assumption | exact Mem.row (by omega) (by omega) | refine .there ?_ | refine Mem.app2 ?_)) (by first | rfl | exact ptr_get (by omega) | exact Is_gt (by assumption) (by omega) (by omega) | exact Is_gi (by first | assumption | omega)) | refine .r (i := 25) hs rfl (by kernel_rfl) .none (q_loadR rfl Try.isAgg3 (by assumption)) ?_
                refine .z 26 rfl zadd ?_; refine .z 27 rfl zmin ?_
                first | (refine .ixv 28 rfl hs Try.runUnderlying22 Try.sizeOf3 ?_; intro b117 o117 hc117) | refine .z 28 rfl (zix Try.runUnderlying22 Try.sizeOf3) ?_
                refine .e1 (i := 29) (by kernel_rfl) rfl rfl .none hs ?_ (hp := by repeat (first | exact .nil | refine .cons (by first | exact HLe.bot _ | exact HLe.refl _ | assumption) (by first | exact .nil | (refine Sub.one ?_; repeat (first | exact .here | assumption | exact Mem.row (by omega) (by omega) | refine .there ?_ | refine Mem.app2 ?_))) ?_))
                refine .store hs rfl rfl Try.sizeOf3 ?_ (.there (Upd.row _ (by omega) (by omega))) (blt_Is (by rw [hq.2 _ hi]; exact hk)) (Is_set _ _ _); intro w hs
                refine .go ?_
                refine .done (by kernel_rfl) hs ?_ (hp := by repeat (first | exact .nil | refine .cons (by first | exact HLe.bot _ | exact HLe.refl _ | assumption) (by first | exact .nil | (refine Sub.one ?_; repeat (first | exact .here | assumption | exact Mem.row (by omega) (by omega) | refine .there ?_ | refine Mem.app2 ?_))) ?_))
                refine nB (nT ?_)
                exact .mk ⟨rfl, rfl, _, hq.set hi _, by rw [gt_set hq hi hk]; exact hI.stepS hinn hn65 ⟨p0, hp0⟩ hm hi hk (fun a b h => by omega) (by simp only [free]; omega) (by simp only [free]; omega), hs⟩
              · refine .skip ?_
                refine nB (nT ?_)
                exact .mk ⟨rfl, rfl, rs, hq, hI.skip hcb hm (P := fun a b => a = i ∧ b = k) (fun a b h => by omega) (fun a b _ _ h => by obtain ⟨rfl, rfl⟩ := h; exact .inr (by simp only [free]; omega)), hs⟩
            · refine .gFs 8 8 true rfl rfl rfl ?_
              refine .z zpF (.nil ?_)
              refine (.condF rfl rfl ?_)
              refine .skip ?_
              refine nB (nT ?_)
              exact .mk ⟨rfl, rfl, rs, hq, hI.skip hcb hm (P := fun a b => a = i ∧ b = k) (fun a b h => by omega) (fun a b _ _ h => by obtain ⟨rfl, rfl⟩ := h; exact .inl (by simp only [free]; omega)), hs⟩
          · rintro ds fr w ⟨rfl, rfl, rs, hq, hI, hs⟩
            refine nB (nT ?_)
            exact .mk ⟨rfl, rfl, rs, hq, hI.skip hcb hm (P := fun a b => a = i ∧ n ≤ b) (fun a b h => by omega) (fun a b _ hb h => by omega), hs⟩
        · rintro ds fr w ⟨rfl, rfl, rs, hq, hI, hs⟩
          replace hI : WayI n s.arcs m (fun _ _ => True) (gt rs) := hI.skip hcb hm (P := fun a _ => n ≤ a) (fun a b h => by omega) (fun a b ha _ h => by omega)
          refine nB (nT ?_)
          exact .mk ⟨rfl, rfl, rs, hq, fun h => hI.next hcb h hn65, fun h => hI.done hcb h.symm hn65, hs⟩
      · rintro ds fr w ⟨rfl, rfl, rs, hq, -, hT, hs⟩
        replace hT := hT rfl
        refine nT ?_
        refine .regSeq ?_
        first | refine .q hs (q_load rfl Try.isAgg87 (hm := by repeat (first | exact .here | assumption | exact Mem.row (by omega) (by omega) | refine .there ?_ | refine Mem.app2 ?_)) (hv := by first | rfl | exact ptr_get (by omega) | exact Is_gt (by assumption) (by omega) (by omega) | exact Is_gi (by first | assumption | omega))) ?_ | refine .q hs (q_loadR rfl Try.isAgg87 (by assumption)) ?_
        refine .z zg (.nil ?_)
        refine .ret ?_
        obtain ⟨H3, g1, g2, hs⟩ := table_publish hq hbl (by omega) hs
        exact Fin.retD [D] [] hs fun w hs => ⟨_, results1 Try.results137 rfl, H3, rs, hle1.trans (hle2.trans g1), g2, hq, hT, hs.out⟩
theorem bound_Close_spec {H : Heap} {w : World} {σ : List Ent} {v : Value} {s : Syst} (hs : St H w σ) (hr : RSy H v s) :
    Cl Try.prog 52 [v] w fun u w' => ∃ H1 vt e, HLe H H1 ∧ u = .tuple #[vt, I e] ∧ ((s.check ≠ 0 ∧ e = s.check ∧ vt = .slice none 0 0) ∨ (s.Ok ∧ ¬ s.Sound ∧ e = 23 ∧ vt = .slice none 0 0) ∨ (s.Ok ∧ s.Sound ∧ e = 0 ∧ ∃ rs, RT H1 vt rs ∧ Sq s.n rs ∧ WaysT s.n s.arcs (gt rs))) ∧ St H1 w' σ := by
  obtain ⟨ul, rfl, hl⟩ := hr
  obtain ⟨al, cl, rfl⟩ := RL.shape hl
  refine Cl.of Try.func52 rfl Try.ntmps52 (by simp) (args_cons (k := 0) rfl (args0)) ?_
  refine .regSeq ?_
  refine .o (.box hs rfl rfl ?_); intro b1 w hs
  refine .z zg (.z zg (.nil (.seq (.regSeq (.y hs (zls [_, _] Try.isAgg32 Try.sizeOf32) ?_)))))
  refine .o (.call Try.call136 rfl (bound_ready_spec (s := s) hs ⟨_, rfl, hl⟩) ?_); rintro _ w ⟨H1, e, hle1, rfl, hR, hs⟩
  refine .z zg (.nil (.regSeq (.z zm (.z zneq (.nil ?_)))))
  refine (.condN rfl (fun hc8 => ?_) (fun hc8 => ?_))
  · refine .regSeq (.z zm (.z zg (.z zg (.nil ?_))))
    refine .ret (rT (Fin.ret2 Try.results52 rfl rfl ?_))
    exact ⟨H1, _, _, hle1, rfl, by
      cases hR with
      | bad h => exact .inl ⟨h, rfl, rfl⟩
      | clash h h1 => exact .inr (.inl ⟨h, h1, rfl, rfl⟩)
      | ok _ _ => exact (hc8 rfl).elim, hs.out⟩
  · refine .skip ?_
    refine nT ?_
    refine .regSeq (.y hs (zls [_, _] Try.isAgg32 Try.sizeOf32) ?_)
    obtain ⟨hok, hsd⟩ : s.Ok ∧ s.Sound := by
      generalize hz : e = z at hR
      cases hR with
      | bad h => exact (h (by omega)).elim
      | clash h h1 => omega
      | ok h h1 => exact ⟨h, h1⟩
    refine .o (.call Try.call137 rfl (bound_matrix_spec (s := s) hs ⟨_, rfl, hl.mono hle1⟩ hok hsd) ?_); rintro v11 w ⟨H2, rs, hle2, hRT, hSq, hWT, hs⟩
    obtain ⟨at', ct, rfl⟩ := hRT.shape
    refine .z zg (.z zg (.nil ?_))
    refine .ret (Fin.ret2 Try.results52 rfl rfl ?_)
    exact ⟨H2, _, _, hle1.trans hle2, rfl, .inr (.inr ⟨hok, hsd, rfl, rs, hRT, hSq, hWT⟩), hs.out⟩
end Go.Proofs.Ytiiokdeehlfeeaa

namespace Go.Proofs.Ytiiokdeehlfeeaa
open Go.MW
def pkI (l : List Int) (i : Int) : Int := if l = [] then 0 else gi l (i.tmod l.length).toNat
theorem pickI_pk (l : List Int) (i : Int) {n : Int} (hn : 1 ≤ n) : pickI l i n = pkI l i % n := by
  unfold pickI pkI
  by_cases h : l = []
  · rw [if_pos (.inl h), if_pos h]; simp
  · rw [if_neg (fun g => g.elim h (fun g => by omega)), if_neg h]
theorem bound_pick_spec {H : Heap} {w : World} {σ : List Ent} {v : Value} {l : List Int} {i : Int} (hs : St H w σ) (hr : RI H v l) (hi : 0 ≤ i) : Cl Try.prog 138 [v, I i] w fun v w' => v = I (pkI l i) ∧ St H w' σ := by
  obtain ⟨a, c, rfl⟩ := RI.shape hr
  have hlen := (RI.len hr).2.2
  refine Cl.of Try.func138 rfl Try.ntmps138 (by simp) (args_cons (k := 0) rfl (args_cons (k := 1) rfl (args0))) ?_
  refine .regSeq (.z zg (.nil (.seq (.regSeq (.z zm (.z (zlen Try.runUnderlying22) (.z zeql (.nil ?_))))))))
  refine (.condD rfl (fun hc7 => ?_) (fun hc7 => ?_))
  · refine .regSeq (.z zg (.nil ?_))
    refine .ret (rT (Fin.ret1 Try.results138 rfl ?_))
    exact ⟨by rw [show pkI l i = 0 by unfold pkI; rw [if_pos (List.length_eq_zero_iff.1 (by omega))]], hs⟩
  · refine .skip ?_
    refine nT ?_
    refine .regSeq (.z zm (.z zm (.z zm (.z (zlen Try.runUnderlying22) ?_))))
    have hl0 : 0 < l.length := by omega
    have h1 := Int.tmod_nonneg (a := i) (l.length : Int) hi
    have h2 := Int.tmod_lt_of_pos i (b := (l.length : Int)) (by omega)
    have hx := gi_get (l := l) (i := (i.tmod (l.length : Int)).toNat) (by omega)
    refine .z zrem ?_
    refine .ixY hs hr rfl rfl Try.runUnderlying22 Try.sizeOf3 hx (by omega) ?_; intro b13 o13 hc13
    refine .q hs (q_loadR rfl Try.isAgg3 hc13) ?_
    refine .z zg (.nil ?_)
    refine .ret (Fin.ret1 Try.results138 rfl ?_)
    exact ⟨by unfold pkI; rw [if_neg (fun h => by rw [h] at hl0; exact Nat.lt_irrefl _ hl0)], hs⟩
theorem choose_TT {lo hi p : Int} (h1 : lo ≠ -free) (h2 : hi ≠ free) : chooseI lo hi p = lo + p := by
  unfold chooseI; rw [if_pos h1, if_pos h2]
theorem choose_TF {lo p : Int} (h1 : lo ≠ -free) : chooseI lo free p = lo := by
  unfold chooseI; rw [if_pos h1, if_neg (by simp)]
theorem choose_FT {hi p : Int} (h2 : hi ≠ free) : chooseI (-free) hi p = hi := by
  unfold chooseI; rw [if_neg (by simp), if_pos h2]
theorem choose_FF {p : Int} : chooseI (-free) free p = 0 := by
  unfold chooseI; rw [if_neg (by simp), if_neg (by simp)]
set_option maxHeartbeats 4000000 in
theorem bound_Point_spec {H : Heap} {w : World} {σ : List Ent} {v vp : Value} {s : Syst} {picks : List Int} (hs : St H w σ) (hr : RSy H v s) (hp : RI H vp picks) :
    Cl Try.prog 53 [v, vp] w fun u w' => ∃ H1 vx x e, HLe H H1 ∧ u = .tuple #[vx, I e] ∧ RI H1 vx x ∧ PointR s picks x e ∧ St H1 w' σ := by
  obtain ⟨ul, rfl, hl⟩ := hr
  obtain ⟨al, cl, rfl⟩ := RL.shape hl
  obtain ⟨ap, cp, rfl⟩ := RI.shape hp
  refine Cl.of Try.func53 rfl Try.ntmps53 (by simp) (args_cons (k := 0) rfl (args_cons (k := 1) rfl (args0))) ?_
  refine .regSeq ?_
  refine .o (.box hs rfl rfl ?_); intro b2 w hs
  refine .z zg (.z zg (.nil (.seq (.regSeq (.y hs (zls [_, _] Try.isAgg32 Try.sizeOf32) ?_)))))
  refine .o (.call Try.call136 rfl (bound_ready_spec (s := s) hs ⟨_, rfl, hl⟩) ?_); rintro _ w ⟨H0, e, hle0, rfl, hR, hs⟩
  refine .z zg (.nil (.regSeq (.z zm (.z zneq (.nil ?_)))))
  refine (.condN rfl (fun hc23 => ?_) (fun hc23 => ?_))
  · refine .regSeq (.z zm (.z zg (.z zg (.nil ?_))))
    refine .ret (rT (Fin.ret2 Try.results53 rfl rfl ?_))
    exact ⟨H0, _, [], _, hle0, rfl, RS.nil H0 1 none 0, by
      cases hR with
      | bad h => exact .bad h
      | clash h h1 => exact .clash h h1
      | ok _ _ => exact (hc23 rfl).elim, hs.out⟩
  · refine .skip ?_
    refine nT ?_
    refine .regSeq (.y hs (zls [_, _] Try.isAgg32 Try.sizeOf32) ?_)
    obtain ⟨hok, hsd⟩ : s.Ok ∧ s.Sound := by
      generalize hz : e = z at hR
      cases hR with
      | bad h => exact (h (by omega)).elim
      | clash h h1 => omega
      | ok h h1 => exact ⟨h, h1⟩
    refine .o (.call Try.call137 rfl (bound_matrix_spec (s := s) hs ⟨_, rfl, hl.mono hle0⟩ hok hsd) ?_); rintro v26 w ⟨H1, rs, hle1, hRT, hSq, hWT, hs⟩
    replace hle1 := hle0.trans hle1
    obtain ⟨at', ct, rfl⟩ := hRT.shape
    have hTS := hok.tabS hsd hWT
    have hrl := hSq.1
    have hm0 := hok.m0
    have hm1 := hok.m1
    have hnn : (s.n : Int) = s.many + 1 := by simp only [Syst.n]; omega
    refine .z zg (.nil (.regSeq ?_))
    refine .o (.buildSlice (cells := [_]) hs bls_sl_int_1 rfl rfl ?_); intro b27 w hs
    refine .z zg (.nil (.seq (.regSeq (.z zg (.nil (.block ?_))))))
    refine .loop (fun p : List Int × Value => ⟨129, [], [(9, I (p.1.length : Int)), (8, p.2), (7, .slice at' rs.length ct), (2, .pointer (some ⟨b2, 0, none⟩)), (1, .slice ap picks.length cp)]⟩)
      (fun p w => PtsR (gt rs) (pickI picks) p.1 ∧ p.1.length ≤ s.n ∧ ∃ en, OwnS 1 p.2 (Is p.1) en ∧ St H1 w (en :: .blk b2 [I s.many, .slice al s.lims.length cl] :: σ))
      (fun p => s.n - p.1.length) ([0], .slice (some ⟨b27, 0, none⟩) 1 1) (by repeat (first | exact .nil rfl rfl | refine .cons rfl ?_))
      ⟨.start, s.n_pos, _, .full (len := 1) rfl, hs⟩ ?_
    rintro ⟨X, v8⟩ w ⟨hP, hXn, en, hO, hs⟩
    dsimp only at hP hXn hO ⊢
    have hI := hP.inv (fun i n hn => pickI_bd picks i hn) hTS hXn
    have hX0 := hI.l0
    have hO1 := hO
    obtain ⟨b, cap, sp, rfl, rfl, hcap⟩ := hO.some hX0
    refine .seq (.regSeq (.z zm (.z (zfa fa_api_System_0) (.y hs (zld Try.isAgg3) (.z zleq (.nil ?_))))))
    refine (.condD rfl (fun hc31 => ?_) (fun hc31 => ?_))
    · refine .skip ?_
      refine nT ?_
      refine .cut (fun fs w => ∃ Y v8 en8, FSub fs ⟨129, [], [(9, I (X.length : Int)), (8, v8), (7, .slice at' rs.length ct), (2, .pointer (some ⟨b2, 0, none⟩)), (1, .slice ap picks.length cp)]⟩ ∧ PtsR (gt rs) (pickI picks) Y ∧ Y.length = X.length + 1 ∧ OwnS 1 v8 (Is Y) en8 ∧ St H1 w (en8 :: .blk b2 [I s.many, .slice al s.lims.length cl] :: σ)) ?_ ?_
      · refine .block (.regSeq (.z zg (.z zg (.z zg (.z zg (.nil ?_))))))
        have hXl : X.length < s.n := by omega
        refine .seq (.regSeq (.z zm (.z (zlen Try.runUnderlying22) (.z zm (.nil ?_)))))
        refine .for (N := X.length) (J := fun k fr w => ∃ lo hi low high, fr = [(10, I lo), (11, I hi), (12, .bool low), (13, .bool high), (34, .slice (some ⟨b, 0, none⟩) X.length cap), (9, I (X.length : Int)), (8, .slice (some ⟨b, 0, none⟩) X.length cap), (7, .slice at' rs.length ct), (2, .pointer (some ⟨b2, 0, none⟩)), (1, .slice ap picks.length cp)] ∧   (low = true → -100000000 ≤ lo ∧ lo ≤ 100000000) ∧ (high = true → -100000000 ≤ hi ∧ hi ≤ 100000000) ∧ LoI (gt rs) X X.length k (bif low then lo else -free) ∧ HiI (gt rs) X X.length k (bif high then hi else free) ∧ St H1 w (.blk b (Is X ++ sp) :: .blk b2 [I s.many, .slice al s.lims.length cl] :: σ)) (by omega) ?_ ?_ ?_
        · exact .mk ⟨0, 0, false, false, rfl, fun h => (by cases h), fun h => (by cases h), .start _ _ _, .start _ _ _, hs⟩
        · rintro k fr w hk ⟨lo, hi, low, high, rfl, hlob, hhib, hLo, hHi, hs⟩
          have hXk := hI.bd k hk
          have hn65 := hTS.n65
          have hr1 : (gr rs X.length).length = s.n := hSq.2 _ hXl
          have hr2 : (gr rs k).length = s.n := hSq.2 _ (by omega)
          have hb1 : gi (gr rs X.length) k ≠ 1000000000 → -1400000 ≤ gi (gr rs X.length) k ∧ gi (gr rs X.length) k ≤ 1400000 := fun h => hTS.bd X.length k hXl (by omega) h
          have hb2 : gi (gr rs k) X.length ≠ 1000000000 → -1400000 ≤ gi (gr rs k) X.length ∧ gi (gr rs k) X.length ≤ 1400000 := fun h => hTS.bd k X.length (by omega) hXl h
          refine .block (.regSeq (.z zm (.z (zix Try.runUnderlying22 Try.sizeOf3) ?_)))
          refine .q hs (q_load rfl Try.isAgg3 (hv := Is_gi_sp hk sp)) ?_
          refine .z zg (.z zg (.nil ?_))
          refine .cut (fun fs w => ∃ lo' low', FSub fs ⟨129, [], [(10, I lo'), (12, .bool low'), (14, I (k : Int)), (15, I (gi X k)), (36, I (k : Int)), (35, I (X.length : Int)), (11, I hi), (13, .bool high), (34, .slice (some ⟨b, 0, none⟩) X.length cap), (9, I (X.length : Int)), (8, .slice (some ⟨b, 0, none⟩) X.length cap), (7, .slice at' rs.length ct), (2, .pointer (some ⟨b2, 0, none⟩)), (1, .slice ap picks.length cp)]⟩ ∧ (low' = true → -100000000 ≤ lo' ∧ lo' ≤ 100000000) ∧ LoI (gt rs) X X.length (k + 1) (bif low' then lo' else -free) ∧ St H1 w (.blk b (Is X ++ sp) :: .blk b2 [I s.many, .slice al s.lims.length cl] :: σ)) ?_ ?_
          · refine .regSeq (.z zm (.z zm ?_))
            refine .ixT hs hRT rfl rfl Try.runUnderlying87 Try.sizeOf22 (show X.length < rs.length by omega) rfl ?_; intro b43 o43 a43 c43 hc43 hR43
            refine .q hs (q_loadR rfl Try.isAgg22 hc43) ?_
            refine .z zm ?_
            refine .ixY hs hR43 rfl rfl Try.runUnderlying22 Try.sizeOf3 (gi_get (l := gr rs X.length) (i := k) (by omega)) rfl ?_; intro b46 o46 hc46
            refine .q hs (q_loadR rfl Try.isAgg3 hc46) ?_
            refine .z zg (.nil (.regSeq (.z zm (.z zneq (.z zm ?_)))))
            refine .bifN (t' := 50) rfl (fun hb50 => ?_) (fun hb50 => ?_)
            · refine .gT rfl rfl ?_
              refine .z zm ?_
              refine .gT rfl rfl ?_
              refine .z znot ?_
              refine .gT rfl rfl ?_
              refine .z zm ?_
              refine .bif (t' := 53) rfl (fun hb53 => ?_) (fun hb53 => ?_)
              · refine .gFs 5 5 false rfl rfl rfl ?_
                refine .gT rfl rfl ?_
                refine .z zpT (.z zpT (.nil ?_))
                refine (.condT rfl rfl ?_)
                refine .region (.z zm (.z zm (.z zsub (.z zg (.z zg (.nil ?_))))))
                refine nT ?_
                obtain rfl : low = false := by simpa using hb53
                have hb1' := hb1 hb50
                exact ⟨gi X k - gi (gr rs X.length) k, true, by repeat (first | exact .nil rfl rfl | refine .cons rfl ?_), fun _ => by omega, hLo.put' hb50 (by show -1000000000 ≤ gi X k - gi (gr rs X.length) k; omega) (by show gi X k - gi (gr rs X.length) k = max (-1000000000) (gi X k - gi (gr rs X.length) k); omega), hs⟩
              · refine .gT rfl rfl ?_
                refine .z zm ?_
                refine .gT rfl rfl ?_
                refine .z zm ?_
                refine .gT rfl rfl ?_
                refine .z zsub ?_
                refine .gT rfl rfl ?_
                refine .z zm ?_
                refine .gT rfl rfl ?_
                refine .z zgtr ?_
                refine .gT rfl rfl ?_
                refine .z zpF (.z zpT (.nil ?_))
                refine (.condD rfl (fun hc60 => ?_) (fun hc60 => ?_))
                · refine .region (.z zm (.z zm (.z zsub (.z zg (.z zg (.nil ?_))))))
                  refine nT ?_
                  obtain rfl : low = true := by simpa using hb53
                  have hb1' := hb1 hb50
                  exact ⟨gi X k - gi (gr rs X.length) k, true, by repeat (first | exact .nil rfl rfl | refine .cons rfl ?_), fun _ => by omega, hLo.put' hb50 (by show -1000000000 ≤ gi X k - gi (gr rs X.length) k; omega) (by show gi X k - gi (gr rs X.length) k = max lo (gi X k - gi (gr rs X.length) k); omega), hs⟩
                · refine .skip ?_
                  refine nT ?_
                  obtain rfl : low = true := by simpa using hb53
                  have hb1' := hb1 hb50
                  exact ⟨lo, true, by repeat (first | exact .nil rfl rfl | refine .cons rfl ?_), hlob, hLo.put' hb50 (by show -1000000000 ≤ gi X k - gi (gr rs X.length) k; omega) (by show lo = max lo (gi X k - gi (gr rs X.length) k); omega), hs⟩
            · refine .gFs 3 2 true rfl rfl rfl ?_
              refine .gFs 5 5 false rfl rfl rfl ?_
              refine .gFs 1 2 true rfl rfl rfl ?_
              refine .z zpF (.nil ?_)
              refine (.condF rfl rfl ?_)
              refine .skip ?_
              refine nT ?_
              exact ⟨lo, low, by repeat (first | exact .nil rfl rfl | refine .cons rfl ?_), hlob, hLo.skip hb50, hs⟩
          · rintro fs w ⟨lo', low', hfs, hlob', hLo', hs⟩
            refine WE.sub ?_ hfs
            refine .regSeq (.z zm (.z zm ?_))
            refine .ixT hs hRT rfl rfl Try.runUnderlying87 Try.sizeOf22 (show k < rs.length by omega) rfl ?_; intro b66 o66 a66 c66 hc66 hR66
            refine .q hs (q_loadR rfl Try.isAgg22 hc66) ?_
            refine .z zm ?_
            refine .ixY hs hR66 rfl rfl Try.runUnderlying22 Try.sizeOf3 (gi_get (l := gr rs k) (i := X.length) (by omega)) rfl ?_; intro b69 o69 hc69
            refine .q hs (q_loadR rfl Try.isAgg3 hc69) ?_
            refine .z zg (.nil (.regSeq (.z zm (.z zneq (.z zm ?_)))))
            refine .bifN (t' := 73) rfl (fun hb73 => ?_) (fun hb73 => ?_)
            · refine .gT rfl rfl ?_
              refine .z zm ?_
              refine .gT rfl rfl ?_
              refine .z znot ?_
              refine .gT rfl rfl ?_
              refine .z zm ?_
              refine .bif (t' := 76) rfl (fun hb76 => ?_) (fun hb76 => ?_)
              · refine .gFs 5 5 false rfl rfl rfl ?_
                refine .gT rfl rfl ?_
                refine .z zpT (.z zpT (.nil ?_))
                refine (.condT rfl rfl ?_)
                refine .region (.z zm (.z zm (.z zadd (.z zg (.z zg (.nil ?_))))))
                refine nB (nT ?_)
                obtain rfl : high = false := by simpa using hb76
                have hb2' := hb2 hb73
                exact .mk ⟨lo', gi X k + gi (gr rs k) X.length, low', true, rfl, hlob', fun _ => by omega, hLo', hHi.put' hb73 (by show gi X k + gi (gr rs k) X.length ≤ 1000000000; omega) (by show gi X k + gi (gr rs k) X.length = min 1000000000 (gi X k + gi (gr rs k) X.length); omega), hs⟩
              · refine .gT rfl rfl ?_
                refine .z zm ?_
                refine .gT rfl rfl ?_
                refine .z zm ?_
                refine .gT rfl rfl ?_
                refine .z zadd ?_
                refine .gT rfl rfl ?_
                refine .z zm ?_
                refine .gT rfl rfl ?_
                refine .z zlss ?_
                refine .gT rfl rfl ?_
                refine .z zpF (.z zpT (.nil ?_))
                refine (.condD rfl (fun hc83 => ?_) (fun hc83 => ?_))
                · refine .region (.z zm (.z zm (.z zadd (.z zg (.z zg (.nil ?_))))))
                  refine nB (nT ?_)
                  obtain rfl : high = true := by simpa using hb76
                  have hb2' := hb2 hb73
                  exact .mk ⟨lo', gi X k + gi (gr rs k) X.length, low', true, rfl, hlob', fun _ => by omega, hLo', hHi.put' hb73 (by show gi X k + gi (gr rs k) X.length ≤ 1000000000; omega) (by show gi X k + gi (gr rs k) X.length = min hi (gi X k + gi (gr rs k) X.length); omega), hs⟩
                · refine .skip ?_
                  refine nB (nT ?_)
                  obtain rfl : high = true := by simpa using hb76
                  have hb2' := hb2 hb73
                  exact .mk ⟨lo', hi, low', true, rfl, hlob', hhib, hLo', hHi.put' hb73 (by show gi X k + gi (gr rs k) X.length ≤ 1000000000; omega) (by show hi = min hi (gi X k + gi (gr rs k) X.length); omega), hs⟩
            · refine .gFs 3 2 true rfl rfl rfl ?_
              refine .gFs 5 5 false rfl rfl rfl ?_
              refine .gFs 1 2 true rfl rfl rfl ?_
              refine .z zpF (.nil ?_)
              refine (.condF rfl rfl ?_)
              refine .skip ?_
              refine nB (nT ?_)
              exact .mk ⟨lo', hi, low', high, rfl, hlob', hhib, hLo', hHi.skip hb73, hs⟩
        · rintro fr w ⟨lo, hi, low, high, rfl, hlob, hhib, hLo, hHi, hs⟩
          have hle := hI.le hTS hXl rfl hLo hHi
          simp only [free] at hle
          refine nT ?_
          refine .regSeq (.z zm (.z zm (.z zsub ?_)))
          refine .o (.call Try.call138 rfl (bound_pick_spec (i := (X.length : Int) - 1) hs (hp.mono hle1) (by omega)) ?_); rintro _ w ⟨rfl, hs⟩
          refine .z zg (.nil (.block (.regSeq (.z zm (.z zm ?_)))))
          refine .bif (t' := 97) rfl (fun hb97 => ?_) (fun hb97 => ?_)
          · refine .gT rfl rfl ?_
            refine .z zm (.z zpT (.z zg (.nil ?_)))
            refine (.cond rfl (fun hc95 => ?_) (fun hc95 => ?_))
            · refine .regSeq (.z zm (.z zm ?_))
              have hlo' : low = true := by simpa using hb97
              have hhi' : high = true := by simpa using hc95
              subst hlo'; subst hhi'
              have hlb := hlob rfl
              have hhb := hhib rfl
              simp only [cond_true] at hle
              have hle' := hle (by omega) (by omega)
              have hq1 := Int.tmod_lt_of_pos (pkI picks ((X.length : Int) - 1)) (b := hi - lo + 1) (by omega)
              have hq2 := Int.lt_tmod_of_pos (pkI picks ((X.length : Int) - 1)) (b := hi - lo + 1) (by omega)
              have hq3 := rem_emod (n := pkI picks ((X.length : Int) - 1)) (m := hi - lo + 1) (by omega)
              have hq4 := Int.emod_nonneg (pkI picks ((X.length : Int) - 1)) (b := hi - lo + 1) (by omega)
              have hq5 := Int.emod_lt_of_pos (pkI picks ((X.length : Int) - 1)) (b := hi - lo + 1) (by omega)
              refine .z zsub (.z zadd (.z zg (.nil (.region (.z zm (.z zm (.z zm (.z zm (.z zrem ?_)))))))))
              refine .z zm (.z zadd (.z zm (.z zrem (.z zadd ?_))))
              refine .o (.buildSlice (cells := [_]) hs bls_sl_int_1 rfl rfl ?_); intro b114 w hs
              refine .o (.append (ys := Is [lo + ((pkI picks ((X.length : Int) - 1)).tmod (hi - lo + 1) + (hi - lo + 1)).tmod (hi - lo + 1)]) hs app_sl_int_int rfl rfl hO1 (.own .here rfl rfl) (Is_cell _) (fun l' h => by simp at h; have := hTS.n65; omega) ?_); intro v115 en115 w hO2 hs
              rw [← List.map_append] at hO2
              have hz := hP.snoc hLo hHi
              simp only [cond_true] at hz
              rw [choose_TT (show lo ≠ -1000000000 by omega) (show hi ≠ 1000000000 by omega), pickI_pk picks _ (show 1 ≤ hi - lo + 1 by omega), ← hq3] at hz
              refine .z zg (.nil ?_)
              refine nB (nB (nT ?_))
              exact ⟨_, v115, en115, by repeat (first | exact .nil rfl rfl | refine .cons rfl ?_), hz, by simp, hO2, hs.sub (by repeat (first | exact Sub.refl _ | constructor | apply Sub.weaken))⟩
            · refine .regSeq (.z zm (.z zg (.nil ?_)))
              refine (.cond rfl (fun hc116 => ?_) (fun hc116 => ?_))
              · refine .region (.z zm (.z zm ?_))
                refine .o (.buildSlice (cells := [_]) hs bls_sl_int_1 rfl rfl ?_); intro b120 w hs
                refine .o (.append (ys := Is [lo]) hs app_sl_int_int rfl rfl hO1 (.own .here rfl rfl) (Is_cell _) (fun l' h => by simp at h; have := hTS.n65; omega) ?_); intro v115 en115 w hO2 hs
                rw [← List.map_append] at hO2
                refine .z zg (.nil ?_)
                refine nB (nB (nT ?_))
                obtain rfl : low = true := by simpa using hb97
                obtain rfl : high = false := by simpa using hc95
                have hlb := hlob rfl
                have hz := hP.snoc hLo hHi
                simp only [cond_true, cond_false] at hz
                rw [choose_TF (show lo ≠ -1000000000 by omega)] at hz
                exact ⟨_, v115, en115, by repeat (first | exact .nil rfl rfl | refine .cons rfl ?_), hz, by simp, hO2, hs.sub (by repeat (first | exact Sub.refl _ | constructor | apply Sub.weaken))⟩
              · refine .regSeq (.z zm (.z zg (.nil ?_)))
                refine (.cond rfl (fun hc122 => ?_) (fun hc122 => ?_))
                · refine .region (.z zm (.z zm ?_))
                  refine .o (.buildSlice (cells := [_]) hs bls_sl_int_1 rfl rfl ?_); intro b126 w hs
                  refine .o (.append (ys := Is [hi]) hs app_sl_int_int rfl rfl hO1 (.own .here rfl rfl) (Is_cell _) (fun l' h => by simp at h; have := hTS.n65; omega) ?_); intro v115 en115 w hO2 hs
                  rw [← List.map_append] at hO2
                  refine .z zg (.nil ?_)
                  refine nB (nB (nT ?_))
                  exfalso; have h1 : low = true := by simpa using hb97
                  have h2 : low = false := by simpa using hc116
                  rw [h1] at h2; cases h2
                · refine .region (.z zm ?_)
                  refine .o (.buildSlice (cells := [_]) hs bls_sl_int_1 rfl rfl ?_); intro b93 w hs
                  refine .o (.append (ys := Is [0]) hs app_sl_int_int rfl rfl hO1 (.own .here rfl rfl) (Is_cell _) (fun l' h => by simp at h; have := hTS.n65; omega) ?_); intro v115 en115 w hO2 hs
                  rw [← List.map_append] at hO2
                  refine .z zg (.nil ?_)
                  refine nB (nB (nT ?_))
                  exfalso; have h1 : low = true := by simpa using hb97
                  have h2 : low = false := by simpa using hc116
                  rw [h1] at h2; cases h2
          · refine .gFs 1 1 true rfl rfl rfl ?_
            refine .z zpF (.z zg (.nil ?_))
            refine (.condF rfl rfl ?_)
            refine .regSeq (.z zm (.z zg (.nil ?_)))
            refine (.cond rfl (fun hc116 => ?_) (fun hc116 => ?_))
            · refine .region (.z zm (.z zm ?_))
              refine .o (.buildSlice (cells := [_]) hs bls_sl_int_1 rfl rfl ?_); intro b120 w hs
              refine .o (.append (ys := Is [lo]) hs app_sl_int_int rfl rfl hO1 (.own .here rfl rfl) (Is_cell _) (fun l' h => by simp at h; have := hTS.n65; omega) ?_); intro v115 en115 w hO2 hs
              rw [← List.map_append] at hO2
              refine .z zg (.nil ?_)
              refine nB (nB (nT ?_))
              exfalso; have h1 : low = false := by simpa using hb97
              have h2 : low = true := by simpa using hc116
              rw [h1] at h2; cases h2
            · refine .regSeq (.z zm (.z zg (.nil ?_)))
              refine (.cond rfl (fun hc122 => ?_) (fun hc122 => ?_))
              · refine .region (.z zm (.z zm ?_))
                refine .o (.buildSlice (cells := [_]) hs bls_sl_int_1 rfl rfl ?_); intro b126 w hs
                refine .o (.append (ys := Is [hi]) hs app_sl_int_int rfl rfl hO1 (.own .here rfl rfl) (Is_cell _) (fun l' h => by simp at h; have := hTS.n65; omega) ?_); intro v115 en115 w hO2 hs
                rw [← List.map_append] at hO2
                refine .z zg (.nil ?_)
                refine nB (nB (nT ?_))
                obtain rfl : low = false := by simpa using hb97
                obtain rfl : high = true := by simpa using hc122
                have hhb := hhib rfl
                have hz := hP.snoc hLo hHi
                simp only [cond_true, cond_false] at hz
                rw [choose_FT (show hi ≠ 1000000000 by omega)] at hz
                exact ⟨_, v115, en115, by repeat (first | exact .nil rfl rfl | refine .cons rfl ?_), hz, by simp, hO2, hs.sub (by repeat (first | exact Sub.refl _ | constructor | apply Sub.weaken))⟩
              · refine .region (.z zm ?_)
                refine .o (.buildSlice (cells := [_]) hs bls_sl_int_1 rfl rfl ?_); intro b93 w hs
                refine .o (.append (ys := Is [0]) hs app_sl_int_int rfl rfl hO1 (.own .here rfl rfl) (Is_cell _) (fun l' h => by simp at h; have := hTS.n65; omega) ?_); intro v115 en115 w hO2 hs
                rw [← List.map_append] at hO2
                refine .z zg (.nil ?_)
                refine nB (nB (nT ?_))
                obtain rfl : low = false := by simpa using hb97
                obtain rfl : high = false := by simpa using hc122
                have hz := hP.snoc hLo hHi
                simp only [cond_false] at hz
                rw [choose_FF] at hz
                exact ⟨_, v115, en115, by repeat (first | exact .nil rfl rfl | refine .cons rfl ?_), hz, by simp, hO2, hs.sub (by repeat (first | exact Sub.refl _ | constructor | apply Sub.weaken))⟩
      · rintro fs w ⟨Y, v8, en8, hfs, hPY, hYl, hO2, hs⟩
        refine WE.sub ?_ hfs
        refine .region (.z zm (.z zadd (.z zg (.nil ?_))))
        refine nT ?_
        exact ⟨(Y, v8), .consI rfl (by simp [hYl]) (by repeat (first | exact .nil rfl rfl | refine .cons rfl ?_)), ⟨hPY, by dsimp only; omega, _, hO2, hs⟩, by dsimp only; omega⟩
    · refine .exit ?_
      refine xT (xT (xB (nT ?_)))
      refine .regSeq (.z zm (.z zg (.z zg (.nil ?_))))
      refine .ret (Fin.ret2 Try.results53 rfl rfl ?_)
      obtain ⟨H2, hle2, hRX, hs⟩ := OwnS.publishI hO1 (by have := hTS.n65; omega) hs .here
      exact ⟨H2, _, X, 0, hle1.trans hle2, rfl, hRX, .ok hok hsd ⟨gt rs, hWT, hP, by omega⟩, hs.out⟩
end Go.Proofs.Ytiiokdeehlfeeaa

namespace Go.Proofs.Ytiiokdeehlfeeaa
open Go.MW
theorem slices_Index_int {H : Heap} {w : World} {σ : List Ent} {v : Value} {ls : List Int} {x : Int} (hs : St H w σ) (hr : RI H v ls) :
    Cl Try.prog 198 [v, I x] w fun u w' => ∃ i, u = I i ∧ (0 ≤ i ↔ x ∈ ls) ∧ St H w' σ := by
  obtain ⟨a, c, rfl⟩ := RI.shape hr
  have hl := (RI.len hr).2.2
  refine Cl.of Try.func198 rfl Try.ntmps198 (by simp) (args_cons (k := 0) rfl (args_cons (k := 1) rfl (args0))) ?_
  refine .regSeq (.z zg (.nil (.seq (.regSeq (.z zm (.z (zlen Try.runUnderlying22) (.z zm (.nil ?_))))))))
  refine .for (N := ls.length) (J := fun k fr w => fr = [(1, I x), (0, .slice a ls.length c)] ∧ St H w σ ∧ ∀ j < k, ∀ y, ls[j]? = some y → ¬ x = y) (by omega) ?_ ?_ ?_
  · exact .mk ⟨rfl, hs, fun j hj => by omega⟩
  · rintro k fr w hk ⟨rfl, hs, hno⟩
    obtain ⟨y, hy⟩ := nth hk
    refine .block (.regSeq (.z zm (.z zg (.nil (.regSeq (.z zm (.z zm (.z zm ?_))))))))
    refine .ixY hs hr rfl rfl Try.runUnderlying22 Try.sizeOf3 hy rfl ?_; intro b14 o14 hc14
    refine .q hs (q_loadR rfl Try.isAgg3 hc14) ?_
    refine .z zeql (.nil ?_)
    refine (.condD rfl (fun hc16 => ?_) (fun hc16 => ?_))
    · refine .regSeq (.z zm (.z zg (.nil ?_)))
      refine .ret (rB (rT (rB (rT (Fin.ret1 Try.results198 rfl ?_)))))
      exact ⟨_, rfl, ⟨fun _ => by rw [hc16]; exact List.mem_of_getElem? hy, fun _ => by omega⟩, hs⟩
    · refine .skip ?_
      refine nB (nT ?_)
      exact .mk ⟨rfl, hs, upto_succ hno hy hc16⟩
  · rintro fr w ⟨rfl, hs, hno⟩
    refine nT ?_
    refine .regSeq (.z zg (.nil ?_))
    refine .ret (Fin.ret1 Try.results198 rfl ?_)
    exact ⟨_, rfl, ⟨fun h => by omega, fun h => by
      obtain ⟨j, hj⟩ := List.getElem?_of_mem h
      exact (hno j (List.getElem?_eq_some_iff.1 hj).1 x hj rfl).elim⟩, hs⟩
theorem slices_Contains_int {H : Heap} {w : World} {σ : List Ent} {v : Value} {ls : List Int} {x : Int} (hs : St H w σ) (hr : RI H v ls) :
    Cl Try.prog 153 [v, I x] w fun u w' => u = .bool (decide (x ∈ ls)) ∧ St H w' σ := by
  refine Cl.of Try.func153 rfl Try.ntmps153 (by simp) (args_cons (k := 0) rfl (args_cons (k := 1) rfl (args0))) ?_
  refine .regSeq (.z zg (.nil (.regSeq (.z zm (.z zm ?_)))))
  refine .o (.call Try.call198 rfl (slices_Index_int hs hr) ?_); rintro _ w ⟨i, rfl, hi, hs⟩
  refine .z zgeq (.z zg (.nil ?_))
  refine .ret (Fin.ret1 Try.results153 rfl ?_)
  exact ⟨by simp only [hi], hs⟩
set_option maxHeartbeats 1000000 in
theorem bound_only_spec {H : Heap} {w : World} {σ : List Ent} {v : Value} {s : Syst} {g : Nat} {cap : List Value} (q : Nat → Lim → Bool) (hs : St H w σ) (hr : RSy H v s) (hlen : s.lims.length ≤ 4398046510976) (hc : ∀ args w, (callFunc g args).run Try.prog w = .ok (.enter g args) w)
    (hp : ∀ w σ (k : Nat) (l : Lim), s.lims[k]? = some l → St H w σ → Cl Try.prog g ([I k, .agg l.c.toArray] ++ cap) w fun u w' => u = .bool (q k l) ∧ St H w' σ) :
    Cl Try.prog 154 [v, .func (.func g) #[] cap.toArray] w fun u w' => ∃ H1, HLe H H1 ∧ RSy H1 u ⟨s.many, pickTo q s.lims s.lims.length⟩ ∧ St H1 w' σ := by
  obtain ⟨ul, rfl, hl⟩ := hr
  obtain ⟨al, cl, rfl⟩ := RL.shape hl
  refine Cl.of Try.func154 rfl Try.ntmps154 (by simp) (args_cons (k := 0) rfl (args_cons (k := 1) rfl (args0))) ?_
  refine .regSeq ?_
  refine .o (.box hs rfl rfl ?_); intro b2 w hs
  refine .o (.alloc hs Try.zeroValue32 rfl ?_); intro b4 w hs
  refine .nil (.regSeq (.z (zfa fa_api_System_0) (.y hs (zld Try.isAgg3) (.z (zbd [_, _] bld_api_System) ?_))))
  refine .o (.alloc hs Try.zeroValue32 rfl ?_); intro b5 w hs
  refine .o (.stores (vs := [_, _]) hs rfl rfl Try.sizeOf32 ?_); intro w hs
  refine .nil (.seq (.regSeq (.z (zfa fa_api_System_1) (.y hs (zld Try.isAgg30) (.z (zlen Try.runUnderlying30) (.z zm (.nil ?_)))))))
  refine .for (N := s.lims.length) (J := fun k fr w => fr = [(12, .slice al s.lims.length cl), (1, .func (.func g) #[] cap.toArray), (5, .pointer (some ⟨b5, 0, none⟩)), (4, .pointer (some ⟨b4, 0, none⟩))] ∧ ∃ vL en, OwnS 4 vL (Lims (pickTo q s.lims k)) en ∧ St H w (.blk b5 [I s.many, vL] :: .blk b4 [I 0, .slice none 0 0] :: en :: σ)) (by omega) ?_ ?_ ?_
  · exact .mk ⟨rfl, _, _, .nil 4 none, hs.nul.sub (by repeat (first | exact Sub.refl _ | constructor | apply Sub.weaken))⟩
  · rintro k fr w hk ⟨rfl, vL, en, hO, hs⟩
    obtain ⟨x, hx⟩ := nth (l := s.lims) hk
    obtain ⟨aL, lL, cL, rfl, hL⟩ := hO.shape
    have hpl := pickTo_length q s.lims k
    refine .block (.regSeq (.z zm ?_))
    refine .ixX hs hl rfl rfl Try.runUnderlying30 Try.sizeOf100 hx rfl ?_; intro b17 o17 hc17
    refine .q hs (q_loadsR (vs := x.c) rfl Try.isAgg100 Try.sizeOf100 hc17) ?_
    refine .o (.alloc hs Try.zeroValue100 rfl ?_); intro b7 w hs
    refine .z zg ?_
    refine .o (.stores (vs := x.c) hs rfl rfl Try.sizeOf100 ?_); intro w hs
    refine .nil (.regSeq (.z zm (.z zm (.y hs (zls [_, _, _, _] Try.isAgg100 Try.sizeOf100) ?_))))
    refine .o (.callG (first := []) (cap := cap) rfl rfl hc (hp _ _ k x hx hs) ?_); rintro _ w ⟨rfl, hs⟩
    refine .nil ?_
    refine (.cond rfl (fun hc22 => ?_) (fun hc22 => ?_))
    · refine .region (.z (zfa fa_api_System_1) (.y hs (zld Try.isAgg30) (.y hs (zls [_, _, _, _] Try.isAgg100 Try.sizeOf100) ?_)))
      refine .o (.buildSlice (cells := x.c) hs bls_sl_api_Limit_1 rfl rfl ?_); intro b26 w hs
      refine .o (.append (ys := x.c) hs app_sl_api_Limit_api_Limit rfl rfl hO (.own .here rfl rfl) (by simp [Lim.c, Value.oneCell']) (fun l h => by rw [Lims_length] at h; omega) ?_); intro v27 en27 w hO2 hs
      obtain ⟨a27, l27, c27, rfl, h27⟩ := hO2.shape
      refine .z (zfa fa_api_System_1) ?_
      refine .o (.store hs rfl rfl Try.sizeOf30 ?_); intro w hs
      refine .nil ?_
      refine nB (nT ?_)
      have e : pickTo q s.lims (k + 1) = pickTo q s.lims k ++ [x] := by rw [pickTo_succ hx, if_pos hc22]
      rw [← Lims_one, ← Lims_append, ← e] at hO2
      exact .mk ⟨rfl, _, _, hO2, hs.sub (by repeat (first | exact Sub.refl _ | constructor | apply Sub.weaken))⟩
    · refine .skip ?_
      refine nB (nT ?_)
      have e : pickTo q s.lims (k + 1) = pickTo q s.lims k := by rw [pickTo_succ hx, hc22]; simp
      exact .mk ⟨rfl, _, _, by rw [e]; exact hO, hs.sub (by repeat (first | exact Sub.refl _ | constructor | apply Sub.weaken))⟩
  · rintro fr w ⟨rfl, vL, en, hO, hs⟩
    obtain ⟨aL, lL, cL, rfl, hL⟩ := hO.shape
    have hpl := pickTo_length q s.lims s.lims.length
    refine nT ?_
    refine .regSeq (.y hs (zls [_, _] Try.isAgg32 Try.sizeOf32) ?_)
    refine .o (.stores (vs := [_, _]) hs rfl rfl Try.sizeOf32 ?_); intro w hs
    refine .nil ?_
    refine .ret ?_
    obtain ⟨H1, g1, r1, hs⟩ := OwnS.publish (m := 4) (cs := (pickTo q s.lims s.lims.length).map Lim.c) hO (fun c hc => by simp only [List.mem_map] at hc; obtain ⟨x, _, rfl⟩ := hc; rfl) (by omega) (by rw [List.length_map]; omega) hs (by repeat constructor)
    exact Fin.retD [] [] hs fun w hs => ⟨_, results1 Try.results154 (rcells (vs := [_, _]) hs rfl Try.isAgg32 Try.sizeOf32), H1, g1, ⟨_, rfl, r1⟩, hs.out⟩
theorem bound_Without_1 {H : Heap} {w : World} {σ : List Ent} {b : Nat} {i : Int} {l : Lim} {vb : Value} {bs : List Int} (hs : St H w σ) (hb : Row H b [vb]) (hr : RI H vb bs) :
    Cl Try.prog 159 [I i, .agg l.c.toArray, .pointer (some ⟨b, 0, none⟩)] w fun u w' => u = .bool (!decide (l.S ∈ bs)) ∧ St H w' σ := by
  have hb0 : cellAt H b 0 = some vb := by rw [hb.cell]; rfl
  refine Cl.of Try.func159 rfl Try.ntmps159 (by simp) (args_cons (k := 0) rfl (args_cons (k := 1) rfl (args_cons (k := 2) rfl (args0)))) ?_
  refine .regSeq ?_
  refine .o (.box hs rfl rfl ?_); intro b4 w hs
  refine .z zg (.nil (.regSeq (.y hs (zld Try.isAgg22) (.z (zfa fa_api_Limit_3) (.y hs (zld Try.isAgg3) ?_)))))
  refine .o (.call Try.call153 rfl (slices_Contains_int hs hr) ?_); rintro _ w ⟨rfl, hs⟩
  refine .z znot (.z zg (.nil ?_))
  refine .ret (Fin.ret1 Try.results159 rfl ?_)
  exact ⟨rfl, hs.out⟩
theorem bound_Without_spec {H : Heap} {w : World} {σ : List Ent} {v vb : Value} {s : Syst} {bs : List Int} (hs : St H w σ) (hr : RSy H v s) (hb : RI H vb bs) (hlen : s.lims.length ≤ 4398046510976) :
    Cl Try.prog 68 [v, vb] w fun u w' => ∃ H1, HLe H H1 ∧ RSy H1 u (s.wo bs) ∧ St H1 w' σ := by
  obtain ⟨ul, rfl, hl⟩ := hr
  obtain ⟨al, cl, rfl⟩ := RL.shape hl
  obtain ⟨ab, cb, rfl⟩ := RI.shape hb
  refine Cl.of Try.func68 rfl Try.ntmps68 (by simp) (args_cons (k := 0) rfl (args_cons (k := 1) rfl (args0))) ?_
  refine .regSeq ?_
  refine .o (.box hs rfl rfl ?_); intro b2 w hs
  refine .o (.box hs rfl rfl ?_); intro b3 w hs
  refine .o (.alloc hs Try.zeroValue32 rfl ?_); intro b4 w hs
  refine .nil (.regSeq (.y hs (zls [_, _] Try.isAgg32 Try.sizeOf32) ?_))
  refine .q hs (q_makeFunc (f := []) (c := [_]) rfl rfl) ?_
  obtain ⟨H1, hle1, r3, hs⟩ := hs.publish (b := b3) (by repeat constructor)
  refine .o (.call Try.call154 rfl (bound_only_spec (g := 159) (cap := [.pointer (some ⟨b3, 0, none⟩)]) (s := s) (fun _ l => !decide (l.S ∈ bs)) hs ⟨_, rfl, hl.mono hle1⟩ hlen Try.call159 (fun w σ k l _ hs => bound_Without_1 hs r3 (hb.mono hle1))) ?_); rintro _ w ⟨H2, hle2, ⟨u7, rfl, hL7⟩, hs⟩
  rw [pickTo_all] at hL7
  obtain ⟨a7, c7, rfl⟩ := RL.shape hL7
  refine .o (.stores (vs := [_, _]) hs rfl rfl Try.sizeOf32 ?_); intro w hs
  refine .nil ?_
  refine .ret ?_
  exact Fin.retD [] [] hs fun w hs => ⟨_, results1 Try.results68 (rcells (vs := [_, _]) hs rfl Try.isAgg32 Try.sizeOf32), H2, hle1.trans hle2, ⟨_, rfl, hL7⟩, hs.out⟩
end Go.Proofs.Ytiiokdeehlfeeaa

namespace Go.Proofs.Ytiiokdeehlfeeaa
open Go.MW
theorem slices_Sort_own {H : Heap} {w : World} {σ : List Ent} {b cap : Nat} {xs : List Int} {sp : List Value} (hs : St H w (.blk b (Is xs ++ sp) :: σ)) (hl : xs.length ≤ 17592186044416) :
    Cl Try.prog 199 [.slice (some ⟨b, 0, none⟩) xs.length cap] w fun u w' => u = .tuple #[] ∧ St H w' (.blk b (Is (xs.mergeSort fun x y => decide (x ≤ y)) ++ sp) :: σ) :=
  (srt_Sort b 0 cap xs w hs.holds (hs.lt .here) (by omega)).mono fun e w' ⟨he, m, os, hw⟩ => ⟨_, he, rfl, by
    rw [hw]
    exact (hs.putRow (List.length_mergeSort _)).grow os⟩
theorem slices_Sort_none {H : Heap} {w : World} {σ : List Ent} {a : Option Addr} {cap : Nat} (hs : St H w σ) :
    Cl Try.prog 199 [.slice a 0 cap] w fun u w' => u = .tuple #[] ∧ St H w' σ :=
  (srt_Sort_none a cap w).mono fun e w' ⟨he, hw⟩ => ⟨_, he, rfl, by rw [hw]; exact hs⟩
theorem slices_Compact_own {H : Heap} {w : World} {σ : List Ent} {b cap : Nat} {xs : List Int} {sp : List Value} (hs : St H w (.blk b (Is xs ++ sp) :: σ)) (hl : xs.length ≤ 17592186044416) (hcap : xs.length ≤ cap) :
    Cl Try.prog 200 [.slice (some ⟨b, 0, none⟩) xs.length cap] w fun u w' => u = .slice (some ⟨b, 0, none⟩) (Go.Lib.compact xs).length cap ∧ St H w' (.blk b (Is (Go.Lib.compact xs) ++ (Is (List.replicate (xs.length - (Go.Lib.compact xs).length) 0) ++ sp)) :: σ) :=
  (srt_Compact b 0 cap xs w hs.holds (by omega) hcap).mono fun e w' ⟨he, m, hw⟩ => ⟨_, he, rfl, by
    rw [hw]
    have h := Go.Lib.compact_length_le xs
    have := hs.putRow (m := m) (ys := Go.Lib.compact xs ++ List.replicate (xs.length - (Go.Lib.compact xs).length) 0) (by simp; omega)
    have e2 : Is (Go.Lib.compact xs ++ List.replicate (xs.length - (Go.Lib.compact xs).length) 0) = Is (Go.Lib.compact xs) ++ Is (List.replicate (xs.length - (Go.Lib.compact xs).length) 0) := List.map_append
    rw [e2, List.append_assoc] at this
    exact this⟩
theorem slices_Compact_none {H : Heap} {w : World} {σ : List Ent} {a : Option Addr} {cap : Nat} (hs : St H w σ) :
    Cl Try.prog 200 [.slice a 0 cap] w fun u w' => u = .slice a 0 cap ∧ St H w' σ :=
  (srt_Compact_none a cap w).mono fun e w' ⟨he, hw⟩ => ⟨_, he, rfl, by rw [hw]; exact hs⟩
theorem bound_put_spec {H : Heap} {w : World} {σ : List Ent} {v : Value} {xs : List Int} {en : Ent} (hs : St H w (en :: σ)) (hO : OwnS 1 v (Is xs) en) (hl : xs.length ≤ 17592186044416) :
    Cl Try.prog 158 [v] w fun u w' => ∃ L en', OwnS 1 u (Is L) en' ∧ L.length ≤ xs.length ∧ RiseOf (fun x => x ∈ xs) L ∧ St H w' (en' :: σ) := by
  rcases hO with ⟨a, rfl, h0, rfl⟩ | ⟨b, len, cap, sp, rfl, rfl, h3, h4, h5⟩
  · have hx : xs = [] := by simpa using h0
    subst hx
    refine Cl.of Try.func158 rfl Try.ntmps158 (by simp) (args_cons (k := 0) rfl (args0)) ?_
    refine .regSeq (.z zg (.nil (.regSeq (.z zm ?_))))
    refine .o (.call Try.call199 rfl (slices_Sort_none hs) ?_); rintro _ w ⟨rfl, hs⟩
    refine .nil (.regSeq (.z zm ?_))
    refine .o (.call Try.call200 rfl (slices_Compact_none hs) ?_); rintro _ w ⟨rfl, hs⟩
    refine .z zg (.nil ?_)
    refine .ret (Fin.ret1 Try.results158 rfl ?_)
    exact ⟨[], _, .nil 1 a, by simp, .nil (by simp), hs.out⟩
  · obtain rfl : len = xs.length := by simpa using h3.symm
    refine Cl.of Try.func158 rfl Try.ntmps158 (by simp) (args_cons (k := 0) rfl (args0)) ?_
    refine .regSeq (.z zg (.nil (.regSeq (.z zm ?_))))
    refine .o (.call Try.call199 rfl (slices_Sort_own hs hl) ?_); rintro _ w ⟨rfl, hs⟩
    refine .nil (.regSeq (.z zm ?_))
    have hml : (xs.mergeSort fun x y => decide (x ≤ y)).length = xs.length := List.length_mergeSort _
    rw [← hml]
    refine .o (.call Try.call200 rfl (slices_Compact_own hs (by omega) (by omega)) ?_); rintro _ w ⟨rfl, hs⟩
    refine .z zg (.nil ?_)
    refine .ret (Fin.ret1 Try.results158 rfl ?_)
    have hcl := Go.Lib.compact_length_le (xs.mergeSort fun x y => decide (x ≤ y))
    have h4' : xs.length + sp.length = cap := by simpa using h4
    exact ⟨_, _, .inr ⟨b, _, cap, Is (List.replicate ((xs.mergeSort fun x y => decide (x ≤ y)).length - (Go.Lib.compact (xs.mergeSort fun x y => decide (x ≤ y))).length) 0) ++ sp, rfl, rfl, by simp, by simp; omega, by omega⟩, by omega, sorted_rise, hs⟩
theorem bound_Sources_spec {H : Heap} {w : World} {σ : List Ent} {v : Value} {s : Syst} (hs : St H w σ) (hr : RSy H v s) (hlen : s.lims.length ≤ 4398046510976) :
    Cl Try.prog 66 [v] w fun u w' => ∃ L en, OwnS 1 u (Is L) en ∧ L.length ≤ s.lims.length ∧ RiseOf (SrcS s.lims) L ∧ St H w' (en :: σ) := by
  obtain ⟨ul, rfl, hl⟩ := hr
  obtain ⟨al, cl, rfl⟩ := RL.shape hl
  refine Cl.of Try.func66 rfl Try.ntmps66 (by simp) (args_cons (k := 0) rfl (args0)) ?_
  refine .regSeq ?_
  refine .o (.box hs rfl rfl ?_); intro b1 w hs
  refine .z zg (.nil (.regSeq (.z zg (.nil (.seq (.regSeq (.z (zfa fa_api_System_1) (.y hs (zld Try.isAgg30) (.z (zlen Try.runUnderlying30) ?_)))))))))
  refine .z zm (.nil ?_)
  refine .for (N := s.lims.length) (J := fun k fr w => ∃ v3 en, OwnS 1 v3 (Is ((s.lims.take k).map Lim.S)) en ∧ fr = [(3, v3), (7, .slice al s.lims.length cl)] ∧ St H w (en :: σ)) (by omega) ?_ ?_ ?_
  · exact .mk ⟨_, _, .nil 1 none, rfl, hs.nul.sub (by repeat (first | exact Sub.refl _ | constructor | apply Sub.weaken))⟩
  · rintro k fr w hk ⟨v3, en, hO, rfl, hs⟩
    obtain ⟨x, hx⟩ := nth (l := s.lims) hk
    obtain ⟨a3, l3, c3, rfl, h3⟩ := hO.shape
    refine .block (.regSeq ?_)
    refine .ixX hs hl rfl rfl Try.runUnderlying30 Try.sizeOf100 hx rfl ?_; intro b11 o11 hc11
    refine .q hs (q_loadsR (vs := x.c) rfl Try.isAgg100 Try.sizeOf100 hc11) ?_
    refine .o (.alloc hs Try.zeroValue100 rfl ?_); intro b5 w hs
    refine .o (.stores (vs := x.c) hs rfl rfl Try.sizeOf100 ?_); intro w hs
    refine .nil (.region (.z zm (.z (zfa fa_api_Limit_3) (.y hs (zld Try.isAgg3) ?_))))
    refine .o (.buildSlice (cells := [_]) hs bls_sl_int_1 rfl rfl ?_); intro b16 w hs
    refine .o (.append (ys := Is [x.S]) hs app_sl_int_int rfl rfl hO (.own .here rfl rfl) (Is_cell _) (fun l' h => by simp at h; omega) ?_); intro v17 en17 w hO2 hs
    rw [← List.map_append] at hO2
    refine .z zg (.nil ?_)
    refine nB (nT ?_)
    exact .mk ⟨_, _, by rw [take_snoc hx, List.map_append]; exact hO2, rfl, hs.sub (by repeat (first | exact Sub.refl _ | constructor | apply Sub.weaken))⟩
  · rintro fr w ⟨v3, en, hO, rfl, hs⟩
    rw [List.take_length] at hO
    refine nT ?_
    refine .regSeq (.z zm ?_)
    refine .o (.call Try.call158 rfl (bound_put_spec hs hO (by rw [List.length_map]; omega)) ?_); rintro v20 w ⟨L, en', hO', hL, hR, hs⟩
    rw [List.length_map] at hL
    refine .z zg (.nil ?_)
    refine .ret (Fin.ret1 Try.results66 rfl ?_)
    exact ⟨L, en', hO', hL, hR.congr fun x => by simp [SrcS], hs⟩
end Go.Proofs.Ytiiokdeehlfeeaa

namespace Go.Proofs.Ytiiokdeehlfeeaa
open Go.MW
theorem slices_IndexFunc_own {H : Heap} {w : World} {σ : List Ent} {v : Value} {en : Ent} {xs : List Int} {g : Nat} {cap : List Value} (q : Int → Bool) (hs : St H w (en :: σ)) (hO : OwnS 1 v (Is xs) en) (hl : xs.length ≤ 17592186044416) (hc : ∀ args w, (callFunc g args).run Try.prog w = .ok (.enter g args) w)
    (hp : ∀ H' w σ (n : Int), n ∈ xs → HLe H H' → St H' w σ → Cl Try.prog g ([I n] ++ cap) w fun u w' => ∃ H1, HLe H' H1 ∧ u = .bool (q n) ∧ St H1 w' σ) :
    Cl Try.prog 197 [v, .func (.func g) #[] cap.toArray] w fun u w' => ∃ H1 i, HLe H H1 ∧ u = I i ∧ ((i = -1 ∧ ∀ x ∈ xs, q x = false) ∨ (∃ (k : Nat) (x : Int), i = k ∧ xs[k]? = some x ∧ q x = true ∧ ∀ j < k, ∀ y, xs[j]? = some y → q y = false)) ∧ St H1 w' (en :: σ) := by
  obtain ⟨a, c, rfl⟩ := hO.shapeI
  refine Cl.of Try.func197 rfl Try.ntmps197 (by simp) (args_cons (k := 0) rfl (args_cons (k := 1) rfl (args0))) ?_
  refine .regSeq (.z zg (.nil (.seq (.regSeq (.z zm (.z (zlen Try.runUnderlying22) (.z zm (.nil ?_))))))))
  refine .for (N := xs.length) (J := fun k fr w => fr = [(1, .func (.func g) #[] cap.toArray), (0, .slice a xs.length c)] ∧ ∃ H1, HLe H H1 ∧ (∀ j < k, ∀ y, xs[j]? = some y → q y = false) ∧ St H1 w (en :: σ)) (by omega) ?_ ?_ ?_
  · exact .mk ⟨rfl, H, HLe.refl H, fun j hj => by omega, hs⟩
  · rintro k fr w hk ⟨rfl, H1, hle1, hno, hs⟩
    have hx := gi_get hk
    obtain ⟨b, c', sp, hv, rfl, _⟩ := hO.blk (by omega)
    cases hv
    refine .block (.regSeq (.z zm (.z zg (.nil (.regSeq (.z zm (.z zm (.z zm (.z (zix Try.runUnderlying22 Try.sizeOf3) ?_)))))))))
    refine .q hs (q_load rfl Try.isAgg3 (hv := Is_gi_sp hk sp)) ?_
    refine .o (.callG (first := []) (cap := cap) rfl rfl hc (hp _ _ _ (gi xs k) (List.mem_of_getElem? hx) hle1 hs) ?_); rintro _ w ⟨H2, hle2, rfl, hs⟩
    refine .nil ?_
    refine (.cond rfl (fun hc16 => ?_) (fun hc16 => ?_))
    · refine .regSeq (.z zm (.z zg (.nil ?_)))
      refine .ret (rB (rT (rB (rT (Fin.ret1 Try.results197 rfl ?_)))))
      exact ⟨H2, _, hle1.trans hle2, rfl, .inr ⟨k, _, rfl, hx, hc16, hno⟩, hs⟩
    · refine .skip ?_
      refine nB (nT ?_)
      exact .mk ⟨rfl, H2, hle1.trans hle2, upto_succ hno hx hc16, hs⟩
  · rintro fr w ⟨rfl, H1, hle1, hno, hs⟩
    refine nT ?_
    refine .regSeq (.z zg (.nil ?_))
    refine .ret (Fin.ret1 Try.results197 rfl ?_)
    exact ⟨H1, _, hle1, rfl, .inl ⟨rfl, fun x hx => by
      obtain ⟨j, hj⟩ := List.getElem?_of_mem hx
      exact hno j (List.getElem?_eq_some_iff.1 hj).1 x hj⟩, hs⟩
set_option maxHeartbeats 1000000 in
theorem slices_DeleteFunc_spec {H : Heap} {w : World} {σ : List Ent} {v : Value} {en : Ent} {xs : List Int} {g : Nat} {cap : List Value} (q : Int → Bool) (hs : St H w (en :: σ)) (hO : OwnS 1 v (Is xs) en) (hl : xs.length ≤ 17592186044416) (hc : ∀ args w, (callFunc g args).run Try.prog w = .ok (.enter g args) w)
    (hp : ∀ H' w σ (n : Int), n ∈ xs → HLe H H' → St H' w σ → Cl Try.prog g ([I n] ++ cap) w fun u w' => ∃ H1, HLe H' H1 ∧ u = .bool (q n) ∧ St H1 w' σ) :
    Cl Try.prog 151 [v, .func (.func g) #[] cap.toArray] w fun u w' => ∃ H1 en', HLe H H1 ∧ OwnS 1 u (Is (xs.filter fun x => !q x)) en' ∧ St H1 w' (en' :: σ) := by
  obtain ⟨a, c, rfl⟩ := hO.shapeI
  refine Cl.of Try.func151 rfl Try.ntmps151 (by simp) (args_cons (k := 0) rfl (args_cons (k := 1) rfl (args0))) ?_
  refine .regSeq (.z zg (.nil (.regSeq (.z zm (.z zm ?_)))))
  refine .o (.call Try.call197 rfl (slices_IndexFunc_own q hs hO hl hc hp) ?_); rintro _ w ⟨H1, i0, hle1, rfl, hcase, hs⟩
  refine .z zg (.nil (.seq (.regSeq (.z zm (.z zeql (.nil ?_))))))
  refine (.condD rfl (fun hc12 => ?_) (fun hc12 => ?_))
  · refine .regSeq (.z zm (.z zg (.nil ?_)))
    refine .ret (rT (Fin.ret1 Try.results151 rfl ?_))
    have hno : ∀ x ∈ xs, q x = false := by
      rcases hcase with ⟨_, h⟩ | ⟨k, x, h, _⟩
      · exact h
      · omega
    have e : xs.filter (fun x => !q x) = xs := List.filter_eq_self.2 fun x hx => by simp [hno x hx]
    exact ⟨H1, en, hle1, by rw [e]; exact hO, hs⟩
  · refine .skip ?_
    refine nT ?_
    refine .seq (.regSeq (.z zm ?_))
    obtain ⟨k0, x0, rfl, hx0, hq0, hno⟩ : ∃ (k : Nat) (x : Int), i0 = k ∧ xs[k]? = some x ∧ q x = true ∧ ∀ j < k, ∀ y, xs[j]? = some y → q y = false := hcase.resolve_left fun h => hc12 h.1
    have hk0 := (List.getElem?_eq_some_iff.1 hx0).1
    obtain ⟨b, c', sp, hv, rfl, hc'⟩ := hO.blk (by omega)
    cases hv
    refine .z zadd (.z zg (.nil (.block ?_)))
    refine .loop (fun p : Nat × Nat => ⟨42, [], [(5, I (p.1 : Int)), (6, I (p.2 : Int)), (1, .func (.func g) #[] cap.toArray), (0, .slice (some ⟨b, 0, none⟩) xs.length c)]⟩)
      (fun p w => k0 < p.2 ∧ ∃ Y H1, HLe H H1 ∧ DelI q xs Y p.1 p.2 ∧ St H1 w (.blk b (Is Y ++ sp) :: σ))
      (fun p => xs.length - p.2) (k0, k0 + 1) (.cons rfl (.consI rfl (by dsimp only; omega) (by repeat (first | exact .nil rfl rfl | refine .cons rfl ?_))))
      ⟨by dsimp only; omega, xs, H1, hle1, .start hx0 hq0 hno, hs⟩ ?_
    clear hs hle1 hcase
    rintro ⟨i, j⟩ w ⟨hkj, Y, H1, hle1, hD, hs⟩
    dsimp only at hkj hD ⊢
    have hYl := hD.len
    have hij := hD.le
    have hjl := hD.jl
    have hilt := hD.lt hx0 hq0 hkj
    refine .seq (.regSeq (.z zm (.z zm (.z (zlen Try.runUnderlying22) (.z zlss (.nil ?_))))))
    refine (.condD rfl (fun hc19 => ?_) (fun hc19 => ?_))
    · refine .skip ?_
      refine nT ?_
      refine .seq (.block (.regSeq (.z zm (.z zm ?_))))
      have hj : j < Y.length := by omega
      have hx : xs[j]? = some (gi Y j) := by rw [hD.rest j (Nat.le_refl _)]; exact gi_get (by omega)
      refine .z (zix Try.runUnderlying22 Try.sizeOf3) ?_
      refine .q hs (q_load rfl Try.isAgg3 (hv := Is_gi_sp hj sp)) ?_
      refine .z zg (.nil (.regSeq (.z zm (.z zm ?_))))
      refine .o (.callG (first := []) (cap := cap) rfl rfl hc (hp _ _ _ (gi Y j) (List.mem_of_getElem? hx) hle1 hs) ?_); rintro _ w ⟨H2, hle2, rfl, hs⟩
      refine .z znot (.nil ?_)
      refine (.cond rfl (fun hc29 => ?_) (fun hc29 => ?_))
      · refine .regSeq (.z zm (.z zm (.z zm (.z (zix Try.runUnderlying22 Try.sizeOf3) ?_))))
        refine .o (.store hs rfl rfl Try.sizeOf3 ?_ .here (blt_Is_sp (show i < Y.length by omega) sp) (Is_set_sp (show i < Y.length by omega) sp _)); intro w hs
        refine .nil (.region (.z zm (.z zadd (.z zg (.nil ?_)))))
        refine nB (nT ?_)
        refine .region (.z zm (.z zadd (.z zg (.nil ?_))))
        refine nT ?_
        exact ⟨(i + 1, j + 1), .consI rfl (by dsimp only; omega) (.consI rfl (by dsimp only; omega) (by repeat (first | exact .nil rfl rfl | refine .cons rfl ?_))), ⟨by dsimp only; omega, _, H2, hle1.trans hle2, hD.keep hx (by simpa using hc29), hs⟩, by dsimp only; omega⟩
      · refine .skip ?_
        refine nB (nT ?_)
        refine .region (.z zm (.z zadd (.z zg (.nil ?_))))
        refine nT ?_
        exact ⟨(i, j + 1), .cons rfl (.consI rfl (by dsimp only; omega) (by repeat (first | exact .nil rfl rfl | refine .cons rfl ?_))), ⟨by dsimp only; omega, _, H2, hle1.trans hle2, hD.skip hx (by simpa using hc29), hs⟩, by dsimp only; omega⟩
    · refine .exit ?_
      refine xT (xT (xB (nT ?_)))
      refine .regSeq (.z zm (.z zm ?_))
      obtain rfl : xs.length = j := by omega
      refine .q hs (q_sliceLI (k := i) rfl rfl Try.runUnderlying22 Try.sizeOf3 (by omega) (by omega)) ?_
      rw [show 0 + i * 1 = i by omega]
      refine .o (.clearI (c := Is Y ++ sp) hs rfl Try.runUnderlying22 Try.zeroValue3 (by simp; omega) ?_); intro w hs
      rw [hD.done sp] at hs
      have hil := hD.il
      rw [List.take_length] at hil
      refine .nil (.regSeq (.z zm (.z zm ?_)))
      refine .q hs (q_sliceHI (k := i) rfl rfl Try.runUnderlying22 Try.sizeOf3 (by omega)) ?_
      refine .z zg (.nil ?_)
      refine .ret (Fin.ret1 Try.results151 rfl ?_)
      exact ⟨H1, _, hle1, .inr ⟨b, i, c, List.replicate (xs.length - i) (I 0) ++ sp, rfl, rfl, by simp [hil], by simp [← hil]; omega, by omega⟩, hs⟩
theorem bound_span_spec {H : Heap} {w : World} {σ : List Ent} {v vw : Value} {s : Syst} {ws : List Int} (hs : St H w σ) (hr : RSy H v s) (hrw : RI H vw ws) :
    Cl Try.prog 178 [v, vw] w fun u w' => ∃ H1 lo hi e, HLe H H1 ∧ u = .agg #[I lo, I hi, I e] ∧ RangeR s ws lo hi e ∧ St H1 w' σ := by
  obtain ⟨ul, rfl, hl⟩ := hr
  obtain ⟨al, cl, rfl⟩ := RL.shape hl
  refine Cl.of Try.func178 rfl Try.ntmps178 (by simp) (args_cons (k := 0) rfl (args_cons (k := 1) rfl (args0))) ?_
  refine .regSeq ?_
  refine .o (.box hs rfl rfl ?_); intro b2 w hs
  refine .o (.alloc hs Try.zeroValue209 rfl ?_); intro b4 w hs
  refine .nil (.regSeq (.y hs (zls [_, _] Try.isAgg32 Try.sizeOf32) (.z zm ?_)))
  refine .o (.call Try.call60 rfl (bound_Range_spec (s := s) hs ⟨_, rfl, hl⟩ hrw) ?_); rintro _ w ⟨H1, lo, hi, e, hle1, rfl, hR, hs⟩
  refine .z zm (.z zex (.z zex (.z zex (.z zg (.z zg (.z zg (.nil (.regSeq (.z zm ?_)))))))))
  refine .z zm (.z zm (.z (zbd [_, _, _] bld_bound_told) ?_))
  refine .o (.stores (vs := [_, _, _]) hs rfl rfl Try.sizeOf209 ?_); intro w hs
  refine .nil ?_
  refine .ret ?_
  exact Fin.retD [] [] hs fun w hs => ⟨_, results1 Try.results178 (rcells (vs := [_, _, _]) hs rfl Try.isAgg209 Try.sizeOf209), H1, lo, hi, e, hle1, rfl, hR, hs.out⟩
set_option maxRecDepth 100000 in
theorem told_stood : Try.prog.stoodInHeld 209 = false := by kernel_rfl
set_option maxRecDepth 100000 in
theorem told_guard : Try.prog.eqGuardType Try.prog.depth 209 = false := by kernel_rfl
theorem RangeR.told {s : Syst} {ws : List Int} {a b e lo hi : Int} (h : RangeR s ws a b e) : (a = lo ∧ b = hi ∧ e = 0) ↔ RangeR s ws lo hi 0 := by
  constructor
  · rintro ⟨rfl, rfl, rfl⟩; exact h
  · intro g
    exact h.uniq g
set_option maxRecDepth 4000 in
theorem bound_Moves_1 {H : Heap} {w : World} {σ : List Ent} {n lo hi : Int} {b2 b3 b6 : Nat} {s : Syst} {ws : List Int} {ul vw : Value} (hs : St H w σ) (r2 : Row H b2 [I s.many, ul]) (hl : RL H ul s.lims) (r3 : Row H b3 [vw]) (hw : RI H vw ws) (r6 : Row H b6 [I lo, I hi, I 0]) (hlen : s.lims.length ≤ 4398046510976) :
    Cl Try.prog 179 [I n, .pointer (some ⟨b2, 0, none⟩), .pointer (some ⟨b3, 0, none⟩), .pointer (some ⟨b6, 0, none⟩)] w fun u w' => ∃ H1 bb, HLe H H1 ∧ u = .bool bb ∧ (bb = true ↔ RangeR (s.wo [n]) ws lo hi 0) ∧ St H1 w' σ := by
  obtain ⟨al, cl, rfl⟩ := RL.shape hl
  obtain ⟨aw, cw, rfl⟩ := RI.shape hw
  have c2 := r2.cells 0 [I s.many, .slice al s.lims.length cl]
  have c3 := r3.at 0
  have c6 := r6.cells 0 [I lo, I hi, I 0]
  refine Cl.of Try.func179 rfl Try.ntmps179 (by simp) (args_cons (k := 0) rfl (args_cons (k := 1) rfl (args_cons (k := 2) rfl (args_cons (k := 3) rfl (args0))))) ?_
  refine .regSeq (.z zg (.nil ?_))
  refine .seq (.draw mix rfl hs ?_); intro w hs
  refine .ys 0 rfl hs [_, _] Try.isAgg32 Try.sizeOf32 ?_; refine .z 1 rfl zm ?_
  refine .r (i := 4) hs rfl (by kernel_rfl) .none (q_loadR rfl Try.isAgg22 c3) ?_
  refine .r (i := 6) hs rfl (by kernel_rfl) .none (q_loadsR (vs := [I lo, I hi, I 0]) rfl Try.isAgg209 Try.sizeOf209 c6) ?_
  refine .e1 (i := 2) (by kernel_rfl) rfl rfl .none hs ?_
  refine .buildSlice (cells := [_]) hs bls_sl_int_1 rfl rfl ?_; intro b8 w hs
  refine .go ?_
  refine .e1 (i := 3) (by kernel_rfl) rfl rfl .none hs ?_
  obtain ⟨H1, hle1, r8, hs⟩ := OwnS.publishI (xs := [n]) (v := .slice (some ⟨b8, 0, none⟩) 1 1) (.full (len := 1) rfl) (by simp) hs (by repeat constructor)
  refine .call Try.call68 rfl (bound_Without_spec (s := s) hs ⟨_, rfl, hl.mono hle1⟩ r8 hlen) ?_; rintro _ w ⟨H2, hle2, hS9, hs⟩
  have hle02 := hle1.trans hle2
  refine .go ?_
  refine .e1 (i := 5) (by kernel_rfl) rfl rfl .none hs ?_
  refine .call Try.call178 rfl (bound_span_spec hs hS9 (hw.mono hle02)) ?_; rintro _ w ⟨H3, a, b, e, hle3, rfl, hR, hs⟩
  have hle03 := hle02.trans hle3
  refine .go ?_
  refine .p (i := 7) rfl (by kernel_rfl) .none (q_eqS3 rfl rfl Try.runUnderlying209 told_stood told_guard (fun f hf => by
    simp only [List.mem_cons, List.not_mem_nil, or_false] at hf
    rcases hf with rfl | rfl | rfl <;> first | exact ⟨by decide, Try.runUnderlying3, Try.isAgg3⟩ | exact ⟨by decide, Try.runUnderlying41, Try.isAgg41⟩)) ?_
  refine .z 8 rfl zg ?_; refine .done (by kernel_rfl) hs ?_
  refine .ret (Fin.ret1 Try.results179 rfl ?_)
  exact ⟨H3, _, hle03, rfl, by rw [decide_eq_true_eq]; exact RangeR.told hR, hs.out⟩
open Classical in
theorem bound_Moves_spec {H : Heap} {w : World} {σ : List Ent} {v vw : Value} {s : Syst} {ws : List Int} (hs : St H w σ) (hr : RSy H v s) (hrw : RI H vw ws) :
    Cl Try.prog 93 [v, vw] w fun u w' => ∃ H1 vx L e, HLe H H1 ∧ u = .tuple #[vx, I e] ∧ RI H1 vx L ∧ MovesR s ws L e ∧ St H1 w' σ := by
  obtain ⟨ul, rfl, hl⟩ := hr
  obtain ⟨al, cl, rfl⟩ := RL.shape hl
  obtain ⟨aw, cw, rfl⟩ := RI.shape hrw
  refine Cl.of Try.func93 rfl Try.ntmps93 (by simp) (args_cons (k := 0) rfl (args_cons (k := 1) rfl (args0))) ?_
  refine .regSeq ?_
  refine .o (.box hs rfl rfl ?_); intro b2 w hs
  refine .o (.box hs rfl rfl ?_); intro b3 w hs
  refine .z zg (.z zg (.nil (.regSeq (.y hs (zls [_, _] Try.isAgg32 Try.sizeOf32) (.y hs (zld Try.isAgg22) ?_)))))
  refine .o (.call Try.call178 rfl (bound_span_spec (s := s) hs ⟨_, rfl, hl⟩ hrw) ?_); rintro _ w ⟨H1, lo, hi, e, hle1, rfl, hR, hs⟩
  refine .o (.alloc hs Try.zeroValue209 rfl ?_); intro b6 w hs
  refine .o (.stores (vs := [_, _, _]) hs rfl rfl Try.sizeOf209 ?_); intro w hs
  refine .nil (.seq (.regSeq (.z (zfa fa_bound_told_2) (.y hs (zld Try.isAgg41) (.z zneq (.nil ?_))))))
  refine (.condN rfl (fun hc12 => ?_) (fun hc12 => ?_))
  · refine .seq (.draw mix rfl hs ?_); intro w hs
    refine .z 0 rfl (zfa fa_bound_told_2) ?_; refine .y 1 rfl hs Try.isAgg41 ?_; refine .z 2 rfl zg ?_; refine .z 3 rfl zg ?_; refine .done (by kernel_rfl) hs ?_
    refine .ret (rT (Fin.ret2 Try.results93 rfl rfl ?_))
    exact ⟨H1, _, [], _, hle1, rfl, RS.nil H1 1 none 0, .bad hR hc12, hs.out⟩
  · refine .skip ?_
    refine nT ?_
    refine .regSeq (.y hs (zls [_, _] Try.isAgg32 Try.sizeOf32) ?_)
    obtain rfl : e = 0 := hc12
    have hok := (askErr_ok hR.ask).1
    have hll := hok.len
    refine .o (.call Try.call66 rfl (bound_Sources_spec (s := s) hs ⟨_, rfl, hl.mono hle1⟩ (by omega)) ?_); rintro v16 w ⟨L, en, hO, hLl, hRise, hs⟩
    refine .q hs (q_makeFunc (f := []) (c := [_, _, _]) rfl rfl) ?_
    obtain ⟨H2, hle2, r2, hs⟩ := hs.publish (b := b2) (by repeat constructor)
    obtain ⟨H3, hle3, r3, hs⟩ := hs.publish (b := b3) (by repeat constructor)
    obtain ⟨H4, hle4, r6, hs⟩ := hs.publish (b := b6) (by repeat constructor)
    have hle04 := hle1.trans (hle2.trans (hle3.trans hle4))
    refine .o (.call Try.call151 rfl (slices_DeleteFunc_spec (g := 179) (cap := [.pointer (some ⟨b2, 0, none⟩), .pointer (some ⟨b3, 0, none⟩), .pointer (some ⟨b6, 0, none⟩)]) (fun n => decide (RangeR (s.wo [n]) ws lo hi 0)) hs hO (by omega) Try.call179
      (fun H' w σ n _ hle hs => (bound_Moves_1 (s := s) (ws := ws) (lo := lo) (hi := hi) hs ((r2.mono (hle3.trans hle4)).mono hle) (hl.mono (hle04.trans hle)) ((r3.mono hle4).mono hle) (hrw.mono (hle04.trans hle)) (r6.mono hle) (by omega)).mono fun u w' ⟨H1, bb, g1, g2, g3, g4⟩ => ⟨H1, g1, by rw [g2]; congr 1; rw [Bool.eq_iff_iff, decide_eq_true_eq]; exact g3, g4⟩)) ?_); rintro v18 w ⟨H5, en5, hle5, hO5, hs⟩
    refine .z zg (.z zg (.nil ?_))
    refine .ret (Fin.ret2 Try.results93 rfl rfl ?_)
    have hfl := List.length_filter_le (fun n => !decide (RangeR (s.wo [n]) ws lo hi 0)) L
    obtain ⟨H6, hle6, hR6, hs⟩ := OwnS.publishI hO5 (by omega) hs .here
    exact ⟨H6, _, _, 0, hle04.trans (hle5.trans hle6), rfl, hR6, .ok hR ((hRise.filter _).congr fun x => by simp), hs.out⟩
end Go.Proofs.Ytiiokdeehlfeeaa
