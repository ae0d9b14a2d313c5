/-
  Texts of these claims, joined: Opn Opv Cls Fct Wa Wb Wc Wd We Wf Wg Wn Wz Xb Xe Xf Xg Xh Xi Xj Xl Xo Xq Xt Xu Xw Srt Yc Yd Ye Yf Yl Yq Yr Za.
-/
import Derived.Test.YtddaejgfjlneoaaGreatBc
import Derived.Test.YtddaejgfjlneoaaGreatProg
import Derived.KernelRfl
import Derived.JoinedOf
import Derived.Shelf.Sort.Plain
import Derived.Shelf.Slices.CompactI
import Derived.Shelf.Slices.In.SortNone
import Derived.Lib.RowBridge
namespace Go.Proofs.YtddaejgfjlneoaaGreat
open Go.MW Go.ChangeShapes Go.WideShapes
set_option maxRecDepth 100000
theorem c_int : Tryz.prog.cellsOf 3 = 1 := by kernel_rfl
theorem c_ints : Tryz.prog.cellsOf 22 = 1 := by kernel_rfl
theorem b_int : Tryz.prog.bytesOf 3 = 8 := by kernel_rfl
theorem reach_eq : reachBytes = 140737488351232 := rfl
section
variable {H : Type} {enc : TypeId × Value → H} {w : World} {sp : Nat → Bool} {held : Bool} {n : Nat} {cs : List Value} {y : DataW H × List MemPlace} {v : Value} {d : DataW H} {p : List MemPlace} {r : Reach} {base : Nat}
theorem o_ints (hw : Wt Tryz.prog 22 y.1) (h : DataW.trod enc Tryz.prog w 0 sp held n 22 cs = some y) : ∃ v xs, cs = [v] ∧ RI (hp w) v xs ∧ IsIn xs := by
  obtain ⟨v, xs, h1, h2, h3, h4⟩ := trod_RI Tryz.underlying22 Tryz.underlying3 c_int hw h
  rw [b_int, reach_eq] at h3
  exact ⟨v, xs, h1, h2, by omega, h4⟩
end
end Go.Proofs.YtddaejgfjlneoaaGreat

namespace Go.Proofs.YtddaejgfjlneoaaGreat
open Go.MW Go.ChangeShapes Go.WideShapes
set_option maxRecDepth 100000
theorem c_Fair : Tryz.prog.cellsOf 32 = 2 := by kernel_rfl
theorem c_Space : Tryz.prog.cellsOf 34 = 6 := by kernel_rfl
theorem c_What : Tryz.prog.cellsOf 29 = 3 := by kernel_rfl
theorem len6 {α : Type} {l : List α} (h : l.length = 6) : ∃ a b c d e f, l = [a, b, c, d, e, f] := by match l, h with | [a, b, c, d, e, f], _ => exact ⟨a, b, c, d, e, f, rfl⟩
section
variable {H : Type} {enc : TypeId × Value → H} {w : World} {sp : Nat → Bool} {held : Bool} {n : Nat} {cs : List Value} {y : DataW H × List MemPlace} {v : Value} {d : DataW H} {p : List MemPlace} {r : Reach} {base : Nat}
theorem o_Fair (h : DataW.trod enc Tryz.prog w 0 sp held n 32 cs = some y) : ∃ a b : Int, cs = [I a, I b] := by
  obtain ⟨xs, a1, a2, _⟩ := trod_ints Tryz.underlying32 (by
    intro i f hf
    match i with
    | 0 | 1 => cases hf; exact ⟨rfl, Tryz.underlying3, c_int⟩
    | i + 2 => simp at hf) (by rw [c_Fair]; rfl) h
  obtain ⟨a, b, rfl⟩ := len2 a1
  exact ⟨a, b, a2⟩
theorem o_Space (hw : Wt Tryz.prog 34 y.1) (h : DataW.trod enc Tryz.prog w 0 sp held n 34 cs = some y) : ∃ s : Spc, RSpc (hp w) cs s := by
  obtain ⟨ys, m, _, rfl, hlen, hyl, hg⟩ := DataW.trod_struct Tryz.underlying34 h
  rw [c_Space] at hlen
  obtain ⟨c0, c1, c2, c3, c4, c5, rfl⟩ := len6 hlen
  obtain ⟨_, h0, k0⟩ := fld hg hyl 0 rfl rfl rfl c_int Tryz.underlying34 hw
  obtain ⟨_, h1, k1⟩ := fld hg hyl 1 rfl rfl rfl c_int Tryz.underlying34 hw
  obtain ⟨_, h2, k2⟩ := fld hg hyl 2 rfl rfl rfl c_ints Tryz.underlying34 hw
  obtain ⟨_, h3, k3⟩ := fld hg hyl 3 rfl rfl rfl c_ints Tryz.underlying34 hw
  obtain ⟨_, h4, k4⟩ := fld hg hyl 4 rfl rfl rfl c_Fair Tryz.underlying34 hw
  obtain ⟨a, e0, _⟩ := trod_i Tryz.underlying3 h0
  obtain ⟨b, e1, _⟩ := trod_i Tryz.underlying3 h1
  obtain ⟨vst, st, e2, r2, _⟩ := o_ints k2 h2
  obtain ⟨vwa, wa, e3, r3, _⟩ := o_ints k3 h3
  obtain ⟨al, up, e4⟩ := o_Fair h4
  cases e0; cases e1; cases e2; cases e3; cases e4
  exact ⟨⟨a, b, st, wa, al, up⟩, _, _, rfl, r2, r3⟩
theorem open_Space (hv : Value.okWide Tryz.prog w r base 34 v) (h : DataW.Trod enc Tryz.prog w 0 sp held 34 v d p) (hw : Wt Tryz.prog 34 d) :
    ∃ s : Spc, (∃ cs, v = .agg cs.toArray ∧ RSpc (hp w) cs s) ∧ True := by
  obtain ⟨cs, n, rfl, hn, _⟩ := arg_struct Tryz.underlying34 hv h
  obtain ⟨s, hs⟩ := o_Space hw hn
  exact ⟨s, ⟨cs, rfl, hs⟩, trivial⟩
theorem open_What (hv : Value.okWide Tryz.prog w r base 29 v) (h : DataW.Trod enc Tryz.prog w 0 sp held 29 v d p) (_ : Wt Tryz.prog 29 d) :
    ∃ q : Wht, v = .agg #[I q.kind, I q.st, I q.wa] ∧ True := by
  obtain ⟨cs, n, rfl, hn, _⟩ := arg_struct Tryz.underlying29 hv h
  obtain ⟨xs, a1, a2, _⟩ := trod_ints Tryz.underlying29 (by
    intro i f hf
    match i with
    | 0 | 1 | 2 => cases hf; exact ⟨rfl, Tryz.underlying3, c_int⟩
    | i + 3 => simp at hf) (by rw [c_What]; rfl) hn
  obtain ⟨a, b, c, rfl⟩ := len3 a1
  subst a2
  exact ⟨⟨a, b, c⟩, rfl, trivial⟩
end
end Go.Proofs.YtddaejgfjlneoaaGreat

namespace Go.Proofs.YtddaejgfjlneoaaGreat
theorem cl_make : Tryz.prog.make = some .cut := by kernel_rfl
theorem cl_enter : Tryz.prog.mayEnter = true := by kernel_rfl
theorem cl_lifts : Tryz.prog.liftsFinal = false := by kernel_rfl
theorem cl_keys : Tryz.prog.plainKeys = true := by kernel_rfl
theorem cl_laid : laidOutB Tryz.prog = true := by kernel_rfl
theorem cl_maps : mapsRowed Tryz.prog = true := by kernel_rfl
theorem cl_heard : Tryz.prog.stopsHeard = true := by kernel_rfl
theorem cl_stops : Tryz.prog.stops = [] := by kernel_rfl
theorem cl_knobs : Tryz.prog.stopKnobs = [] := by kernel_rfl
theorem band {a b : Bool} (h : a = true) (k : b = true) : (a && b) = true := by rw [h, k]; rfl
theorem beqT {α : Type} [BEq α] [LawfulBEq α] {a b : α} (h : a = b) : (a == b) = true := by rw [h]; exact beq_self_eq_true _
theorem cl_own : ownKnob Tryz.prog.godebug = none := by kernel_rfl
end Go.Proofs.YtddaejgfjlneoaaGreat

namespace Go.Proofs.YtddaejgfjlneoaaGreat
open Go.MW
theorem mix : Tryz.prog.follows .mixedOrders = true := by kernel_rfl
theorem fa_api_What_0 : FA Tryz.prog 29 0 0 := by
  have h := faOf (k := 0) Tryz.runUnderlying29 rfl Tryz.sizeOf3
  exact h
theorem fa_api_What_1 : FA Tryz.prog 29 1 1 := by
  have h := faOf (k := 1) Tryz.runUnderlying29 rfl Tryz.sizeOf3
  exact h
theorem fa_api_What_2 : FA Tryz.prog 29 2 2 := by
  have h := faOf (k := 2) Tryz.runUnderlying29 rfl Tryz.sizeOf3
  exact h
theorem fa_api_Fair_0 : FA Tryz.prog 32 0 0 := by
  have h := faOf (k := 0) Tryz.runUnderlying32 rfl Tryz.sizeOf3
  exact h
theorem fa_api_Fair_1 : FA Tryz.prog 32 1 1 := by
  have h := faOf (k := 1) Tryz.runUnderlying32 rfl Tryz.sizeOf3
  exact h
theorem fa_api_Space_0 : FA Tryz.prog 34 0 0 := by
  have h := faOf (k := 0) Tryz.runUnderlying34 rfl Tryz.sizeOf3
  exact h
theorem fa_api_Space_1 : FA Tryz.prog 34 1 1 := by
  have h := faOf (k := 1) Tryz.runUnderlying34 rfl Tryz.sizeOf3
  exact h
theorem fa_api_Space_2 : FA Tryz.prog 34 2 2 := by
  have h := faOf (k := 2) Tryz.runUnderlying34 rfl Tryz.sizeOf22
  exact h
theorem fa_api_Space_3 : FA Tryz.prog 34 3 3 := by
  have h := faOf (k := 3) Tryz.runUnderlying34 rfl Tryz.sizeOf22
  exact h
theorem fa_api_Space_4 : FA Tryz.prog 34 4 4 := by
  have h := faOf (k := 4) Tryz.runUnderlying34 rfl Tryz.sizeOf32
  exact h
theorem fa_api_Survey_0 : FA Tryz.prog 38 0 0 := by
  have h := faOf (k := 0) Tryz.runUnderlying38 rfl Tryz.sizeOf34
  exact h
theorem fa_api_Survey_1 : FA Tryz.prog 38 1 6 := by
  have h := faOf (k := 1) Tryz.runUnderlying38 rfl Tryz.sizeOf35
  exact h
theorem fa_api_Survey_2 : FA Tryz.prog 38 2 7 := by
  have h := faOf (k := 2) Tryz.runUnderlying38 rfl Tryz.sizeOf36
  exact h
theorem fa_api_Range_0 : FA Tryz.prog 44 0 0 := by
  have h := faOf (k := 0) Tryz.runUnderlying44 rfl Tryz.sizeOf3
  exact h
theorem fa_api_Range_1 : FA Tryz.prog 44 1 1 := by
  have h := faOf (k := 1) Tryz.runUnderlying44 rfl Tryz.sizeOf3
  exact h
theorem fa_api_TapeDay_0 : FA Tryz.prog 49 0 0 := by
  have h := faOf (k := 0) Tryz.runUnderlying49 rfl Tryz.sizeOf3
  exact h
theorem fa_api_TapeDay_1 : FA Tryz.prog 49 1 1 := by
  have h := faOf (k := 1) Tryz.runUnderlying49 rfl Tryz.sizeOf3
  exact h
theorem fa_api_Hull_0 : FA Tryz.prog 63 0 0 := by
  have h := faOf (k := 0) Tryz.runUnderlying63 rfl Tryz.sizeOf61
  exact h
theorem fa_api_System_0 : FA Tryz.prog 70 0 0 := by
  have h := faOf (k := 0) Tryz.runUnderlying70 rfl Tryz.sizeOf3
  exact h
theorem fa_api_System_1 : FA Tryz.prog 70 1 1 := by
  have h := faOf (k := 1) Tryz.runUnderlying70 rfl Tryz.sizeOf68
  exact h
theorem fa_api_Reading_0 : FA Tryz.prog 80 0 0 := by
  have h := faOf (k := 0) Tryz.runUnderlying80 rfl Tryz.sizeOf3
  exact h
theorem fa_api_Reading_1 : FA Tryz.prog 80 1 1 := by
  have h := faOf (k := 1) Tryz.runUnderlying80 rfl Tryz.sizeOf3
  exact h
theorem fa_api_Reading_2 : FA Tryz.prog 80 2 2 := by
  have h := faOf (k := 2) Tryz.runUnderlying80 rfl Tryz.sizeOf3
  exact h
theorem fa_api_Reading_3 : FA Tryz.prog 80 3 3 := by
  have h := faOf (k := 3) Tryz.runUnderlying80 rfl Tryz.sizeOf3
  exact h
theorem fa_api_Reading_4 : FA Tryz.prog 80 4 4 := by
  have h := faOf (k := 4) Tryz.runUnderlying80 rfl Tryz.sizeOf3
  exact h
theorem fa_api_Reading_5 : FA Tryz.prog 80 5 5 := by
  have h := faOf (k := 5) Tryz.runUnderlying80 rfl Tryz.sizeOf3
  exact h
theorem fa_api_Reading_6 : FA Tryz.prog 80 6 6 := by
  have h := faOf (k := 6) Tryz.runUnderlying80 rfl Tryz.sizeOf3
  exact h
theorem fa_api_Compare_0 : FA Tryz.prog 108 0 0 := by
  have h := faOf (k := 0) Tryz.runUnderlying108 rfl Tryz.sizeOf3
  exact h
theorem fa_api_Compare_1 : FA Tryz.prog 108 1 1 := by
  have h := faOf (k := 1) Tryz.runUnderlying108 rfl Tryz.sizeOf3
  exact h
theorem fa_api_Compare_2 : FA Tryz.prog 108 2 2 := by
  have h := faOf (k := 2) Tryz.runUnderlying108 rfl Tryz.sizeOf3
  exact h
theorem fa_api_Compare_3 : FA Tryz.prog 108 3 3 := by
  have h := faOf (k := 3) Tryz.runUnderlying108 rfl Tryz.sizeOf3
  exact h
theorem fa_api_Compare_4 : FA Tryz.prog 108 4 4 := by
  have h := faOf (k := 4) Tryz.runUnderlying108 rfl Tryz.sizeOf3
  exact h
theorem fa_api_Compare_5 : FA Tryz.prog 108 5 5 := by
  have h := faOf (k := 5) Tryz.runUnderlying108 rfl Tryz.sizeOf3
  exact h
theorem fa_offsets_question_0 : FA Tryz.prog 140 0 0 := by
  have h := faOf (k := 0) Tryz.runUnderlying140 rfl Tryz.sizeOf70
  exact h
theorem fa_offsets_question_1 : FA Tryz.prog 140 1 2 := by
  have h := faOf (k := 1) Tryz.runUnderlying140 rfl Tryz.sizeOf22
  exact h
theorem fa_offsets_question_2 : FA Tryz.prog 140 2 3 := by
  have h := faOf (k := 2) Tryz.runUnderlying140 rfl Tryz.sizeOf3
  exact h
theorem fa_offsets_offset_0 : FA Tryz.prog 158 0 0 := by
  have h := faOf (k := 0) Tryz.runUnderlying158 rfl Tryz.sizeOf3
  exact h
theorem fa_offsets_offset_1 : FA Tryz.prog 158 1 1 := by
  have h := faOf (k := 1) Tryz.runUnderlying158 rfl Tryz.sizeOf3
  exact h
theorem fa_offsets_offset_2 : FA Tryz.prog 158 2 2 := by
  have h := faOf (k := 2) Tryz.runUnderlying158 rfl Tryz.sizeOf3
  exact h
theorem fa_api_Limit_0 : FA Tryz.prog 160 0 0 := by
  have h := faOf (k := 0) Tryz.runUnderlying160 rfl Tryz.sizeOf3
  exact h
theorem fa_api_Limit_1 : FA Tryz.prog 160 1 1 := by
  have h := faOf (k := 1) Tryz.runUnderlying160 rfl Tryz.sizeOf3
  exact h
theorem fa_api_Limit_2 : FA Tryz.prog 160 2 2 := by
  have h := faOf (k := 2) Tryz.runUnderlying160 rfl Tryz.sizeOf3
  exact h
theorem fa_api_Limit_3 : FA Tryz.prog 160 3 3 := by
  have h := faOf (k := 3) Tryz.runUnderlying160 rfl Tryz.sizeOf3
  exact h
theorem fa_offsets_maker_0 : FA Tryz.prog 172 0 0 := by
  have h := faOf (k := 0) Tryz.runUnderlying172 rfl Tryz.sizeOf38
  exact h
theorem fa_offsets_maker_1 : FA Tryz.prog 172 1 8 := by
  have h := faOf (k := 1) Tryz.runUnderlying172 rfl Tryz.sizeOf51
  exact h
theorem fa_offsets_maker_2 : FA Tryz.prog 172 2 9 := by
  have h := faOf (k := 2) Tryz.runUnderlying172 rfl Tryz.sizeOf68
  exact h
theorem fa_bound_step_0 : FA Tryz.prog 189 0 0 := by
  have h := faOf (k := 0) Tryz.runUnderlying189 rfl Tryz.sizeOf3
  exact h
theorem fa_bound_step_1 : FA Tryz.prog 189 1 1 := by
  have h := faOf (k := 1) Tryz.runUnderlying189 rfl Tryz.sizeOf3
  exact h
theorem fa_bound_step_2 : FA Tryz.prog 189 2 2 := by
  have h := faOf (k := 2) Tryz.runUnderlying189 rfl Tryz.sizeOf3
  exact h
theorem fa_bound_step_3 : FA Tryz.prog 189 3 3 := by
  have h := faOf (k := 3) Tryz.runUnderlying189 rfl Tryz.sizeOf3
  exact h
theorem fa_offsets_kind_0 : FA Tryz.prog 231 0 0 := by
  have h := faOf (k := 0) Tryz.runUnderlying231 rfl Tryz.sizeOf228
  exact h
theorem fa_offsets_kind_1 : FA Tryz.prog 231 1 1 := by
  have h := faOf (k := 1) Tryz.runUnderlying231 rfl Tryz.sizeOf229
  exact h
theorem fa_offsets_kind_2 : FA Tryz.prog 231 2 2 := by
  have h := faOf (k := 2) Tryz.runUnderlying231 rfl Tryz.sizeOf3
  exact h
theorem fa_offsets_what_0 : FA Tryz.prog 236 0 0 := by
  have h := faOf (k := 0) Tryz.runUnderlying236 rfl Tryz.sizeOf29
  exact h
theorem fa_offsets_what_1 : FA Tryz.prog 236 1 3 := by
  have h := faOf (k := 1) Tryz.runUnderlying236 rfl Tryz.sizeOf34
  exact h
theorem fa_bound_flow_0 : FA Tryz.prog 259 0 0 := by
  have h := faOf (k := 0) Tryz.runUnderlying259 rfl Tryz.sizeOf70
  exact h
theorem fa_bound_flow_1 : FA Tryz.prog 259 1 2 := by
  have h := faOf (k := 1) Tryz.runUnderlying259 rfl Tryz.sizeOf22
  exact h
theorem fa_bound_flow_2 : FA Tryz.prog 259 2 3 := by
  have h := faOf (k := 2) Tryz.runUnderlying259 rfl Tryz.sizeOf22
  exact h
theorem fa_weigh_sum_0 : FA Tryz.prog 294 0 0 := by
  have h := faOf (k := 0) Tryz.runUnderlying294 rfl Tryz.sizeOf22
  exact h
theorem fa_api_Group_0 : FA Tryz.prog 300 0 0 := by
  have h := faOf (k := 0) Tryz.runUnderlying300 rfl Tryz.sizeOf3
  exact h
theorem fa_api_Group_1 : FA Tryz.prog 300 1 1 := by
  have h := faOf (k := 1) Tryz.runUnderlying300 rfl Tryz.sizeOf3
  exact h
theorem bld_api_What : BldT Tryz.prog 29 [(0, 1), (1, 1), (2, 1)] [.int .i64 0, .int .i64 0, .int .i64 0] := bldOf Tryz.zeroValue29 rfl Tryz.runUnderlying29 (by simp [Tryz.sizeOf3])
theorem bld_api_Fair : BldT Tryz.prog 32 [(0, 1), (1, 1)] [.int .i64 0, .int .i64 0] := bldOf Tryz.zeroValue32 rfl Tryz.runUnderlying32 (by simp [Tryz.sizeOf3])
theorem bld_api_Space : BldT Tryz.prog 34 [(0, 1), (1, 1), (2, 1), (3, 1), (4, 2)] [.int .i64 0, .int .i64 0, .slice none 0 0, .slice none 0 0, .int .i64 0, .int .i64 0] := bldOf Tryz.zeroValue34 rfl Tryz.runUnderlying34 (by simp [Tryz.sizeOf22, Tryz.sizeOf3, Tryz.sizeOf32])
theorem bld_api_Survey : BldT Tryz.prog 38 [(0, 6), (6, 1), (7, 1)] [.int .i64 0, .int .i64 0, .slice none 0 0, .slice none 0 0, .int .i64 0, .int .i64 0, .slice none 0 0, .slice none 0 0] := bldOf Tryz.zeroValue38 rfl Tryz.runUnderlying38 (by simp [Tryz.sizeOf34, Tryz.sizeOf35, Tryz.sizeOf36])
theorem bld_api_Range : BldT Tryz.prog 44 [(0, 1), (1, 1)] [.int .i64 0, .int .i64 0] := bldOf Tryz.zeroValue44 rfl Tryz.runUnderlying44 (by simp [Tryz.sizeOf3])
theorem bld_api_TapeDay : BldT Tryz.prog 49 [(0, 1), (1, 1)] [.int .i64 0, .int .i64 0] := bldOf Tryz.zeroValue49 rfl Tryz.runUnderlying49 (by simp [Tryz.sizeOf3])
theorem bld_api_Hull : BldT Tryz.prog 63 [(0, 1)] [.slice none 0 0] := bldOf Tryz.zeroValue63 rfl Tryz.runUnderlying63 (by simp [Tryz.sizeOf61])
theorem bld_api_System : BldT Tryz.prog 70 [(0, 1), (1, 1)] [.int .i64 0, .slice none 0 0] := bldOf Tryz.zeroValue70 rfl Tryz.runUnderlying70 (by simp [Tryz.sizeOf3, Tryz.sizeOf68])
theorem bld_api_Reading : BldT Tryz.prog 80 [(0, 1), (1, 1), (2, 1), (3, 1), (4, 1), (5, 1), (6, 1)] [.int .i64 0, .int .i64 0, .int .i64 0, .int .i64 0, .int .i64 0, .int .i64 0, .int .i64 0] := bldOf Tryz.zeroValue80 rfl Tryz.runUnderlying80 (by simp [Tryz.sizeOf3])
theorem bld_api_Compare : BldT Tryz.prog 108 [(0, 1), (1, 1), (2, 1), (3, 1), (4, 1), (5, 1)] [.int .i64 0, .int .i64 0, .int .i64 0, .int .i64 0, .int .i64 0, .int .i64 0] := bldOf Tryz.zeroValue108 rfl Tryz.runUnderlying108 (by simp [Tryz.sizeOf3])
theorem bld_offsets_question : BldT Tryz.prog 140 [(0, 2), (2, 1), (3, 1)] [.int .i64 0, .slice none 0 0, .slice none 0 0, .int .i64 0] := bldOf Tryz.zeroValue140 rfl Tryz.runUnderlying140 (by simp [Tryz.sizeOf22, Tryz.sizeOf3, Tryz.sizeOf70])
theorem bld_offsets_offset : BldT Tryz.prog 158 [(0, 1), (1, 1), (2, 1)] [.int .i64 0, .int .i64 0, .int .i64 0] := bldOf Tryz.zeroValue158 rfl Tryz.runUnderlying158 (by simp [Tryz.sizeOf3])
theorem bld_api_Limit : BldT Tryz.prog 160 [(0, 1), (1, 1), (2, 1), (3, 1)] [.int .i64 0, .int .i64 0, .int .i64 0, .int .i64 0] := bldOf Tryz.zeroValue160 rfl Tryz.runUnderlying160 (by simp [Tryz.sizeOf3])
theorem bld_offsets_maker : BldT Tryz.prog 172 [(0, 8), (8, 1), (9, 1)] [.int .i64 0, .int .i64 0, .slice none 0 0, .slice none 0 0, .int .i64 0, .int .i64 0, .slice none 0 0, .slice none 0 0, .slice none 0 0, .slice none 0 0] := bldOf Tryz.zeroValue172 rfl Tryz.runUnderlying172 (by simp [Tryz.sizeOf38, Tryz.sizeOf51, Tryz.sizeOf68])
theorem bld_bound_step : BldT Tryz.prog 189 [(0, 1), (1, 1), (2, 1), (3, 1)] [.int .i64 0, .int .i64 0, .int .i64 0, .int .i64 0] := bldOf Tryz.zeroValue189 rfl Tryz.runUnderlying189 (by simp [Tryz.sizeOf3])
theorem bld_offsets_kind : BldT Tryz.prog 231 [(0, 1), (1, 1), (2, 1)] [.nilFunc, .nilFunc, .int .i64 0] := bldOf Tryz.zeroValue231 rfl Tryz.runUnderlying231 (by simp [Tryz.sizeOf228, Tryz.sizeOf229, Tryz.sizeOf3])
theorem bld_offsets_what : BldT Tryz.prog 236 [(0, 3), (3, 6)] [.int .i64 0, .int .i64 0, .int .i64 0, .int .i64 0, .int .i64 0, .slice none 0 0, .slice none 0 0, .int .i64 0, .int .i64 0] := bldOf Tryz.zeroValue236 rfl Tryz.runUnderlying236 (by simp [Tryz.sizeOf29, Tryz.sizeOf34])
theorem bld_bound_flow : BldT Tryz.prog 259 [(0, 2), (2, 1), (3, 1)] [.int .i64 0, .slice none 0 0, .slice none 0 0, .slice none 0 0] := bldOf Tryz.zeroValue259 rfl Tryz.runUnderlying259 (by simp [Tryz.sizeOf22, Tryz.sizeOf70])
theorem bld_weigh_sum : BldT Tryz.prog 294 [(0, 1)] [.slice none 0 0] := bldOf Tryz.zeroValue294 rfl Tryz.runUnderlying294 (by simp [Tryz.sizeOf22])
theorem bld_api_Group : BldT Tryz.prog 300 [(0, 1), (1, 1)] [.int .i64 0, .int .i64 0] := bldOf Tryz.zeroValue300 rfl Tryz.runUnderlying300 (by simp [Tryz.sizeOf3])
theorem bls_sl_int_0 : BldS Tryz.prog 22 0 1 [] := blsOf Tryz.runUnderlying22 Tryz.sizeOf3 Tryz.zeroValue3 (by decide) (by kernel_rfl)
theorem bls_sl_int_1 : BldS Tryz.prog 22 1 1 [.int .i64 0] := blsOf Tryz.runUnderlying22 Tryz.sizeOf3 Tryz.zeroValue3 (by decide) (by kernel_rfl)
theorem bls_sl_int_2 : BldS Tryz.prog 22 2 1 [.int .i64 0, .int .i64 0] := blsOf Tryz.runUnderlying22 Tryz.sizeOf3 Tryz.zeroValue3 (by decide) (by kernel_rfl)
theorem bls_sl_int_3 : BldS Tryz.prog 22 3 1 [.int .i64 0, .int .i64 0, .int .i64 0] := blsOf Tryz.runUnderlying22 Tryz.sizeOf3 Tryz.zeroValue3 (by decide) (by kernel_rfl)
theorem bls_sl_api_Reading_0 : BldS Tryz.prog 35 0 7 [] := blsOf Tryz.runUnderlying35 Tryz.sizeOf80 Tryz.zeroValue80 (by decide) (by kernel_rfl)
theorem bls_sl_api_Reading_1 : BldS Tryz.prog 35 1 7 [.int .i64 0, .int .i64 0, .int .i64 0, .int .i64 0, .int .i64 0, .int .i64 0, .int .i64 0] := blsOf Tryz.runUnderlying35 Tryz.sizeOf80 Tryz.zeroValue80 (by decide) (by kernel_rfl)
theorem bls_sl_api_Reading_4 : BldS Tryz.prog 35 4 7 [.int .i64 0, .int .i64 0, .int .i64 0, .int .i64 0, .int .i64 0, .int .i64 0, .int .i64 0, .int .i64 0, .int .i64 0, .int .i64 0, .int .i64 0, .int .i64 0, .int .i64 0, .int .i64 0, .int .i64 0, .int .i64 0, .int .i64 0, .int .i64 0, .int .i64 0, .int .i64 0, .int .i64 0, .int .i64 0, .int .i64 0, .int .i64 0, .int .i64 0, .int .i64 0, .int .i64 0, .int .i64 0] := blsOf Tryz.runUnderlying35 Tryz.sizeOf80 Tryz.zeroValue80 (by decide) (by kernel_rfl)
theorem bls_sl_api_Compare_1 : BldS Tryz.prog 36 1 6 [.int .i64 0, .int .i64 0, .int .i64 0, .int .i64 0, .int .i64 0, .int .i64 0] := blsOf Tryz.runUnderlying36 Tryz.sizeOf108 Tryz.zeroValue108 (by decide) (by kernel_rfl)
theorem bls_sl_api_TapeDay_1 : BldS Tryz.prog 51 1 2 [.int .i64 0, .int .i64 0] := blsOf Tryz.runUnderlying51 Tryz.sizeOf49 Tryz.zeroValue49 (by decide) (by kernel_rfl)
theorem bls_slLL_int_1 : BldS Tryz.prog 61 1 1 [.slice none 0 0] := blsOf Tryz.runUnderlying61 Tryz.sizeOf22 Tryz.zeroValue22 (by decide) (by kernel_rfl)
theorem bls_slLL_int_2 : BldS Tryz.prog 61 2 1 [.slice none 0 0, .slice none 0 0] := blsOf Tryz.runUnderlying61 Tryz.sizeOf22 Tryz.zeroValue22 (by decide) (by kernel_rfl)
theorem bls_sl_api_Limit_1 : BldS Tryz.prog 68 1 4 [.int .i64 0, .int .i64 0, .int .i64 0, .int .i64 0] := blsOf Tryz.runUnderlying68 Tryz.sizeOf160 Tryz.zeroValue160 (by decide) (by kernel_rfl)
theorem bls_sl_api_Limit_2 : BldS Tryz.prog 68 2 4 [.int .i64 0, .int .i64 0, .int .i64 0, .int .i64 0, .int .i64 0, .int .i64 0, .int .i64 0, .int .i64 0] := blsOf Tryz.runUnderlying68 Tryz.sizeOf160 Tryz.zeroValue160 (by decide) (by kernel_rfl)
theorem bls_sl_bound_step_1 : BldS Tryz.prog 182 1 4 [.int .i64 0, .int .i64 0, .int .i64 0, .int .i64 0] := blsOf Tryz.runUnderlying182 Tryz.sizeOf189 Tryz.zeroValue189 (by decide) (by kernel_rfl)
theorem bls_sl_func_6 : BldS Tryz.prog 223 6 1 [.nilFunc, .nilFunc, .nilFunc, .nilFunc, .nilFunc, .nilFunc] := blsOf Tryz.runUnderlying223 Tryz.sizeOf1 Tryz.zeroValue1 (by decide) (by kernel_rfl)
theorem bls_sl_api_Group_1 : BldS Tryz.prog 302 1 2 [.int .i64 0, .int .i64 0] := blsOf Tryz.runUnderlying302 Tryz.sizeOf300 Tryz.zeroValue300 (by decide) (by kernel_rfl)
theorem app_sl_int_int : AppT Tryz.prog 22 22 3 1 8 := ⟨Tryz.runUnderlying22, Tryz.runUnderlying22, Tryz.sizeOf3, ⟨_, Tryz.typeInfo3, rfl, by decide⟩, ⟨_, Tryz.zeroValue3, rfl⟩⟩
theorem app_sl_api_Reading_api_Reading : AppT Tryz.prog 35 35 80 7 56 := ⟨Tryz.runUnderlying35, Tryz.runUnderlying35, Tryz.sizeOf80, ⟨_, Tryz.typeInfo80, rfl, by decide⟩, ⟨_, Tryz.zeroValue80, rfl⟩⟩
theorem app_sl_api_TapeDay_api_TapeDay : AppT Tryz.prog 51 51 49 2 16 := ⟨Tryz.runUnderlying51, Tryz.runUnderlying51, Tryz.sizeOf49, ⟨_, Tryz.typeInfo49, rfl, by decide⟩, ⟨_, Tryz.zeroValue49, rfl⟩⟩
theorem app_slLL_int_LL_int : AppT Tryz.prog 61 61 22 1 24 := ⟨Tryz.runUnderlying61, Tryz.runUnderlying61, Tryz.sizeOf22, ⟨_, Tryz.typeInfo22, rfl, by decide⟩, ⟨_, Tryz.zeroValue22, rfl⟩⟩
theorem app_sl_api_Limit_api_Limit : AppT Tryz.prog 68 68 160 4 32 := ⟨Tryz.runUnderlying68, Tryz.runUnderlying68, Tryz.sizeOf160, ⟨_, Tryz.typeInfo160, rfl, by decide⟩, ⟨_, Tryz.zeroValue160, rfl⟩⟩
theorem app_sl_bound_step_bound_step : AppT Tryz.prog 182 182 189 4 32 := ⟨Tryz.runUnderlying182, Tryz.runUnderlying182, Tryz.sizeOf189, ⟨_, Tryz.typeInfo189, rfl, by decide⟩, ⟨_, Tryz.zeroValue189, rfl⟩⟩
theorem app_sl_api_Group_api_Group : AppT Tryz.prog 302 302 300 2 16 := ⟨Tryz.runUnderlying302, Tryz.runUnderlying302, Tryz.sizeOf300, ⟨_, Tryz.typeInfo300, rfl, by decide⟩, ⟨_, Tryz.zeroValue300, rfl⟩⟩
end Go.Proofs.YtddaejgfjlneoaaGreat

namespace Go.Proofs.YtddaejgfjlneoaaGreat
open Go.MW
theorem bound_within_spec {H : Heap} {w : World} {σ : List Ent} {a0 a1 a2 : Int} (hs : St H w σ) : Cl Tryz.prog 161 [I a0, I a1, I a2] w fun v w' => v = .bool (decide (a1 ≤ a0 ∧ a0 ≤ a2)) ∧ St H w' σ := by
  refine Cl.of Tryz.func161 rfl Tryz.ntmps161 (by simp) (args_cons (k := 0) rfl (args_cons (k := 1) rfl (args_cons (k := 2) rfl (args0)))) ?_
  refine .regSeq (.z zg (.nil (.regSeq (.z zm (.z zm (.z zleq (.z zm ?_)))))))
  refine .bifD (t' := 10) rfl (fun hb10 => ?_) (fun hb10 => ?_)
  · refine .gT rfl rfl ?_
    refine .z zm ?_
    refine .gT rfl rfl ?_
    refine .z zm ?_
    refine .gT rfl rfl ?_
    refine .z zleq (.z zpT (.z zg (.nil ?_)))
    refine .ret (Fin.ret1 Tryz.results161 rfl ?_)
    exact ⟨by simp [*], hs.out⟩
  · refine .gFs 3 3 true rfl rfl rfl ?_
    refine .z zpF (.z zg (.nil ?_))
    refine .ret (Fin.ret1 Tryz.results161 rfl ?_)
    exact ⟨by simp [*], hs.out⟩
theorem bound_isLimit_spec {H : Heap} {w : World} {σ : List Ent} {many : Int} {l : Lim} (hs : St H w σ) : Cl Tryz.prog 202 [I many, .agg l.c.toArray] w fun v w' => v = .bool (l.ok many) ∧ St H w' σ := by
  refine Cl.of Tryz.func202 rfl Tryz.ntmps202 (by simp) (args_cons (k := 0) rfl (args_cons (k := 1) rfl (args0))) ?_
  refine .regSeq ?_
  refine .o (.box hs rfl rfl ?_); intro b3 w hs
  refine .z zg (.nil (.regSeq (.z (zfa fa_api_Limit_0) (.y hs (zld Tryz.isAgg3) (.z zm ?_)))))
  refine .o (.call Tryz.call161 rfl (bound_within_spec hs) ?_); rintro _ w ⟨rfl, hs⟩
  refine .z zm ?_
  refine .bif (t' := 9) rfl (fun hb9 => ?_) (fun hb9 => ?_)
  · refine .gT rfl rfl ?_
    refine .z (zfa fa_api_Limit_1) ?_
    refine .gT rfl rfl ?_
    refine .y hs (zld Tryz.isAgg3) ?_
    refine .gT rfl rfl ?_
    refine .z zm ?_
    refine .gT rfl rfl ?_
    refine .o (.call Tryz.call161 rfl (bound_within_spec hs) ?_); rintro _ w ⟨rfl, hs⟩
    refine .z zpT (.z zm ?_)
    refine .bif (t' := 15) rfl (fun hb15 => ?_) (fun hb15 => ?_)
    · refine .gT rfl rfl ?_
      refine .z (zfa fa_api_Limit_0) ?_
      refine .gT rfl rfl ?_
      refine .y hs (zld Tryz.isAgg3) ?_
      refine .gT rfl rfl ?_
      refine .z (zfa fa_api_Limit_1) ?_
      refine .gT rfl rfl ?_
      refine .y hs (zld Tryz.isAgg3) ?_
      refine .gT rfl rfl ?_
      refine .z zneq (.z zpT (.z zm ?_))
      refine .bifN (t' := 22) rfl (fun hb22 => ?_) (fun hb22 => ?_)
      · refine .gT rfl rfl ?_
        refine .z (zfa fa_api_Limit_2) ?_
        refine .gT rfl rfl ?_
        refine .y hs (zld Tryz.isAgg3) ?_
        refine .gT rfl rfl ?_
        refine .o (.call Tryz.call161 rfl (bound_within_spec hs) ?_); rintro _ w ⟨rfl, hs⟩
        refine .z zpT (.z zm ?_)
        refine .bif (t' := 27) rfl (fun hb27 => ?_) (fun hb27 => ?_)
        · refine .gT rfl rfl ?_
          refine .z (zfa fa_api_Limit_3) ?_
          refine .gT rfl rfl ?_
          refine .y hs (zld Tryz.isAgg3) ?_
          refine .gT rfl rfl ?_
          refine .o (.call Tryz.call161 rfl (bound_within_spec hs) ?_); rintro _ w ⟨rfl, hs⟩
          refine .z zpT (.z zg (.nil ?_))
          refine .ret (Fin.ret1 Tryz.results202 rfl ?_)
          exact ⟨by simp [Lim.ok, *], hs.out⟩
        · refine .gFs 3 22 true rfl rfl rfl ?_
          refine .z zpF (.z zg (.nil ?_))
          refine .ret (Fin.ret1 Tryz.results202 rfl ?_)
          exact ⟨by simp [Lim.ok, *], hs.out⟩
      · refine .gFs 3 17 true rfl rfl rfl ?_
        refine .z zpF (.z zm ?_)
        refine .gFs 3 22 true rfl rfl rfl ?_
        refine .z zpF (.z zg (.nil ?_))
        refine .ret (Fin.ret1 Tryz.results202 rfl ?_)
        exact ⟨by simp [Lim.ok, *], hs.out⟩
    · refine .gFs 5 10 true rfl rfl rfl ?_
      refine .z zpF (.z zm ?_)
      refine .gFs 3 17 true rfl rfl rfl ?_
      refine .z zpF (.z zm ?_)
      refine .gFs 3 22 true rfl rfl rfl ?_
      refine .z zpF (.z zg (.nil ?_))
      refine .ret (Fin.ret1 Tryz.results202 rfl ?_)
      exact ⟨by simp [Lim.ok, *], hs.out⟩
  · refine .gFs 4 4 true rfl rfl rfl ?_
    refine .z zpF (.z zm ?_)
    refine .gFs 5 10 true rfl rfl rfl ?_
    refine .z zpF (.z zm ?_)
    refine .gFs 3 17 true rfl rfl rfl ?_
    refine .z zpF (.z zm ?_)
    refine .gFs 3 22 true rfl rfl rfl ?_
    refine .z zpF (.z zg (.nil ?_))
    refine .ret (Fin.ret1 Tryz.results202 rfl ?_)
    exact ⟨by simp [Lim.ok, *], hs.out⟩
theorem IndexFunc_Lim {H : Heap} {w : World} {σ : List Ent} {v : Value} {ls : List Lim} {g : Nat} {cap : List Value} {p : Lim → Bool} (hs : St H w σ) (hr : RL H v ls)
    (hc : ∀ args w, (callFunc g args).run Tryz.prog w = .ok (.enter g args) w) (hp : ∀ w l, St H w σ → Cl Tryz.prog g ([.agg l.c.toArray] ++ cap) w fun u w' => u = .bool (p l) ∧ St H w' σ) :
    Cl Tryz.prog 252 [v, .func (.func g) #[] cap.toArray] w fun u w' => u = I (match ls.findIdx? p with | some k => (k : Int) | none => -1) ∧ St H w' σ := by
  obtain ⟨a, c, rfl⟩ := RS.shape hr
  have hl := (RS.len hr).2.2
  refine Cl.of Tryz.func252 rfl Tryz.ntmps252 (by simp) (args_cons (k := 0) rfl (args_cons (k := 1) rfl (args0))) ?_
  refine .regSeq (.z zg (.nil (.seq (.regSeq (.z zm ?_)))))
  refine .q hs (q_lenR hr rfl Tryz.runUnderlying68) ?_
  refine .z zm (.nil ?_)
  refine .for (N := (ls.map Lim.c).length) (J := fun k fr w => fr = [(1, .func (.func g) #[] cap.toArray), (0, .slice a (ls.map Lim.c).length c)] ∧ St H w σ ∧ ∀ j < k, ∀ l, ls[j]? = some l → p l = false) (by omega) ?_ ?_ ?_
  · exact .mk ⟨rfl, hs, fun j hj => by omega⟩
  · rintro k fr w hk ⟨rfl, hs, hno⟩
    obtain ⟨l, hl⟩ := nth (l := ls) (by simpa using hk)
    refine .block (.regSeq (.z zm (.z zg (.nil (.regSeq (.z zm (.z zm (.z zm ?_))))))))
    refine .ixX hs hr rfl rfl Tryz.runUnderlying68 Tryz.sizeOf160 hl rfl ?_; intro b14 o14 hc14
    refine .y hs (zls [_, _, _, _] Tryz.isAgg160 Tryz.sizeOf160) ?_
    refine .o (.callG (first := []) rfl rfl hc (hp _ _ hs) ?_); rintro _ w ⟨rfl, hs⟩
    refine .nil ?_
    refine (.cond rfl (fun hc16 => ?_) (fun hc16 => ?_))
    · refine .regSeq (.z zm (.z zg (.nil ?_)))
      refine .ret (rB (rT (rB (rT (Fin.ret1 Tryz.results252 rfl ?_)))))
      exact ⟨by rw [findIdx_hit hl hc16 hno], hs⟩
    · refine .skip ?_
      refine nB (nT ?_)
      exact .mk ⟨rfl, hs, upto_succ hno hl hc16⟩
  · rintro fr w ⟨rfl, hs, hno⟩
    refine nT ?_
    refine .regSeq (.z zg (.nil ?_))
    refine .ret (Fin.ret1 Tryz.results252 rfl ?_)
    exact ⟨by rw [findIdx_miss (by simpa using hno)], hs⟩
theorem ContainsFunc_Lim {H : Heap} {w : World} {σ : List Ent} {v : Value} {ls : List Lim} {g : Nat} {cap : List Value} {p : Lim → Bool} (hs : St H w σ) (hr : RL H v ls)
    (hc : ∀ args w, (callFunc g args).run Tryz.prog w = .ok (.enter g args) w) (hp : ∀ w l, St H w σ → Cl Tryz.prog g ([.agg l.c.toArray] ++ cap) w fun u w' => u = .bool (p l) ∧ St H w' σ) :
    Cl Tryz.prog 200 [v, .func (.func g) #[] cap.toArray] w fun u w' => u = .bool (ls.any p) ∧ St H w' σ := by
  refine Cl.of Tryz.func200 rfl Tryz.ntmps200 (by simp) (args_cons (k := 0) rfl (args_cons (k := 1) rfl (args0))) ?_
  refine .regSeq (.z zg (.nil (.regSeq (.z zm (.z zm ?_)))))
  refine .o (.call Tryz.call252 rfl (IndexFunc_Lim hs hr hc hp) ?_); rintro _ w ⟨rfl, hs⟩
  refine .z zgeq (.z zg (.nil ?_))
  refine .ret (Fin.ret1 Tryz.results200 rfl ?_)
  exact ⟨by rw [any_findIdx]; cases ls.findIdx? p <;> simp <;> omega, hs⟩
theorem bound_Check_1 {H : Heap} {w : World} {σ : List Ent} {b : Nat} {many : Int} {v : Value} {l : Lim} (hs : St H w σ) (hm : Mem σ (.blk b [I many, v])) : Cl Tryz.prog 201 [.agg l.c.toArray, .pointer (some ⟨b, 0, none⟩)] w fun v w' => v = .bool (!l.ok many) ∧ St H w' σ := by
  refine Cl.of Tryz.func201 rfl Tryz.ntmps201 (by simp) (args_cons (k := 0) rfl (args_cons (k := 1) rfl (args0))) ?_
  refine .regSeq ?_
  refine .o (.box hs rfl rfl ?_); intro b2 w hs
  refine .z zg (.nil (.regSeq (.z (zfa fa_api_System_0) ?_)))
  refine .q hs (q_load rfl Tryz.isAgg3 (.there hm) rfl) ?_
  refine .q hs (q_loads (vs := l.c) rfl Tryz.isAgg160 Tryz.sizeOf160) ?_
  refine .o (.call Tryz.call202 rfl (bound_isLimit_spec hs) ?_); rintro _ w ⟨rfl, hs⟩
  refine .z znot (.z zg (.nil ?_))
  refine .ret (Fin.ret1 Tryz.results201 rfl ?_)
  exact ⟨rfl, hs.out⟩
theorem bound_Check_spec {H : Heap} {w : World} {σ : List Ent} {v : Value} {s : Syst} (hs : St H w σ) (hr : RSy H v s) : Cl Tryz.prog 125 [v] w fun v w' => v = I s.check ∧ St H w' σ := by
  obtain ⟨u, rfl, hr⟩ := hr
  obtain ⟨a, c, rfl⟩ := RS.shape hr
  refine Cl.of Tryz.func125 rfl Tryz.ntmps125 (by simp) (args_cons (k := 0) rfl (args0)) ?_
  refine .regSeq ?_
  refine .o (.box hs rfl rfl ?_); intro b1 w hs
  refine .z zg (.nil (.seq (.block (.regSeq (.z (zfa fa_api_System_0) (.y hs (zld Tryz.isAgg3) ?_))))))
  refine .o (.call Tryz.call161 rfl (bound_within_spec hs) ?_); rintro _ w ⟨rfl, hs⟩
  refine .z znot (.z zg (.nil ?_))
  refine (.cond rfl (fun hc3 => ?_) (fun hc3 => ?_))
  · refine .regSeq (.z zg (.nil ?_))
    refine .ret (rB (rT (Fin.ret1 Tryz.results125 rfl ?_)))
    exact ⟨congrArg I (by unfold Syst.check; (repeat' split) <;> simp_all <;> omega), hs.out⟩
  · refine .regSeq (.z (zfa fa_api_System_1) (.y hs (zld Tryz.isAgg68) ?_))
    refine .q hs (q_lenR hr rfl Tryz.runUnderlying68) ?_
    refine .z zgtr (.z zg (.nil ?_))
    refine (.condD rfl (fun hc8 => ?_) (fun hc8 => ?_))
    · refine .regSeq (.z zg (.nil ?_))
      refine .ret (rB (rT (Fin.ret1 Tryz.results125 rfl ?_)))
      exact ⟨congrArg I (by unfold Syst.check; (repeat' split) <;> simp_all <;> omega), hs.out⟩
    · refine .regSeq (.z (zfa fa_api_System_1) (.y hs (zld Tryz.isAgg68) ?_))
      refine .q hs (q_makeFunc (f := []) (c := [_]) rfl rfl) ?_
      refine .o (.call Tryz.call200 rfl (ContainsFunc_Lim (p := fun l => !l.ok s.many) hs hr Tryz.call201 (fun w l hs => bound_Check_1 hs .here)) ?_); rintro _ w ⟨rfl, hs⟩
      refine .z zg (.nil ?_)
      refine (.cond rfl (fun hc13 => ?_) (fun hc13 => ?_))
      · refine .regSeq (.z zg (.nil ?_))
        refine .ret (rB (rT (Fin.ret1 Tryz.results125 rfl ?_)))
        exact ⟨congrArg I (by unfold Syst.check; (repeat' split) <;> simp_all <;> omega), hs.out⟩
      · refine .skip ?_
        refine nB (nT ?_)
        refine .regSeq (.z zg (.nil ?_))
        refine .ret (Fin.ret1 Tryz.results125 rfl ?_)
        exact ⟨congrArg I (by unfold Syst.check; (repeat' split) <;> simp_all <;> omega), hs.out⟩
end Go.Proofs.YtddaejgfjlneoaaGreat

namespace Go.Proofs.YtddaejgfjlneoaaGreat
open Go.MW
theorem bound_steps_1_iter {H : Heap} {b : Nat} {s : Syst} {u : Value} (hok : s.Ok) (hb : Row H b [I s.many, u]) (hr : RL H u s.lims) : ItA Tryz.prog 203 [.pointer (some ⟨b, 0, none⟩)] H s.arcs := by
  intro l II Ix _ _ hy H0 σb0 σf w hle hI0 hs
  obtain ⟨a, c, rfl⟩ := RS.shape hr
  have hb1 : cellAt H0 b 1 = some (.slice a (s.lims.map Lim.c).length c) := cellAt.mono (by rw [hb.cell]; rfl) hle
  have hlen := hok.len
  refine Cl.of Tryz.func203 rfl Tryz.ntmps203 (by simp) (args_cons (k := 0) rfl (args_cons (k := 1) rfl (args0))) ?_
  refine .regSeq (.z (zfa fa_api_System_1) (.y hs (zld Tryz.isAgg68) ?_))
  refine .q hs (q_lenR (hr.mono hle) rfl Tryz.runUnderlying68) ?_
  refine .z zm (.nil ?_)
  refine .for (N := (s.lims.map Lim.c).length) (J := fun k fr w => fr = [(6, .slice a (s.lims.map Lim.c).length c), (0, .func (.yield l) #[] #[])] ∧ ∃ H1 σb, HLe H H1 ∧ HLe H0 H1 ∧ II k H1 σb ∧ St H1 w (σb ++ σf)) (by simp; omega) ?_ ?_ ?_
  · exact .mk ⟨rfl, H0, σb0, hle, HLe.refl _, hI0, hs⟩
  · rintro k fr w hk ⟨rfl, H1, σb, hle1, hle0, hI, hs⟩
    obtain ⟨x, hx⟩ := nth (l := s.lims) (by simpa using hk)
    obtain ⟨hA, hB, _⟩ := hok.arc (List.mem_of_getElem? hx) k
    refine .block (.regSeq (.z zm ?_))
    refine .ixX hs (hr.mono hle1) rfl rfl Tryz.runUnderlying68 Tryz.sizeOf160 hx rfl ?_; intro b11 o11 hc11
    refine .q hs (q_loadsR (vs := x.c) rfl Tryz.isAgg160 Tryz.sizeOf160 hc11) ?_
    refine .o (.alloc hs Tryz.zeroValue160 rfl ?_); intro b4 w hs
    refine .z zg ?_
    refine .o (.stores (vs := x.c) hs rfl rfl Tryz.sizeOf160 ?_); intro w hs
    refine .nil (.regSeq (.z zm (.z (zfa fa_api_Limit_0) (.y hs (zld Tryz.isAgg3) (.z (zfa fa_api_Limit_1) (.y hs (zld Tryz.isAgg3) (.z (zfa fa_api_Limit_2) (.y hs (zld Tryz.isAgg3) (.z zm ?_)))))))))
    refine .z (zbd [_, _, _, _] bld_bound_step) ?_
    have hk' : k < (s.arcs.map fun x => [Value.agg x.v.toArray]).length := by simp [Syst.arcs, arcsOf_length]; simpa using hk
    have hxk : (s.arcs.map fun x => [Value.agg x.v.toArray])[k] = [.agg (x.arc k).v.toArray] := by
      have := arcsOf_get hx
      rw [List.getElem_map]; rw [List.getElem?_eq_some_iff] at this; obtain ⟨h1, h2⟩ := this; simp only [Syst.arcs]; rw [h2]
    have hyd := hy k hk' H1 σb σf w hle1 hI hs.tail
    rw [hxk] at hyd
    refine .o (.yield (vs := [.agg (x.arc k).v.toArray]) rfl (by simp [Arc.v, hA, hB]; rfl) hyd ?_); rintro v22 w ⟨H2, σ2, g1, hs, g3⟩
    obtain ⟨bb, rfl, gT, gF⟩ := yd_bool g3
    refine .z znot (.nil ?_)
    refine (.cond rfl (fun hc23 => ?_) (fun hc23 => ?_))
    · refine .ret (rB (rT (rB (Fin.ret0 Tryz.results203 ?_))))
      exact ⟨H2, σ2, hle0.trans g1, hs, .inr (gF (by simpa using hc23))⟩
    · refine .skip ?_
      refine nB (nT ?_)
      exact .mk ⟨rfl, H2, σ2, hle1.trans g1, hle0.trans g1, gT (by simpa using hc23), hs⟩
  · rintro fr w ⟨rfl, H1, σb, hle1, hle0, hI, hs⟩
    exact Fin.end0 Tryz.results203 ⟨H1, σb, hle0, hs, .inl (by simpa [Syst.arcs, arcsOf_length] using hI)⟩
theorem bound_steps_spec {H : Heap} {w : World} {σ : List Ent} {v : Value} {s : Syst} (hs : St H w σ) (hok : s.Ok) (hr : RSy H v s) :
    Cl Tryz.prog 127 [v] w fun v w' => ∃ H1 b, HLe H H1 ∧ v = .func (.func 203) #[] #[.pointer (some ⟨b, 0, none⟩)] ∧ ItA Tryz.prog 203 [.pointer (some ⟨b, 0, none⟩)] H1 s.arcs ∧ St H1 w' σ := by
  obtain ⟨u, rfl, hr⟩ := hr
  refine Cl.of Tryz.func127 rfl Tryz.ntmps127 (by simp) (args_cons (k := 0) rfl (args0)) ?_
  refine .regSeq ?_
  refine .o (.box hs rfl rfl ?_); intro b1 w hs
  refine .z zg (.nil (.regSeq ?_))
  refine .q hs (q_makeFunc (f := []) (c := [_]) rfl rfl) ?_
  refine .z zg (.nil ?_)
  refine .ret (Fin.ret1 Tryz.results127 rfl ?_)
  obtain ⟨H1, g1, g2, hs⟩ := hs.publish .here
  exact ⟨H1, b1, g1, rfl, bound_steps_1_iter hok g2 (hr.mono g1), hs⟩
theorem bound_nearest_spec {H : Heap} {w : World} {σ : List Ent} {N gf : Nat} {ar : List Arc} {cap : List Value} (hs : St H w σ) (hN : N ≤ 64) (hok : ArcsOk ar (N + 1)) (hit : ItA Tryz.prog gf cap H ar) (hc : ∀ args w, (callFunc gf args).run Tryz.prog w = .ok (.enter gf args) w) :
    Cl Tryz.prog 126 [I N, .func (.func gf) #[] cap.toArray] w fun v w' => ∃ H1 bc bb s ov vo, HLe H H1 ∧ v = .tuple #[.slice (some ⟨bc, 0, none⟩) (N + 1) (N + 1), .slice (some ⟨bb, 0, none⟩) (N + 1) (N + 1), vo] ∧ OvR H1 vo ov ∧ NearR (N + 1) ar s ov ∧ St H1 w' (.blk bc (Is s.cost) :: .blk bb (Arcs s.by_) :: σ) := by
  refine Cl.of Tryz.func126 rfl Tryz.ntmps126 (by simp) (args_cons (k := 0) rfl (args_cons (k := 1) rfl (args0))) ?_
  refine .regSeq ?_
  refine .o (.alloc hs Tryz.zeroValue22 rfl ?_); intro b4 w hs
  refine .o (.alloc hs Tryz.zeroValue182 rfl ?_); intro b5 w hs
  refine .o (.alloc hs Tryz.zeroValue183 rfl ?_); intro b6 w hs
  refine .nil ?_
  refine .cut (fun fs w => ∃ bc bb, FSub fs ⟨70, [], [(1, .func (.func gf) #[] cap.toArray), (0, I N), (4, .pointer (some ⟨b4, 0, none⟩)), (5, .pointer (some ⟨b5, 0, none⟩)), (6, .pointer (some ⟨b6, 0, none⟩))]⟩ ∧ St H w (.blk b4 [.slice (some ⟨bc, 0, none⟩) (N + 1) (N + 1)] :: .blk b5 [.slice (some ⟨bb, 0, none⟩) (N + 1) (N + 1)] :: .blk b6 [.pointer none] :: .blk bc (Is (List.replicate (N + 1) 0)) :: .blk bb (Arcs (mkBy (N + 1) 0)) :: σ)) ?_ ?_
  · refine .draw mix rfl hs ?_; intro w hs
    refine .z 0 rfl zm ?_; refine .z 1 rfl zadd ?_; refine .z 3 rfl zm ?_; refine .z 4 rfl zadd ?_
    refine .e2 (i := 2) (j := 5) (by kernel_rfl) rfl rfl rfl rfl .none .none hs ?_ ?_
    · refine .makeI (N + 1) hs rfl rfl Tryz.runUnderlying22 Tryz.typeInfo3 rfl Tryz.sizeOf3 Tryz.zeroValue3 (by omega) ?_; intro b11 w hs
      refine .go ?_
      refine .e2 (i := 5) (j := 6) (by kernel_rfl) rfl rfl rfl rfl .none .none hs ?_ ?_
      · refine .makeA (N + 1) hs rfl rfl Tryz.runUnderlying182 Tryz.typeInfo189 rfl Tryz.sizeOf189 Tryz.zeroValue189 (by omega) ?_; intro b14 w hs
        refine .go ?_
        refine .e1 (i := 6) (by kernel_rfl) rfl rfl .none hs ?_
        refine .store hs rfl rfl Tryz.sizeOf22 ?_; intro w hs
        refine .go ?_
        refine .e1 (i := 7) (by kernel_rfl) rfl rfl .none hs ?_
        refine .store hs rfl rfl Tryz.sizeOf182 ?_; intro w hs
        refine .go ?_
        refine .done (by kernel_rfl) hs ?_
        exact nT ⟨b11, b14, by repeat (first | exact .nil rfl rfl | refine .cons rfl ?_), hs.sub (by repeat (first | exact Sub.refl _ | constructor | apply Sub.weaken))⟩
      · refine .store hs rfl rfl Tryz.sizeOf22 ?_; intro w hs
        refine .go ?_
        refine .e1 (i := 5) (by kernel_rfl) rfl rfl .none hs ?_
        refine .makeA (N + 1) hs rfl rfl Tryz.runUnderlying182 Tryz.typeInfo189 rfl Tryz.sizeOf189 Tryz.zeroValue189 (by omega) ?_; intro b14 w hs
        refine .go ?_
        refine .e1 (i := 7) (by kernel_rfl) rfl rfl .none hs ?_
        refine .store hs rfl rfl Tryz.sizeOf182 ?_; intro w hs
        refine .go ?_
        refine .done (by kernel_rfl) hs ?_
        exact nT ⟨b11, b14, by repeat (first | exact .nil rfl rfl | refine .cons rfl ?_), hs.sub (by repeat (first | exact Sub.refl _ | constructor | apply Sub.weaken))⟩
    · refine .makeA (N + 1) hs rfl rfl Tryz.runUnderlying182 Tryz.typeInfo189 rfl Tryz.sizeOf189 Tryz.zeroValue189 (by omega) ?_; intro b14 w hs
      refine .go ?_
      refine .e1 (i := 2) (by kernel_rfl) rfl rfl .none hs ?_
      refine .makeI (N + 1) hs rfl rfl Tryz.runUnderlying22 Tryz.typeInfo3 rfl Tryz.sizeOf3 Tryz.zeroValue3 (by omega) ?_; intro b11 w hs
      refine .go ?_
      refine .e1 (i := 6) (by kernel_rfl) rfl rfl .none hs ?_
      refine .store hs rfl rfl Tryz.sizeOf22 ?_; intro w hs
      refine .go ?_
      refine .e1 (i := 7) (by kernel_rfl) rfl rfl .none hs ?_
      refine .store hs rfl rfl Tryz.sizeOf182 ?_; intro w hs
      refine .go ?_
      refine .done (by kernel_rfl) hs ?_
      exact nT ⟨b11, b14, by repeat (first | exact .nil rfl rfl | refine .cons rfl ?_), hs.sub (by repeat (first | exact Sub.refl _ | constructor | apply Sub.weaken))⟩
  · rintro s w ⟨bc, bb, hfs, hs⟩
    refine WE.sub ?_ hfs
    refine .seq (.regSeq (.y hs (zld Tryz.isAgg182) (.z (zlen Tryz.runUnderlying182) (.z zm (.nil ?_)))))
    refine .for (N := N + 1) (J := fun k fr w => fr = [(1, .func (.func gf) #[] cap.toArray), (0, I N), (4, .pointer (some ⟨b4, 0, none⟩)), (5, .pointer (some ⟨b5, 0, none⟩)), (6, .pointer (some ⟨b6, 0, none⟩))] ∧ St H w (.blk b4 [.slice (some ⟨bc, 0, none⟩) (N + 1) (N + 1)] :: .blk b5 [.slice (some ⟨bb, 0, none⟩) (N + 1) (N + 1)] :: .blk b6 [.pointer none] :: .blk bc (Is (List.replicate (N + 1) 0)) :: .blk bb (Arcs (mkBy (N + 1) k)) :: σ)) (by omega) ?_ ?_ ?_
    · exact .mk ⟨rfl, hs⟩
    · rintro k fr w hk ⟨rfl, hs⟩
      have hkl : k < (mkBy (N + 1) k).length := by rw [mkBy_length (by omega)]; exact hk
      refine .block (.regSeq (.z zm (.z zg (.nil (.region (.y hs (zld Tryz.isAgg182) (.z zm ?_)))))))
      first | (refine .ixw hs Tryz.runUnderlying182 Tryz.sizeOf189 ?_; intro b22 o22 hc22) | refine .z (zixm Tryz.runUnderlying182 Tryz.sizeOf189) ?_
      refine .z (zfa fa_bound_step_3) ?_
      refine .o (.store hs rfl rfl Tryz.sizeOf3 ?_ (by repeat constructor) (blt_Arcs hkl (by omega)) ((Arcs_set3 hkl _).trans (congrArg Arcs (mkBy_set hk)))); intro w hs
      refine .nil ?_
      refine nB (nT ?_)
      exact .mk ⟨rfl, hs⟩
    · rintro fr w ⟨rfl, hs⟩
      refine nT ?_
      refine .seq (.regSeq (.z zm (.z zadd (.z zm (.nil ?_)))))
      refine .forD (N := N + 2) (J := fun r ds fr w => fr = [(1, .func (.func gf) #[] cap.toArray), (0, I N), (4, .pointer (some ⟨b4, 0, none⟩)), (5, .pointer (some ⟨b5, 0, none⟩)), (6, .pointer (some ⟨b6, 0, none⟩))] ∧ ∃ Ds H1 s vo, ds = marks Ds ∧ HLe H H1 ∧ NInv (N + 1) ar r 0 none s ∧ (r = 0 ∨ ∃ x, OvR H1 vo (some x) ∧ NInv (N + 1) ar (r - 1) ar.length (some x) s) ∧ St H1 w (.blk b4 [.slice (some ⟨bc, 0, none⟩) (N + 1) (N + 1)] :: .blk b5 [.slice (some ⟨bb, 0, none⟩) (N + 1) (N + 1)] :: .blk b6 [vo] :: .blk bc (Is s.cost) :: .blk bb (Arcs s.by_) :: (mes Ds ++ σ))) (by omega) ?_ ?_ ?_
      · exact .mk (ds := []) ⟨rfl, [], H, ⟨List.replicate (N + 1) 0, List.replicate (N + 1) ⟨0, 0, 0, -1⟩⟩, _, rfl, HLe.refl _, NInv.init (by omega), .inl rfl, by rw [mkBy_full] at hs; exact hs⟩
      · rintro r ds fr w hr ⟨rfl, Ds, H1, s, vo, rfl, hle1, hN0, -, hs⟩
        refine .block (.regSeq ?_)
        refine .o (.store hs rfl rfl Tryz.sizeOf183 ?_); intro w hs
        refine .nil (.seq (.regSeq (.z zm (.nil (.block ?_)))))
        refine .rangeFunc (gf := gf) (cap := cap) (xs := ar.map fun x => [.agg x.v.toArray]) (σb := [.blk b4 [.slice (some ⟨bc, 0, none⟩) (N + 1) (N + 1)], .blk b5 [.slice (some ⟨bb, 0, none⟩) (N + 1) (N + 1)], .blk b6 [.pointer none], .blk bc (Is s.cost), .blk bb (Arcs s.by_)]) (σf := mes Ds ++ σ) hs trivial rfl (hit.mono hle1) hc (by simp) rfl
          (I := fun k H' σb => ∃ s ov vo, σb = [.blk b4 [.slice (some ⟨bc, 0, none⟩) (N + 1) (N + 1)], .blk b5 [.slice (some ⟨bb, 0, none⟩) (N + 1) (N + 1)], .blk b6 [vo], .blk bc (Is s.cost), .blk bb (Arcs s.by_)] ∧ OvR H' vo ov ∧ NInv (N + 1) ar r k ov s) (Ix := fun _ _ _ => False) (by rintro k _ _ σ g1 ⟨s, ov, vo, g2, g3, g4⟩; exact ⟨s, ov, vo, g2, g3.mono g1, g4⟩) (fun _ _ _ _ _ h => h)
          ⟨s, none, _, rfl, rfl, hN0⟩ ?_ ?_ (fun D c H' σb w _ h _ => h.elim)
        · rintro l k hk H2 σb2 σf2 w hle2 ⟨s, ov, vo, rfl, hov, hN⟩ hs ⟨rr, hrr⟩
          obtain ⟨x, hx⟩ := nth (l := ar) (by simpa using hk)
          obtain ⟨c1, c2, c3, c4, c5, c6⟩ := hok.2 x (List.mem_of_getElem? hx)
          have hxk : (ar.map fun x => [Value.agg x.v.toArray])[k] = [.agg x.v.toArray] := by rw [List.getElem_map]; rw [List.getElem?_eq_some_iff] at hx; obtain ⟨h1, h2⟩ := hx; rw [h2]
          rw [hxk]
          have hkl : k < ar.length := by simpa using hk
          have hal := hok.1
          have hlc := hN.lc
          have hlb := hN.lb
          have lo1 := hN.lo x.f c1
          have hi1 := hN.hi x.f c1
          refine .region ?_
          refine .o (.alloc hs Tryz.zeroValue189 rfl ?_); intro b8 w hs
          refine .o (.stores (vs := x.v) hs rfl rfl Tryz.sizeOf189 ?_); intro w hs
          refine .nil ?_
          refine nT ?_
          refine ⟨H2, [.blk b8 x.v, .blk b4 [.slice (some ⟨bc, 0, none⟩) (N + 1) (N + 1)], .blk b5 [.slice (some ⟨bb, 0, none⟩) (N + 1) (N + 1)], .blk b6 [vo], .blk bc (Is s.cost), .blk bb (Arcs s.by_)], HLe.refl _, hs, ?_⟩; rintro w σf2 - hs
          refine .block ?_
          refine .seq (.draw mix rfl hs ?_); intro w hs
          refine .y 0 rfl hs Tryz.isAgg22 ?_; refine .z 1 rfl (zfa fa_bound_step_0) ?_; refine .y 2 rfl hs Tryz.isAgg3 ?_
          first | (refine .ixv 3 rfl hs Tryz.runUnderlying22 Tryz.sizeOf3 ?_; intro b34 o34 hc34) | refine .z 3 rfl (zix Tryz.runUnderlying22 Tryz.sizeOf3) ?_
          refine .y 4 rfl hs Tryz.isAgg3 ?_; refine .z 5 rfl (zfa fa_bound_step_2) ?_; refine .y 6 rfl hs Tryz.isAgg3 ?_; refine .z 7 rfl zadd ?_; refine .y 8 rfl hs Tryz.isAgg22 ?_; refine .z 9 rfl (zfa fa_bound_step_1) ?_; refine .y 10 rfl hs Tryz.isAgg3 ?_
          first | (refine .ixv 11 rfl hs Tryz.runUnderlying22 Tryz.sizeOf3 ?_; intro b42 o42 hc42) | refine .z 11 rfl (zix Tryz.runUnderlying22 Tryz.sizeOf3) ?_
          refine .y 12 rfl hs Tryz.isAgg3 ?_; refine .z 13 rfl zlss ?_; refine .done (by kernel_rfl) hs ?_
          refine (.condD rfl (fun hc44 => ?_) (fun hc44 => ?_))
          · refine .seq (.draw mix rfl hs ?_); intro w hs
            refine .y 0 rfl hs Tryz.isAgg22 ?_; refine .z 1 rfl (zfa fa_bound_step_1) ?_; refine .y 2 rfl hs Tryz.isAgg3 ?_; refine .y 3 rfl hs Tryz.isAgg182 ?_; refine .z 4 rfl (zfa fa_bound_step_1) ?_; refine .y 5 rfl hs Tryz.isAgg3 ?_; refine .y 6 rfl hs Tryz.isAgg22 ?_; refine .z 7 rfl (zfa fa_bound_step_0) ?_; refine .y 8 rfl hs Tryz.isAgg3 ?_
            first | (refine .ixv 9 rfl hs Tryz.runUnderlying22 Tryz.sizeOf3 ?_; intro b54 o54 hc54) | refine .z 9 rfl (zix Tryz.runUnderlying22 Tryz.sizeOf3) ?_
            refine .y 10 rfl hs Tryz.isAgg3 ?_; refine .z 11 rfl (zfa fa_bound_step_2) ?_; refine .y 12 rfl hs Tryz.isAgg3 ?_; refine .z 13 rfl zadd ?_
            refine .loads (i := 14) (vs := x.v) hs rfl (by kernel_rfl) .none rfl Tryz.isAgg189 Tryz.sizeOf189 ?_
            first | (refine .ixv 15 rfl hs Tryz.runUnderlying22 Tryz.sizeOf3 ?_; intro b60 o60 hc60) | refine .z 15 rfl (zix Tryz.runUnderlying22 Tryz.sizeOf3) ?_
            refine .e1 (i := 16) (by kernel_rfl) rfl rfl .none hs ?_
            refine .store hs rfl rfl Tryz.sizeOf3 ?_; intro w hs
            refine .go ?_
            first | (refine .ixw 17 rfl hs Tryz.runUnderlying182 Tryz.sizeOf189 ?_; intro b61 o61 hc61) | refine .z 17 rfl (zixm Tryz.runUnderlying182 Tryz.sizeOf189) ?_
            refine .e1 (i := 18) (by kernel_rfl) rfl rfl .none hs ?_
            refine .stores (vs := x.v) hs rfl rfl Tryz.sizeOf189 ?_; intro w hs
            refine .go ?_
            refine .done (by kernel_rfl) hs ?_
            refine .region ?_
            refine .o (.store hs rfl rfl Tryz.sizeOf183 ?_); intro w hs
            refine .nil ?_
            refine nB ?_
            obtain ⟨H3, g1, g2, hs⟩ := hs.publish .here
            exact ⟨H3, _, g1, hs, s.rlx x, some x, _, rfl, ⟨b8, rfl, g2⟩, hN.relax hok hx hc44⟩
          · refine .skip ?_
            refine nB ?_
            exact ⟨H2, _, HLe.refl _, hs.tail, s, ov, vo, rfl, hov, hN.skip hok hx (by unfold BS.can; omega)⟩
        · rintro D H2 σb2 w hle2 ⟨s, ov, vo, rfl, hov, hN⟩ hs
          obtain ⟨a', rfl, ha'⟩ := hov.ptr
          replace hs : St H2 w (.blk b4 [.slice (some ⟨bc, 0, none⟩) (N + 1) (N + 1)] :: .blk b5 [.slice (some ⟨bb, 0, none⟩) (N + 1) (N + 1)] :: .blk b6 [.pointer a'] :: .blk bc (Is s.cost) :: .blk bb (Arcs s.by_) :: (mes (D :: Ds) ++ σ)) := St.deep (σ1 := [_, _, _, _, _]) hs
          have hN : NInv (N + 1) ar r ar.length ov s := by simpa using hN
          refine nB (nT ?_)
          refine .regSeq (.y hs (zld Tryz.isAgg183) ?_)
          refine .q hs (q_eqPN rfl rfl Tryz.runUnderlying183) ?_
          refine .nil ?_
          refine (.cond rfl (fun hc63 => ?_) (fun hc63 => ?_))
          · refine .seq (.draw mix rfl hs ?_); intro w hs
            refine .y 0 rfl hs Tryz.isAgg22 ?_; refine .y 1 rfl hs Tryz.isAgg182 ?_
            refine .e1 (i := 2) (by kernel_rfl) rfl rfl .none hs ?_
            refine .store hs rfl rfl Tryz.sizeOf22 ?_; intro w hs
            refine .go ?_
            refine .e1 (i := 3) (by kernel_rfl) rfl rfl .none hs ?_
            refine .store hs rfl rfl Tryz.sizeOf182 ?_; intro w hs
            refine .go ?_
            refine .e1 (i := 4) (by kernel_rfl) rfl rfl .none hs ?_
            refine .store hs rfl rfl Tryz.sizeOf183 ?_; intro w hs
            refine .go ?_
            refine .done (by kernel_rfl) hs ?_
            refine .ret (rB (rT (rB (rT (?_)))))
            obtain ⟨rfl, rfl⟩ := OvR.no ha' hc63
            refine Fin.retD (D :: Ds) [_, _, _, _, _] hs fun w hs => ⟨_, results3 Tryz.results126 (rcell hs rfl Tryz.isAgg22) (rcell hs rfl Tryz.isAgg182) (rcell hs rfl Tryz.isAgg183), H2, bc, bb, s, none, _, hle1.trans hle2, rfl, hov, ⟨r, hN, fun h => (h rfl).elim⟩, hs.sub (by repeat (first | exact Sub.refl _ | constructor | apply Sub.weaken))⟩
          · refine .skip ?_
            refine nB (nT ?_)
            obtain ⟨x, rfl⟩ := OvR.yes ha' hc63
            exact .mk (ds := marks (D :: Ds)) ⟨rfl, D :: Ds, H2, s, _, rfl, hle1.trans hle2, hN.next hok, .inr ⟨x, hov, hN⟩, hs⟩
      · rintro ds fr w ⟨rfl, Ds, H1, s, vo, rfl, hle1, hN0, hor, hs⟩
        obtain ⟨x, hov, hN⟩ : ∃ x, OvR H1 vo (some x) ∧ NInv (N + 1) ar (N + 2 - 1) ar.length (some x) s := hor.resolve_left (by omega)
        obtain ⟨b3, rfl, hrow⟩ := hov
        refine nT ?_
        refine .seq (.draw mix rfl hs ?_); intro w hs
        refine .y 0 rfl hs Tryz.isAgg22 ?_; refine .y 1 rfl hs Tryz.isAgg182 ?_; refine .y 2 rfl hs Tryz.isAgg183 ?_
        refine .e1 (i := 3) (by kernel_rfl) rfl rfl .none hs ?_
        refine .store hs rfl rfl Tryz.sizeOf22 ?_; intro w hs
        refine .go ?_
        refine .e1 (i := 4) (by kernel_rfl) rfl rfl .none hs ?_
        refine .store hs rfl rfl Tryz.sizeOf182 ?_; intro w hs
        refine .go ?_
        refine .e1 (i := 5) (by kernel_rfl) rfl rfl .none hs ?_
        refine .store hs rfl rfl Tryz.sizeOf183 ?_; intro w hs
        refine .go ?_
        refine .done (by kernel_rfl) hs ?_
        refine .ret ?_
        refine Fin.retD Ds [_, _, _, _, _] hs fun w hs => ⟨_, results3 Tryz.results126 (rcell hs rfl Tryz.isAgg22) (rcell hs rfl Tryz.isAgg182) (rcell hs rfl Tryz.isAgg183), H1, bc, bb, s, some x, _, hle1, rfl, ⟨b3, rfl, hrow⟩, ⟨N + 1, hN, fun _ => rfl⟩, hs.sub (by repeat (first | exact Sub.refl _ | constructor | apply Sub.weaken))⟩
theorem bound_isSound_spec {H : Heap} {w : World} {σ : List Ent} {v : Value} {s : Syst} (hs : St H w σ) (hok : s.Ok) (hr : RSy H v s) :
    Cl Tryz.prog 133 [v] w fun v w' => ∃ H1 b, HLe H H1 ∧ v = .bool b ∧ (b = true ↔ s.Sound) ∧ St H1 w' σ := by
  obtain ⟨u, rfl, hr⟩ := hr
  obtain ⟨N, hN⟩ := Int.eq_ofNat_of_zero_le hok.m0
  have hN1 := hok.m1
  have hn : s.n = N + 1 := by simp [Syst.n, hN]
  have hoka := hok.arcs
  rw [hn] at hoka
  rw [hN]
  refine Cl.of Tryz.func133 rfl Tryz.ntmps133 (by simp) (args_cons (k := 0) rfl (args0)) ?_
  refine .regSeq ?_
  refine .o (.box hs rfl rfl ?_); intro b1 w hs
  refine .z zg (.nil ?_)
  refine .seq (.draw mix rfl hs ?_); intro w hs
  refine .z 0 rfl (zfa fa_api_System_0) ?_; refine .y 1 rfl hs Tryz.isAgg3 ?_; refine .ys 2 rfl hs [_, _] Tryz.isAgg70 Tryz.sizeOf70 ?_
  refine .e1 (i := 3) (by kernel_rfl) rfl rfl .none hs ?_
  refine .call Tryz.call127 rfl (bound_steps_spec (s := s) hs hok ⟨u, by rw [hN], hr⟩) ?_; rintro _ w ⟨H1, b10, hle1, rfl, hit, hs⟩
  refine .go ?_
  refine .e1 (i := 4) (by kernel_rfl) rfl rfl .none hs ?_
  refine .call Tryz.call126 rfl (bound_nearest_spec hs (by omega) hoka hit Tryz.call203) ?_; rintro _ w ⟨H2, bc, bb, st, ov, vo, hle2, rfl, hov, hnr, hs⟩
  obtain ⟨a', rfl, ha'⟩ := hov.ptr
  refine .go ?_
  refine .z 5 rfl zm ?_; refine .z 6 rfl zex ?_; refine .z 7 rfl zex ?_; refine .z 8 rfl zex ?_; refine .z 9 rfl zg ?_; refine .z 10 rfl zg ?_; refine .z 11 rfl zg ?_; refine .done (by kernel_rfl) hs ?_
  refine .regSeq (.z zm ?_)
  refine .q hs (q_eqPN rfl rfl Tryz.runUnderlying183) ?_
  refine .z zg (.nil ?_)
  refine .ret (Fin.ret1 Tryz.results133 rfl ?_)
  refine ⟨H2, _, hle1.trans hle2, rfl, ?_, hs.out⟩
  obtain ⟨r, hN2, hr2⟩ := hnr
  cases ov with
  | none =>
    rw [ha']
    exact ⟨fun _ => ⟨_, (hN2.sol hoka (by omega)).1⟩, fun _ => rfl⟩
  | some x =>
    rw [ha']
    exact ⟨fun h => (by cases h), fun h => (hN2.none hoka (by omega) (by have := hr2 (by simp); omega) h).elim⟩
end Go.Proofs.YtddaejgfjlneoaaGreat

namespace Go.Proofs.YtddaejgfjlneoaaGreat
open Go.MW
theorem math_bits_Mul64_one {H : Heap} {w : World} {σ : List Ent} {c : Int} (hs : St H w σ) (hc : 0 ≤ c ∧ c < 4294967296) : Cl Tryz.prog 299 [.int .u64 1, .int .u64 c] w fun v w' => v = .tuple #[.int .u64 0, .int .u64 c] ∧ St H w' σ := by
  refine Cl.of Tryz.func299 rfl Tryz.ntmps299 (by simp) (args_cons (k := 0) rfl (args_cons (k := 1) rfl (args0))) ?_
  refine .regSeq (.z zg (.z zg (.nil (.regSeq (.z zm ?_)))))
  first | refine .q hs (q_low rfl rfl ⟨by omega, by omega⟩) ?_ | refine .q hs (q_bits rfl rfl) ?_
  refine .z zg (.nil (.regSeq (.z zm ?_)))
  first | refine .q hs (q_high rfl rfl ⟨by omega, by omega⟩) ?_ | refine .q hs (q_shr rfl rfl (by decide)) ?_
  refine .z zg (.nil (.regSeq (.z zm ?_)))
  first | refine .q hs (q_low rfl rfl ⟨by omega, by omega⟩) ?_ | refine .q hs (q_bits rfl rfl) ?_
  refine .z zg (.nil (.regSeq (.z zm ?_)))
  first | refine .q hs (q_high rfl rfl ⟨by omega, by omega⟩) ?_ | refine .q hs (q_shr rfl rfl (by decide)) ?_
  refine .z zg (.nil (.regSeq (.z zm (.z zm (.z zmul (.z zg (.nil (.regSeq (.z zm ?_)))))))))
  refine .z zm (.z zmul (.z zm ?_))
  first | refine .q hs (q_high rfl rfl ⟨by omega, by omega⟩) ?_ | refine .q hs (q_shr rfl rfl (by decide)) ?_
  refine .z zadd (.z zg (.nil (.regSeq (.z zm ?_))))
  first | refine .q hs (q_low rfl rfl ⟨by omega, by omega⟩) ?_ | refine .q hs (q_bits rfl rfl) ?_
  refine .z zg (.nil (.regSeq (.z zm ?_)))
  first | refine .q hs (q_high rfl rfl ⟨by omega, by omega⟩) ?_ | refine .q hs (q_shr rfl rfl (by decide)) ?_
  refine .z zg (.nil (.regSeq (.z zm (.z zm (.z zm (.z zmul (.z zadd (.z zg (.nil ?_)))))))))
  refine .regSeq (.z zm (.z zm (.z zmul (.z zm (.z zadd (.z zm ?_))))))
  first | refine .q hs (q_high rfl rfl ⟨by omega, by omega⟩) ?_ | refine .q hs (q_shr rfl rfl (by decide)) ?_
  refine .z zadd (.z zg (.nil (.regSeq (.z zm (.z zm (.z zmul (.z zg (.nil ?_))))))))
  refine .ret (Fin.ret2 Tryz.results299 rfl rfl ?_)
  exact ⟨by simp, hs⟩
theorem math_bits_Mul_one {H : Heap} {w : World} {σ : List Ent} {c : Int} (hs : St H w σ) (hc : 0 ≤ c ∧ c < 4294967296) : Cl Tryz.prog 297 [.int .u64 1, .int .u64 c] w fun v w' => v = .tuple #[.int .u64 0, .int .u64 c] ∧ St H w' σ := by
  refine Cl.of Tryz.func297 rfl Tryz.ntmps297 (by simp) (args_cons (k := 0) rfl (args_cons (k := 1) rfl (args0))) ?_
  refine .regSeq (.z zg (.z zg (.nil ?_)))
  refine .seq (.condF rfl rfl ?_)
  refine .skip ?_
  refine nT ?_
  refine .regSeq (.z zm (.z zm ?_))
  refine .o (.call Tryz.call299 rfl (math_bits_Mul64_one hs hc) ?_); rintro _ w ⟨rfl, hs⟩
  refine .z zm (.z zex (.z zex (.z zg (.z zg (.nil (.regSeq (.z zm (.z zm (.z zg ?_)))))))))
  refine .z zg (.nil ?_)
  refine .ret (Fin.ret2 Tryz.results297 rfl rfl ?_)
  exact ⟨rfl, hs⟩
theorem fill_step {c k : Nat} {z : Int} : let n := min k (c - k); (List.replicate k z ++ List.replicate (c - k) 0).take k ++ List.replicate n z ++ (List.replicate k z ++ List.replicate (c - k) 0).drop (k + n) = List.replicate (k + n) z ++ List.replicate (c - (k + n)) (0 : Int) := by
  intro n
  have hn : n ≤ c - k := Nat.min_le_right _ _
  have e0 : (List.replicate k z).length = k := by simp
  rw [List.take_left' e0]
  have e1 : (List.replicate k z ++ List.replicate (c - k) 0).drop (k + n) = List.replicate (c - (k + n)) (0 : Int) := by
    rw [show k + n = (List.replicate k z).length + n by simp, List.drop_append]
    simp
    omega
  rw [e1, List.replicate_append_replicate]
theorem slices_Repeat_int {H : Heap} {w : World} {σ : List Ent} {z : Int} {bx c : Nat} (hs : St H w σ) (hm : Mem σ (.blk bx (Is [z]))) (h1 : 1 ≤ c) (h2 : c ≤ 1000000) : Cl Tryz.prog 288 [.slice (some ⟨bx, 0, none⟩) 1 1, I c] w fun v w' => ∃ b, v = .slice (some ⟨b, 0, none⟩) c c ∧ St H w' (.blk b (Is (List.replicate c z)) :: σ) := by
  refine Cl.of Tryz.func288 rfl Tryz.ntmps288 (by simp) (args_cons (k := 0) rfl (args_cons (k := 1) rfl (args0))) ?_
  refine .regSeq (.z zg (.nil (.seq (.regSeq (.z zm (.z zlss (.nil ?_)))))))
  refine (.condD rfl (fun hc10 => ?_) (fun hc10 => ?_))
  · omega
  · refine .skip ?_
    refine nT ?_
    refine .regSeq (.z zm (.z (zlen Tryz.runUnderlying22) ?_))
    first | refine .q hs (q_convI rfl Tryz.runUnderlying3 Tryz.runUnderlying250 ⟨by omega, by omega⟩) ?_ | refine .q hs (q_convU rfl Tryz.runUnderlying3 Tryz.runUnderlying250 ⟨by omega, by omega⟩) ?_ | refine .q hs (q_conv rfl Tryz.runUnderlying3 Tryz.runUnderlying250) ?_
    refine .z zm ?_
    first | refine .q hs (q_convI rfl Tryz.runUnderlying3 Tryz.runUnderlying250 ⟨by omega, by omega⟩) ?_ | refine .q hs (q_convU rfl Tryz.runUnderlying3 Tryz.runUnderlying250 ⟨by omega, by omega⟩) ?_ | refine .q hs (q_conv rfl Tryz.runUnderlying3 Tryz.runUnderlying250) ?_
    refine .o (.call Tryz.call297 rfl (math_bits_Mul_one (c := c) hs (by omega)) ?_); rintro _ w ⟨rfl, hs⟩
    refine .z zm (.z zex (.z zex (.z zg (.z zg (.nil (.seq (.regSeq (.z zm (.z zgtr ?_)))))))))
    refine .z zm ?_
    refine .bifD (t' := 23) rfl (fun hb23 => ?_) (fun hb23 => ?_)
    · refine .gFs 2 2 false rfl rfl rfl ?_
      refine .z zpT (.nil ?_)
      refine (.condT rfl rfl ?_)
      first | omega | (simp at hc26; omega)
    · refine .gT rfl rfl ?_
      refine .z zm ?_
      refine .gT rfl rfl ?_
      refine .z zgtr (.z zpF (.nil ?_))
      refine (.condD rfl (fun hc26 => ?_) (fun hc26 => ?_))
      · first | omega | (simp at hc26; omega)
      · refine .skip ?_
        refine nT ?_
        refine .regSeq (.z zm ?_)
        first | refine .q hs (q_convI rfl Tryz.runUnderlying250 Tryz.runUnderlying3 ⟨by omega, by omega⟩) ?_ | refine .q hs (q_convU rfl Tryz.runUnderlying250 Tryz.runUnderlying3 ⟨by omega, by omega⟩) ?_ | refine .q hs (q_conv rfl Tryz.runUnderlying250 Tryz.runUnderlying3) ?_
        refine .o (.makeI c hs rfl rfl Tryz.runUnderlying22 Tryz.typeInfo3 rfl Tryz.sizeOf3 Tryz.zeroValue3 (by omega) ?_); intro b30 w hs
        refine .z zg (.nil (.regSeq (.z zm (.z zm ?_))))
        refine .o (.copyI (k := 1) (xs := List.replicate c 0) (zs := [z]) hs rfl rfl ⟨_, _, rfl⟩ Tryz.runUnderlying22 Tryz.sizeOf3 (by omega) rfl (first_own (xs := [z]) (.there hm) rfl rfl) (by simp; omega) ?_); intro w hs
        refine .z zg (.nil (.seq (.block ?_)))
        refine .loop (fun k : Nat => ⟨48, [], [(8, I k), (7, .slice (some ⟨b30, 0, none⟩) c c)]⟩) (fun k w => (1 ≤ k ∧ k ≤ c) ∧ St H w (.blk b30 (Is (List.replicate k z ++ List.replicate (c - k) 0)) :: σ)) (fun k => c - k) 1 (by repeat (first | exact .nil rfl rfl | refine .cons rfl ?_)) ⟨⟨by omega, by omega⟩, by
            have e : List.take 0 (List.replicate c (0 : Int)) ++ [z] ++ List.drop (0 + 1) (List.replicate c 0) = List.replicate 1 z ++ List.replicate (c - 1) 0 := by simp
            rw [e] at hs; exact hs⟩ ?_
        rintro k w ⟨⟨k1, k2⟩, hs⟩
        refine .seq (.regSeq (.z zm (.z zm (.z (zlen Tryz.runUnderlying22) (.z zlss (.nil ?_))))))
        refine (.condD rfl (fun hc37 => ?_) (fun hc37 => ?_))
        · refine .skip ?_
          refine nT ?_
          refine .block ?_
          refine .draw mix rfl hs ?_; intro w hs
          refine .z 0 rfl zm ?_; refine .z 1 rfl zm ?_; refine .z 2 rfl zm ?_
          refine .p (i := 3) rfl (by kernel_rfl) .none (q_sliceLI (k := k) rfl rfl Tryz.runUnderlying22 Tryz.sizeOf3 (by omega) (by omega)) ?_
          refine .z 4 rfl zm ?_; refine .z 5 rfl zm ?_
          refine .p (i := 6) rfl (by kernel_rfl) .none (q_sliceHI (k := k) rfl rfl Tryz.runUnderlying22 Tryz.sizeOf3 (by omega)) ?_
          refine .e1 (i := 7) (by kernel_rfl) rfl rfl .none hs ?_
          refine .copyI (k := min k (c - k)) (xs := List.replicate k z ++ List.replicate (c - k) 0) (zs := List.replicate (min k (c - k)) z) hs rfl rfl ⟨_, _, rfl⟩ Tryz.runUnderlying22 Tryz.sizeOf3 rfl (by simp) (first_own (xs := List.replicate k z ++ List.replicate (c - k) 0) .here (by rw [List.drop_zero, List.take_append_of_le_length (by simp; omega)]; simp) (by simp)) (by simp; omega) ?_; intro w hs
          refine .go ?_
          refine .z 8 rfl zadd ?_; refine .z 9 rfl zg ?_; refine .done (by kernel_rfl) hs ?_
          refine nB (nT ?_)
          exact ⟨k + min k (c - k), by repeat (first | exact .nil rfl rfl | refine .cons rfl ?_), ⟨⟨by omega, by omega⟩, by
              have e := fill_step (z := z) (c := c) (k := k)
              simp only [Nat.mul_one, Nat.zero_add] at hs
              rw [e] at hs; exact hs⟩, by omega⟩
        · refine .exit ?_
          refine xT (xT (xB (nT ?_)))
          refine .regSeq (.z zm (.z zg (.nil ?_)))
          refine .ret (Fin.ret1 Tryz.results288 rfl ?_)
          obtain rfl : k = c := by omega
          exact ⟨b30, rfl, by simpa using hs⟩
theorem slices_Clone_intN {H : Heap} {w : World} {σ : List Ent} {v : Value} {xs : List Int} (hs : St H w σ) (hr : RI H v xs) (hx : xs.length ≤ 17592186044416) : Cl Tryz.prog 197 [v] w fun u w' => ∃ en, (nnil v = true → nnil u = true) ∧ OwnS 1 u (Is xs) en ∧ St H w' (en :: σ) := by
  obtain ⟨a, c, rfl⟩ := RI.shape hr
  have hl := (RI.len hr).2.2
  refine Cl.of Tryz.func197 rfl Tryz.ntmps197 (by simp) (args_cons (k := 0) rfl (args0)) ?_
  refine .regSeq (.z zg (.nil (.seq (.regSeq (.z zm ?_)))))
  refine .q hs (q_eqSN rfl rfl Tryz.runUnderlying22) ?_
  refine .nil ?_
  refine (.cond rfl (fun hc4 => ?_) (fun hc4 => ?_))
  · refine .regSeq (.z zg (.nil ?_))
    refine .ret (rT (Fin.ret1 Tryz.results197 rfl ?_))
    obtain rfl : a = none := by simpa using hc4
    obtain rfl := hr.nilOf
    exact ⟨.nul, fun h => h, .nil 1 none, hs.nul⟩
  · refine .skip ?_
    refine nT ?_
    refine .regSeq ?_
    refine .o (.buildSlice (cells := []) hs bls_sl_int_0 rfl rfl ?_); intro b5 w hs
    refine .z zm ?_
    refine .o (.appendN (xs := []) (ys := Is xs) hs app_sl_int_int rfl rfl (.full rfl) (.ints hr) (by simp [Value.oneCell']) (fun l h => by simp at h; omega) ?_); intro v7 en7 w hnn hO hs
    refine .z zg (.nil ?_)
    refine .ret (Fin.ret1 Tryz.results197 rfl ?_)
    exact ⟨en7, fun _ => hnn rfl, hO, hs⟩
theorem slices_Clone_int {H : Heap} {w : World} {σ : List Ent} {v : Value} {xs : List Int} (hs : St H w σ) (hr : RI H v xs) (hx : xs.length ≤ 17592186044416) : Cl Tryz.prog 197 [v] w fun v w' => ∃ en, OwnS 1 v (Is xs) en ∧ St H w' (en :: σ) :=
  (slices_Clone_intN hs hr hx).mono fun _ _ ⟨en, _, h⟩ => ⟨en, h⟩
theorem slices_Reverse_step {H : Heap} {w : World} {σ : List Ent} {v : Value} {l : List Arc} {en : Ent} (hs : St H w (en :: σ)) (ho : OwnS 4 v (Arcs l) en) (hl : l.length ≤ 1000000) :
    Cl Tryz.prog 289 [v] w fun _ w' => ∃ en', OwnS 4 v (Arcs l.reverse) en' ∧ St H w' (en' :: σ) := by
  rcases ho with ⟨a, rfl, h2, rfl⟩ | ⟨b, len, cap, sp, rfl, rfl, h2, h3, h4⟩
  · obtain rfl : l = [] := by
      have := congrArg List.length h2
      rw [Arcs_length] at this
      exact List.length_eq_zero_iff.1 (by simp at this; omega)
    have hs := hs.tail
    refine Cl.of Tryz.func289 rfl Tryz.ntmps289 (by simp) (args_cons (k := 0) rfl (args0)) ?_
    refine .regSeq (.z zm (.z (zlen Tryz.runUnderlying182) (.z zsub (.z zg (.z zg (.nil (.block ?_)))))))
    refine .loop (fun _ : Unit => ⟨28, [], [(2, I 0), (3, I (-1))]⟩) (fun _ w => St H w σ) (fun _ => 0) () (by repeat (first | exact .nil rfl rfl | refine .cons rfl ?_)) hs ?_
    rintro _ w hs
    refine .seq (.regSeq (.z zm (.z zm (.z zlss (.nil ?_)))))
    refine (.condD rfl (fun hc9 => ?_) (fun hc9 => ?_))
    · omega
    · refine .exit ?_
      refine xT (xT (xB ?_))
      exact Fin.end0 Tryz.results289 ⟨.nul, .nil 4 a, hs.nul⟩
  obtain rfl : len = l.length := by rw [Arcs_length] at h2; omega
  refine Cl.of Tryz.func289 rfl Tryz.ntmps289 (by simp) (args_cons (k := 0) rfl (args0)) ?_
  refine .regSeq (.z zm (.z (zlen Tryz.runUnderlying182) (.z zsub (.z zg (.z zg (.nil (.block ?_)))))))
  refine .loop (fun p : Nat × List Arc => ⟨28, [], [(2, I p.1), (3, I ((l.length : Int) - 1 - p.1)), (0, .slice (some ⟨b, 0, none⟩) l.length cap)]⟩) (fun p w => (2 * p.1 ≤ l.length + 1 ∧ Turned l p.2 p.1) ∧ St H w (.blk b (Arcs p.2 ++ sp) :: σ)) (fun p => l.length - p.1) (0, l) (.cons rfl (.consI rfl (by simp) (.cons rfl (.nil rfl rfl)))) ⟨⟨by simp, .start l⟩, hs⟩ ?_
  rintro ⟨i, L⟩ w ⟨⟨h5, h6⟩, hs⟩
  dsimp only at h5 h6 hs ⊢
  have hL := h6.1
  refine .seq (.regSeq (.z zm (.z zm (.z zlss (.nil ?_)))))
  refine (.condD rfl (fun hc9 => ?_) (fun hc9 => ?_))
  · refine .skip ?_
    refine nT ?_
    refine .seq (.block ?_)
    refine .draw mix rfl hs ?_; intro w hs
    refine .z 0 rfl zm ?_; refine .z 1 rfl zm ?_; refine .z 2 rfl zm ?_; refine .z 3 rfl zm ?_; refine .z 4 rfl zm ?_; refine .z 5 rfl zm ?_
    refine .p (i := 6) rfl (by kernel_rfl) .none (q_ixOm (k := l.length - 1 - i) rfl rfl Tryz.runUnderlying182 Tryz.sizeOf189 (by omega) (by omega)) ?_
    refine .loads (i := 7) (vs := (ga L (l.length - 1 - i)).v) hs rfl (by kernel_rfl) .none rfl Tryz.isAgg189 Tryz.sizeOf189 ?_ (hv := Arcs_sub_sp (by omega) sp)
    refine .z 8 rfl zm ?_; refine .z 9 rfl zm ?_
    first | (refine .ixw 10 rfl hs Tryz.runUnderlying182 Tryz.sizeOf189 ?_; intro b24 o24 hc24) | refine .z 10 rfl (zixm Tryz.runUnderlying182 Tryz.sizeOf189) ?_
    refine .loads (i := 11) (vs := (ga L i).v) hs rfl (by kernel_rfl) .none rfl Tryz.isAgg189 Tryz.sizeOf189 ?_ (hv := Arcs_sub_sp (by omega) sp)
    first | (refine .ixw 12 rfl hs Tryz.runUnderlying182 Tryz.sizeOf189 ?_; intro b26 o26 hc26) | refine .z 12 rfl (zixm Tryz.runUnderlying182 Tryz.sizeOf189) ?_
    refine .e1 (i := 13) (by kernel_rfl) rfl rfl .none hs ?_
    refine .stores (vs := (ga L (l.length - 1 - i)).v) hs rfl rfl Tryz.sizeOf189 ?_ (by repeat constructor) (ble_Arcs_sp (by omega) sp) (setL_Arcs_sp (by omega) _ sp); intro w hs
    refine .go ?_
    refine .p (i := 14) rfl (by kernel_rfl) .none (q_ixOm (k := l.length - 1 - i) rfl rfl Tryz.runUnderlying182 Tryz.sizeOf189 (by omega) (by omega)) ?_
    refine .e1 (i := 15) (by kernel_rfl) rfl rfl .none hs ?_
    refine .stores (vs := (ga L i).v) hs rfl rfl Tryz.sizeOf189 ?_ (by repeat constructor) (ble_Arcs_sp (by simp; omega) sp) (setL_Arcs_sp (by simp; omega) _ sp); intro w hs
    refine .go ?_
    refine .done (by kernel_rfl) hs ?_
    refine nB (nT ?_)
    refine .region (.z zm (.z zadd (.z zm (.z zsub (.z zg (.z zg (.nil ?_)))))))
    refine nT ?_
    exact ⟨(i + 1, _), .cons rfl (.consI rfl (by push_cast; omega) (.cons rfl (.nil rfl rfl))), ⟨⟨by dsimp only; omega, h6.step (by omega)⟩, hs⟩, by dsimp only; omega⟩
  · refine .exit ?_
    refine xT (xT (xB ?_))
    rw [h6.done (by omega)] at hs
    exact Fin.end0 Tryz.results289 ⟨_, .inr ⟨b, l.length, cap, sp, rfl, rfl, by rw [Arcs_length]; simp, by rw [← h3]; simp [Arcs_length], h4⟩, hs⟩
end Go.Proofs.YtddaejgfjlneoaaGreat

namespace Go.Proofs.YtddaejgfjlneoaaGreat
open Go.MW
theorem bound_flow_rest_1_iter {H : Heap} {b1 bf bt bl cl : Nat} {s : Syst} {ts lf : List Int} {vl : Value} {sp : List Value} (hok : s.Ok) (hb : Row H b1 [.pointer (some ⟨bf, 0, none⟩)]) (hF : FlowH H bf s ts lf vl bt bl cl sp) (hlt : ts.length = s.lims.length) :
    ItA Tryz.prog 270 [.pointer (some ⟨b1, 0, none⟩)] H (resid s.arcs ts) := by
  intro l II Ix hmI hmX hy H0 σb0 σf w hle hI0 hs
  have hb0 : cellAt H0 b1 0 = some (.pointer (some ⟨bf, 0, none⟩)) := (hb.mono hle).at 0
  have hF0 := hF.mono hle
  have hsys := hF0.f.cells 0 [I s.many, vl]
  have hlen : s.arcs.length = ts.length := by simp [Syst.arcs, arcsOf_length, hlt]
  refine Cl.of Tryz.func270 rfl Tryz.ntmps270 (by simp) (args_cons (k := 0) rfl (args_cons (k := 1) rfl (args0))) ?_
  refine .regSeq ?_
  refine .o (.box hs rfl rfl ?_); intro b2 w hs
  refine .nil (.regSeq (.y hs (zld Tryz.isAgg211) (.z znc (.z (zfa fa_bound_flow_0) ?_))))
  refine .q hs (q_loadsR (vs := [I s.many, vl]) rfl Tryz.isAgg70 Tryz.sizeOf70 hsys) ?_
  refine .o (.call Tryz.call127 rfl (bound_steps_spec (s := s) hs hok ⟨vl, rfl, hF0.l⟩) ?_); rintro _ w ⟨H1, b8, hle1, rfl, hit, hs⟩
  refine .nil (.block ?_)
  refine .rangeFunc (gf := 203) (cap := [.pointer (some ⟨b8, 0, none⟩)]) (xs := s.arcs.map fun x : Arc => [Value.agg x.v.toArray]) (σb := .blk b2 [.func (.yield l) #[] #[]] :: σb0) (σf := σf) hs trivial rfl hit Tryz.call203 (by simp) rfl
    (I := fun k H' σb => ∃ σo, σb = .blk b2 [.func (.yield l) #[] #[]] :: σo ∧ HLe H0 H' ∧ II (preN s.arcs ts k) H' σo)
    (Ix := fun c H' σb => c = .ret ∧ ∃ σo, σb = .blk b2 [.func (.yield l) #[] #[]] :: σo ∧ HLe H0 H' ∧ Ix H' σo)
    (fun k _ _ σ g1 ⟨σo, g2, g3, g4⟩ => ⟨σo, g2, g3.trans g1, hmI _ _ _ _ g1 g4⟩) (fun c _ _ σ g1 ⟨g0, σo, g2, g3, g4⟩ => ⟨g0, σo, g2, g3.trans g1, hmX _ _ _ g1 g4⟩)
    ⟨σb0, rfl, hle1, by rw [preN_zero]; exact hmI _ _ _ _ hle1 hI0⟩ ?_ ?_ ?_
  · rintro l2 k hk H2 σb2 σf2 w hle2 ⟨σo, rfl, hle0, hIk⟩ hs ⟨rr, hrr⟩
    obtain ⟨x, hx⟩ := nth (l := s.arcs) (by simpa using hk)
    obtain ⟨c1, c2, c3, c4, c5, c6⟩ := hok.arcs.2 x (List.mem_of_getElem? hx)
    have hxk : (s.arcs.map fun x => [Value.agg x.v.toArray])[k] = [.agg x.v.toArray] := by rw [List.getElem_map]; rw [List.getElem?_eq_some_iff] at hx; obtain ⟨h1, h2⟩ := hx; rw [h2]
    rw [hxk]
    have hkt : k < ts.length := by rw [← hlen]; simpa using hk
    have hxl : x.l = (k : Int) := arcsOf_l hx
    obtain ⟨r1, r2, r3⟩ := resid_get (ts := ts) hx hkt
    refine .region ?_
    refine .o (.alloc hs Tryz.zeroValue189 rfl ?_); intro b3 w hs
    refine .o (.stores (vs := x.v) hs rfl rfl Tryz.sizeOf189 ?_); intro w hs
    refine .nil ?_
    refine nT ?_
    refine ⟨H2, .blk b3 x.v :: .blk b2 [.func (.yield l) #[] #[]] :: σo, HLe.refl _, hs, ?_⟩; rintro w σf2 - hs
    refine .block (.seq (.regSeq ?_))
    refine .y hs (zld Tryz.isAgg245) ?_
    refine .q hs (q_loads (vs := x.v) rfl Tryz.isAgg189 Tryz.sizeOf189) ?_
    have hyd := hy (preN s.arcs ts k) (by simpa using (List.getElem?_eq_some_iff.1 r1).1) H2 σo (.blk b3 x.v :: .blk b2 [.func (.yield l) #[] #[]] :: σf2) w (hle.trans hle0) hIk (St.deep (σ1 := σo) (St.deep (σ1 := .blk b3 x.v :: σo) (hs.perm (.swap _ _ _))))
    rw [map_at r1] at hyd
    refine .o (.yield (vs := [.agg x.v.toArray]) rfl rfl hyd ?_); rintro v12 w ⟨H3, σ3, hle3, hs, g3⟩
    obtain ⟨bb, rfl, gT, gF⟩ := yd_bool g3
    replace hs : St H3 w (.blk b3 x.v :: .blk b2 [.func (.yield l) #[] #[]] :: (σ3 ++ σf2)) := (St.shallow (σ1 := .blk b3 x.v :: σ3) (St.shallow (σ1 := σ3) hs)).perm (.swap _ _ _)
    refine .z znot (.nil ?_)
    refine (.cond rfl (fun hc13 => ?_) (fun hc13 => ?_))
    · refine .ret (rT (rB (?_)))
      exact ⟨H3, .blk b2 [.func (.yield l) #[] #[]] :: σ3, hle3, hs.tail, rfl, σ3, rfl, hle0.trans hle3, gF (by simpa using hc13)⟩
    · refine .skip ?_
      refine nT ?_
      refine .seq (.draw mix rfl hs ?_); intro w hs
      have hb3 : cellAt H3 b1 0 = some (.pointer (some ⟨bf, 0, none⟩)) := cellAt.mono hb0 (hle0.trans hle3)
      have hf3 : cellAt H3 bf 2 = some (.slice (some ⟨bt, 0, none⟩) ts.length ts.length) := ((hF0.mono (hle0.trans hle3)).f).at 2
      have ht3 : cellAt H3 bt k = some (I (gi ts k)) := ((hF0.mono (hle0.trans hle3)).t).at k (Is_gi hkt)
      have hI3 := gT (by simpa using hc13)
      refine .r (i := 0) hs rfl (by kernel_rfl) .none (q_loadR rfl Tryz.isAgg211 hb3) ?_
      refine .z 1 rfl znc ?_; refine .z 2 rfl (zfa fa_bound_flow_1) ?_; refine .y 3 rfl hs Tryz.isAgg22 ?_; refine .z 4 rfl (zfa fa_bound_step_3) ?_; refine .y 5 rfl hs Tryz.isAgg3 ?_
      refine .p (i := 6) rfl (by kernel_rfl) .none (q_ixO (k := k) rfl rfl Tryz.runUnderlying22 Tryz.sizeOf3 hxl hkt) ?_
      refine .r (i := 7) hs rfl (by kernel_rfl) .none (q_loadR rfl Tryz.isAgg3 ht3) ?_
      refine .z 8 rfl zgtr ?_; refine .z 9 rfl zm ?_
      refine .bifD (t' := 23) rfl (fun hb23 => ?_) (fun hb23 => ?_)
      · refine .y 10 rfl hs Tryz.isAgg245 ?_
        refine .z 11 rfl (zfa fa_bound_step_1) ?_; refine .y 12 rfl hs Tryz.isAgg3 ?_; refine .z 13 rfl (zfa fa_bound_step_0) ?_; refine .y 14 rfl hs Tryz.isAgg3 ?_; refine .z 15 rfl (zfa fa_bound_step_2) ?_; refine .y 16 rfl hs Tryz.isAgg3 ?_; refine .z 17 rfl zneg ?_; refine .z 18 rfl (zfa fa_bound_step_3) ?_; refine .y 19 rfl hs Tryz.isAgg3 ?_; refine .z 20 rfl (zbd [_, _, _, _] bld_bound_step) ?_
        refine .e1 (i := 21) (by kernel_rfl) rfl rfl (.some rfl rfl) hs ?_
        obtain ⟨r4, r5⟩ := r2 hb23
        have hyd := hy (preN s.arcs ts k + 1) (by simpa using (List.getElem?_eq_some_iff.1 r4).1) H3 σ3 (.blk b3 x.v :: .blk b2 [.func (.yield l) #[] #[]] :: σf2) w (hle.trans (hle0.trans hle3)) hI3 (St.deep (σ1 := σ3) (St.deep (σ1 := .blk b3 x.v :: σ3) (hs.perm (.swap _ _ _))))
        rw [map_at r4] at hyd
        refine .yield (vs := [.agg x.back.v.toArray]) rfl rfl hyd ?_; rintro v35 w ⟨H4, σ4, hle4, hs, g4⟩
        obtain ⟨bb4, rfl, gT4, gF4⟩ := yd_bool g4
        replace hs : St H4 w (.blk b3 x.v :: .blk b2 [.func (.yield l) #[] #[]] :: (σ4 ++ σf2)) := (St.shallow (σ1 := .blk b3 x.v :: σ4) (St.shallow (σ1 := σ4) hs)).perm (.swap _ _ _)
        refine .go ?_
        refine .z 22 rfl znot ?_; refine .z 23 rfl zpT ?_; refine .done (by kernel_rfl) hs ?_
        refine (.cond rfl (fun hc37 => ?_) (fun hc37 => ?_))
        · refine .ret (rB (?_))
          exact ⟨H4, .blk b2 [.func (.yield l) #[] #[]] :: σ4, hle3.trans hle4, hs.tail, rfl, σ4, rfl, hle0.trans (hle3.trans hle4), gF4 (by simpa using hc37)⟩
        · refine .skip ?_
          refine nB ?_
          exact ⟨H4, .blk b2 [.func (.yield l) #[] #[]] :: σ4, hle3.trans hle4, hs.tail, σ4, rfl, hle0.trans (hle3.trans hle4), by rw [r5]; exact gT4 (by simpa using hc37)⟩
      · refine .qF (i := 10) rfl (by kernel_rfl) rfl rfl ?_
        refine .qF (i := 11) rfl (by kernel_rfl) rfl rfl ?_
        refine .qF (i := 12) rfl (by kernel_rfl) rfl rfl ?_
        refine .qF (i := 13) rfl (by kernel_rfl) rfl rfl ?_
        refine .qF (i := 14) rfl (by kernel_rfl) rfl rfl ?_
        refine .qF (i := 15) rfl (by kernel_rfl) rfl rfl ?_
        refine .qF (i := 16) rfl (by kernel_rfl) rfl rfl ?_
        refine .qF (i := 17) rfl (by kernel_rfl) rfl rfl ?_
        refine .qF (i := 18) rfl (by kernel_rfl) rfl rfl ?_
        refine .qF (i := 19) rfl (by kernel_rfl) rfl rfl ?_
        refine .qF (i := 20) rfl (by kernel_rfl) rfl rfl ?_
        refine .qF (i := 21) rfl (by kernel_rfl) rfl rfl ?_
        refine .qF (i := 22) rfl (by kernel_rfl) rfl rfl ?_
        refine .z 23 rfl zpF ?_; refine .done (by kernel_rfl) hs ?_
        refine (.condF rfl rfl ?_)
        refine .skip ?_
        refine nB ?_
        exact ⟨H3, .blk b2 [.func (.yield l) #[] #[]] :: σ3, hle3, hs.tail, σ3, rfl, hle0.trans hle3, by rw [r3 hb23]; exact hI3⟩
  · rintro D H2 σb2 w hle2 ⟨σo, rfl, hle0, hIk⟩ hs
    refine nB ?_
    exact Fin.endD [D] [] hs.shallowD fun w hs => ⟨_, results0 Tryz.results270, H2, σo, hle0, hs, .inl (by simpa [preN_end hlen] using hIk)⟩
  · rintro D c H2 σb2 w hle2 ⟨rfl, σo, rfl, hle0, hx⟩ hs
    exact .ret (rB (Fin.retD [D] [] hs.shallowD fun w hs => ⟨_, results0 Tryz.results270, H2, σo, hle0, hs, .inr hx⟩))
theorem bound_flow_rest_spec {H : Heap} {w : World} {σ : List Ent} {bf bt bl cl : Nat} {s : Syst} {ts lf : List Int} {vl : Value} {sp : List Value} (hs : St H w σ) (hok : s.Ok) (hF : FlowH H bf s ts lf vl bt bl cl sp) (hlt : ts.length = s.lims.length) :
    Cl Tryz.prog 223 [.pointer (some ⟨bf, 0, none⟩)] w fun v w' => ∃ H1 b, HLe H H1 ∧ v = .func (.func 270) #[] #[.pointer (some ⟨b, 0, none⟩)] ∧ ItA Tryz.prog 270 [.pointer (some ⟨b, 0, none⟩)] H1 (resid s.arcs ts) ∧ St H1 w' σ := by
  refine Cl.of Tryz.func223 rfl Tryz.ntmps223 (by simp) (args_cons (k := 0) rfl (args0)) ?_
  refine .regSeq ?_
  refine .o (.box hs rfl rfl ?_); intro b1 w hs
  refine .z zg (.nil (.regSeq ?_))
  refine .q hs (q_makeFunc (f := []) (c := [_]) rfl rfl) ?_
  refine .z zg (.nil ?_)
  refine .ret (Fin.ret1 Tryz.results223 rfl ?_)
  obtain ⟨H1, g1, g2, hs⟩ := hs.publish .here
  exact ⟨H1, b1, g1, rfl, bound_flow_rest_1_iter hok g2 (hF.mono g1) hlt, hs⟩
theorem bound_flow_way_spec {H : Heap} {w : World} {σ : List Ent} {bf bt bl cl to : Nat} {s : Syst} {ts lf : List Int} {vl : Value} {sp : List Value} (hs : St H w σ) (hok : s.Ok) (hF : FlowH H bf s ts lf vl bt bl cl sp) (hlt : ts.length = s.lims.length) (hll : lf.length = s.n)
    (hD : ∃ p, Feas (resid s.arcs ts) p) (hto : to < s.n) (hpos : 0 < gi lf to) :
    Cl Tryz.prog 268 [.pointer (some ⟨bf, 0, none⟩), I to] w fun v w' => ∃ H1 p en, HLe H H1 ∧ OwnS 4 v (Arcs p) en ∧ St H1 w' (en :: σ) ∧ WayR s.n s.arcs ts lf p to := by
  obtain ⟨N, hN⟩ := Int.eq_ofNat_of_zero_le hok.m0
  have hN1 := hok.m1
  have hn : s.n = N + 1 := by simp [Syst.n, hN]
  have hoka := hok.arcs
  have hlen : s.arcs.length = ts.length := by simp [Syst.arcs, arcsOf_length, hlt]
  rw [hn] at hoka hll hto ⊢
  obtain ⟨D, hg⟩ := resid_WG (by omega) (by omega) hoka hlen hD
  have hf0 : cellAt H bf 0 = some (I (N : Int)) := by have := hF.f.at 0 (v := I s.many); rwa [hN] at this
  have hf3 : cellAt H bf 3 = some (.slice (some ⟨bl, 0, none⟩) lf.length cl) := hF.f.at 3
  refine Cl.of Tryz.func268 rfl Tryz.ntmps268 (by simp) (args_cons (k := 0) rfl (args_cons (k := 1) rfl (args0))) ?_
  refine .regSeq ?_
  refine .o (.box hs rfl rfl ?_); intro b2 w hs
  refine .z zg (.nil (.regSeq ?_))
  refine .o (.buildSlice (cells := [_]) hs bls_sl_int_1 rfl rfl ?_); intro b13 w hs
  refine .y hs (zld Tryz.isAgg211) (.z znc (.z (zfa fa_bound_flow_0) (.z (zfa fa_api_System_0) (.y hs (zld Tryz.isAgg3) (.z zadd ?_)))))
  refine .o (.call Tryz.call288 rfl (slices_Repeat_int (z := far) (c := N + 1) hs .here (by omega) (by omega)) ?_); rintro _ w ⟨bc, rfl, hs⟩
  refine .o (.alloc hs Tryz.zeroValue22 rfl ?_); intro b5 w hs
  refine .o (.store hs rfl rfl Tryz.sizeOf22 ?_); intro w hs
  refine .nil (.regSeq (.y hs (zld Tryz.isAgg211) (.z znc (.z (zfa fa_bound_flow_0) (.z (zfa fa_api_System_0) (.y hs (zld Tryz.isAgg3) (.z zadd ?_)))))))
  refine .o (.makeA (N + 1) hs rfl rfl Tryz.runUnderlying182 Tryz.typeInfo189 rfl Tryz.sizeOf189 Tryz.zeroValue189 (by omega) ?_); intro b27 w hs
  refine .o (.alloc hs Tryz.zeroValue182 rfl ?_); intro b6 w hs
  refine .o (.store hs rfl rfl Tryz.sizeOf182 ?_); intro w hs
  refine .nil (.seq (.regSeq (.y hs (zld Tryz.isAgg211) (.z znc (.z (zfa fa_bound_flow_2) (.y hs (zld Tryz.isAgg22) (.z (zlen Tryz.runUnderlying22) (.z zm (.nil ?_)))))))))
  refine .for (N := lf.length) (J := fun k fr w => fr = [(31, .slice (some ⟨bl, 0, none⟩) lf.length cl), (5, .pointer (some ⟨b5, 0, none⟩)), (6, .pointer (some ⟨b6, 0, none⟩)), (2, .pointer (some ⟨b2, 0, none⟩)), (1, I to)] ∧ ∃ st, WInit (N + 1) lf k st ∧   St H w (.blk b6 [.slice (some ⟨b27, 0, none⟩) (N + 1) (N + 1)] :: .blk b27 (Arcs st.by_) :: .blk b5 [.slice (some ⟨bc, 0, none⟩) (N + 1) (N + 1)] :: .blk bc (Is st.cost) :: .blk b2 [.pointer (some ⟨bf, 0, none⟩)] :: σ)) (by omega) ?_ ?_ ?_
  · exact .mk ⟨rfl, _, .start _ _, hs.sub (by repeat (first | exact Sub.refl _ | constructor | apply Sub.weaken))⟩
  · rintro k fr w hk ⟨rfl, st, hI, hs⟩
    have hck : cellAt H bl k = some (I (gi lf k)) := hF.d.at k (Is_get (gi_get hk) sp)
    have hlc := hI.lc
    have hlb := hI.lb
    have hkb : k < st.by_.length := by omega
    refine .block (.regSeq (.z zm ?_))
    first | (refine .ixv hs Tryz.runUnderlying22 Tryz.sizeOf3 ?_; intro b36 o36 hc36) | refine .z (zix Tryz.runUnderlying22 Tryz.sizeOf3) ?_
    refine .q hs (q_loadR rfl Tryz.isAgg3 hck) ?_
    refine .z zg (.z zg (.nil (.regSeq (.z zm (.z zlss (.nil ?_))))))
    refine (.condD rfl (fun hc39 => ?_) (fun hc39 => ?_))
    · refine .regSeq (.y hs (zld Tryz.isAgg22) (.z zm ?_))
      first | (refine .ixv hs Tryz.runUnderlying22 Tryz.sizeOf3 ?_; intro b42 o42 hc42) | refine .z (zix Tryz.runUnderlying22 Tryz.sizeOf3) ?_
      refine .o (.store hs rfl rfl Tryz.sizeOf3 ?_); intro w hs
      refine .nil (.region (.y hs (zld Tryz.isAgg182) (.z zm ?_)))
      first | (refine .ixw hs Tryz.runUnderlying182 Tryz.sizeOf189 ?_; intro b45 o45 hc45) | refine .z (zixm Tryz.runUnderlying182 Tryz.sizeOf189) ?_
      refine .z (zfa fa_bound_step_3) ?_
      refine .o (.store hs rfl rfl Tryz.sizeOf3 ?_ (by repeat constructor) (blt_Arcs hkb (by omega)) (Arcs_set3 hkb _)); intro w hs
      refine .nil ?_
      refine nB (nT ?_)
      exact .mk ⟨rfl, _, hI.take (by omega) hc39, hs⟩
    · refine .skip ?_
      refine nB (nT ?_)
      exact .mk ⟨rfl, _, hI.skip hc39, hs⟩
  · rintro fr w ⟨rfl, st0, hI0, hs⟩
    rw [hll] at hI0
    have hW0 := hI0.inv hg
    refine nT ?_
    refine .seq (.regSeq ?_)
    refine .o (.alloc hs Tryz.zeroValue4 rfl ?_); intro b9 w hs
    refine .o (.store hs rfl rfl Tryz.sizeOf4 ?_); intro w hs
    refine .nil (.block ?_)
    refine .loop (fun p : Nat × List Nat × Heap × BS × Bool => ⟨141, marks p.2.1, [(9, .pointer (some ⟨p.1, 0, none⟩)), (5, .pointer (some ⟨b5, 0, none⟩)), (6, .pointer (some ⟨b6, 0, none⟩)), (2, .pointer (some ⟨b2, 0, none⟩)), (1, I to)]⟩)
      (fun p w => HLe H p.2.2.1 ∧ (∃ j, WInv (N + 1) (resid s.arcs ts) (fun v => gi lf v < 0) D j p.2.2.2.2 p.2.2.2.1 ∧ (p.2.2.2.2 = false → j = (resid s.arcs ts).length)) ∧
        St p.2.2.1 w (.blk p.1 [.bool p.2.2.2.2] :: .blk b6 [.slice (some ⟨b27, 0, none⟩) (N + 1) (N + 1)] :: .blk b27 (Arcs p.2.2.2.1.by_) :: .blk b5 [.slice (some ⟨bc, 0, none⟩) (N + 1) (N + 1)] :: .blk bc (Is p.2.2.2.1.cost) :: .blk b2 [.pointer (some ⟨bf, 0, none⟩)] :: (mes p.2.1 ++ σ)))
      (fun p => 2 * WM (N + 1) D p.2.2.2.1 + (if p.2.2.2.2 = true then 1 else 0)) (b9, [], H, st0, true) (by repeat (first | exact .nil rfl rfl | refine .cons rfl ?_)) ⟨HLe.refl _, ⟨0, hW0, fun h => by cases h⟩, hs⟩ ?_
    rintro ⟨b9, Ds, H1, st, ag⟩ w ⟨hle1, ⟨j, hW, hj⟩, hs⟩
    dsimp only at hle1 hW hj hs ⊢
    have hlc := hW.lc
    have hlb := hW.lb
    refine .seq (.regSeq (.y hs (zld Tryz.isAgg4) (.nil ?_)))
    refine (.cond rfl (fun hc48 => ?_) (fun hc48 => ?_))
    · refine .skip ?_
      refine nT ?_
      refine .seq (.block (.regSeq ?_))
      subst hc48
      refine .o (.store hs rfl rfl Tryz.sizeOf4 ?_); intro w hs
      refine .nil (.regSeq (.y hs (zld Tryz.isAgg211) ?_))
      refine .o (.call Tryz.call223 rfl (bound_flow_rest_spec hs hok (hF.mono hle1) hlt) ?_); rintro _ w ⟨H2, b50, hle2, rfl, hit, hs⟩
      refine .nil (.block ?_)
      refine .rangeFunc (gf := 270) (cap := [.pointer (some ⟨b50, 0, none⟩)]) (xs := (resid s.arcs ts).map fun x : Arc => [Value.agg x.v.toArray])
        (σb := [.blk b9 [.bool false], .blk b6 [.slice (some ⟨b27, 0, none⟩) (N + 1) (N + 1)], .blk b27 (Arcs st.by_), .blk b5 [.slice (some ⟨bc, 0, none⟩) (N + 1) (N + 1)], .blk bc (Is st.cost), .blk b2 [.pointer (some ⟨bf, 0, none⟩)]]) (σf := mes Ds ++ σ) hs trivial rfl hit Tryz.call270 (by simp) rfl
        (I := fun k H' σb => HLe H2 H' ∧ ∃ st' ag, σb = [.blk b9 [.bool ag], .blk b6 [.slice (some ⟨b27, 0, none⟩) (N + 1) (N + 1)], .blk b27 (Arcs st'.by_), .blk b5 [.slice (some ⟨bc, 0, none⟩) (N + 1) (N + 1)], .blk bc (Is st'.cost), .blk b2 [.pointer (some ⟨bf, 0, none⟩)]] ∧
          WInv (N + 1) (resid s.arcs ts) (fun v => gi lf v < 0) D k ag st' ∧ WM (N + 1) D st' ≤ WM (N + 1) D st ∧ (ag = true → WM (N + 1) D st' < WM (N + 1) D st)) (Ix := fun _ _ _ => False)
        (by rintro k _ _ σ g1 ⟨g2, g3⟩; exact ⟨g2.trans g1, g3⟩) (fun _ _ _ _ _ h => h) ⟨HLe.refl _, st, false, rfl, hW.next, Nat.le_refl _, fun h => by cases h⟩ ?_ ?_ (fun D c H' σb w _ h _ => h.elim)
      · rintro l k hk H3 σb3 σf3 w hle3 ⟨hle23, st', ag, rfl, hW', hm1, hm2⟩ hs ⟨rr, hrr⟩
        obtain ⟨x, hx⟩ := nth (l := resid s.arcs ts) (by simpa using hk)
        obtain ⟨c1, c2, c3, c4, c5, c6⟩ := hg.ok x (List.mem_of_getElem? hx)
        rw [map_at hx]
        have hlc' := hW'.lc
        have hlb' := hW'.lb
        have lo1 := hW'.lo x.f c1
        have lo2 := hg.d1 x.f c1
        have hx3 : cellAt H3 bl x.t = some (I (gi lf x.t)) := ((hF.mono (hle1.trans (hle2.trans hle3))).d).at x.t (Is_get (gi_get (by omega)) sp)
        have hf33 : cellAt H3 bf 3 = some (.slice (some ⟨bl, 0, none⟩) lf.length cl) := cellAt.mono hf3 (hle1.trans (hle2.trans hle3))
        refine .region ?_
        refine .o (.alloc hs Tryz.zeroValue189 rfl ?_); intro b10 w hs
        refine .o (.stores (vs := x.v) hs rfl rfl Tryz.sizeOf189 ?_); intro w hs
        refine .nil ?_
        refine nT ?_
        refine ⟨H3, [.blk b10 x.v, .blk b9 [.bool ag], .blk b6 [.slice (some ⟨b27, 0, none⟩) (N + 1) (N + 1)], .blk b27 (Arcs st'.by_), .blk b5 [.slice (some ⟨bc, 0, none⟩) (N + 1) (N + 1)], .blk bc (Is st'.cost), .blk b2 [.pointer (some ⟨bf, 0, none⟩)]], HLe.refl _, hs, ?_⟩; rintro w σf4 - hs
        refine .block ?_
        refine .seq (.draw mix rfl hs ?_); intro w hs
        refine .y 0 rfl hs Tryz.isAgg22 ?_; refine .z 1 rfl (zfa fa_bound_step_0) ?_; refine .y 2 rfl hs Tryz.isAgg3 ?_
        first | (refine .ixv 3 rfl hs Tryz.runUnderlying22 Tryz.sizeOf3 ?_; intro b55 o55 hc55) | refine .z 3 rfl (zix Tryz.runUnderlying22 Tryz.sizeOf3) ?_
        refine .y 4 rfl hs Tryz.isAgg3 ?_; refine .z 5 rfl zlss ?_; refine .z 6 rfl zm ?_
        refine .bifD (t' := 58) rfl (fun hb58 => ?_) (fun hb58 => ?_)
        · refine .y 7 rfl hs Tryz.isAgg22 ?_; refine .z 8 rfl (zfa fa_bound_step_0) ?_; refine .y 9 rfl hs Tryz.isAgg3 ?_
          first | (refine .ixv 10 rfl hs Tryz.runUnderlying22 Tryz.sizeOf3 ?_; intro b62 o62 hc62) | refine .z 10 rfl (zix Tryz.runUnderlying22 Tryz.sizeOf3) ?_
          refine .y 11 rfl hs Tryz.isAgg3 ?_; refine .z 12 rfl (zfa fa_bound_step_2) ?_; refine .y 13 rfl hs Tryz.isAgg3 ?_; refine .z 14 rfl zadd ?_; refine .y 15 rfl hs Tryz.isAgg22 ?_; refine .z 16 rfl (zfa fa_bound_step_1) ?_; refine .y 17 rfl hs Tryz.isAgg3 ?_
          first | (refine .ixv 18 rfl hs Tryz.runUnderlying22 Tryz.sizeOf3 ?_; intro b70 o70 hc70) | refine .z 18 rfl (zix Tryz.runUnderlying22 Tryz.sizeOf3) ?_
          refine .y 19 rfl hs Tryz.isAgg3 ?_; refine .z 20 rfl zlss ?_; refine .z 21 rfl zpT ?_; refine .z 22 rfl zm ?_
          refine .bifD (t' := 74) rfl (fun hb74 => ?_) (fun hb74 => ?_)
          · refine .y 23 rfl hs Tryz.isAgg211 ?_; refine .z 24 rfl znc ?_; refine .z 25 rfl (zfa fa_bound_flow_2) ?_; refine .y 26 rfl hs Tryz.isAgg22 ?_; refine .z 27 rfl (zfa fa_bound_step_1) ?_; refine .y 28 rfl hs Tryz.isAgg3 ?_
            first | (refine .ixv 29 rfl hs Tryz.runUnderlying22 Tryz.sizeOf3 ?_; intro b81 o81 hc81) | refine .z 29 rfl (zix Tryz.runUnderlying22 Tryz.sizeOf3) ?_
            refine .y 30 rfl hs Tryz.isAgg3 ?_; refine .z 31 rfl zgeq ?_; refine .z 32 rfl zm ?_
            refine .bifD (t' := 84) rfl (fun hb84 => ?_) (fun hb84 => ?_)
            · refine .qF (i := 33) rfl (by kernel_rfl) rfl rfl ?_
              refine .qF (i := 34) rfl (by kernel_rfl) rfl rfl ?_
              refine .qF (i := 35) rfl (by kernel_rfl) rfl rfl ?_
              refine .qF (i := 36) rfl (by kernel_rfl) rfl rfl ?_
              refine .qF (i := 37) rfl (by kernel_rfl) rfl rfl ?_
              refine .qF (i := 38) rfl (by kernel_rfl) rfl rfl ?_
              refine .qF (i := 39) rfl (by kernel_rfl) rfl rfl ?_
              refine .qF (i := 40) rfl (by kernel_rfl) rfl rfl ?_
              refine .qF (i := 41) rfl (by kernel_rfl) rfl rfl ?_
              refine .z 42 rfl zpT ?_; refine .z 43 rfl zpT ?_; refine .done (by kernel_rfl) hs ?_
              refine (.condT rfl rfl ?_)
              refine .draw mix rfl hs ?_; intro w hs
              refine .y 0 rfl hs Tryz.isAgg22 ?_; refine .z 1 rfl (zfa fa_bound_step_1) ?_; refine .y 2 rfl hs Tryz.isAgg3 ?_; refine .y 3 rfl hs Tryz.isAgg182 ?_; refine .z 4 rfl (zfa fa_bound_step_1) ?_; refine .y 5 rfl hs Tryz.isAgg3 ?_; refine .y 6 rfl hs Tryz.isAgg22 ?_; refine .z 7 rfl (zfa fa_bound_step_0) ?_; refine .y 8 rfl hs Tryz.isAgg3 ?_
              first | (refine .ixv 9 rfl hs Tryz.runUnderlying22 Tryz.sizeOf3 ?_; intro b105 o105 hc105) | refine .z 9 rfl (zix Tryz.runUnderlying22 Tryz.sizeOf3) ?_
              refine .y 10 rfl hs Tryz.isAgg3 ?_; refine .z 11 rfl (zfa fa_bound_step_2) ?_; refine .y 12 rfl hs Tryz.isAgg3 ?_; refine .z 13 rfl zadd ?_
              refine .loads (i := 14) (vs := x.v) hs rfl (by kernel_rfl) .none rfl Tryz.isAgg189 Tryz.sizeOf189 ?_
              first | (refine .ixv 15 rfl hs Tryz.runUnderlying22 Tryz.sizeOf3 ?_; intro b111 o111 hc111) | refine .z 15 rfl (zix Tryz.runUnderlying22 Tryz.sizeOf3) ?_
              refine .e1 (i := 16) (by kernel_rfl) rfl rfl .none hs ?_
              refine .store hs rfl rfl Tryz.sizeOf3 ?_; intro w hs
              refine .go ?_
              first | (refine .ixw 17 rfl hs Tryz.runUnderlying182 Tryz.sizeOf189 ?_; intro b112 o112 hc112) | refine .z 17 rfl (zixm Tryz.runUnderlying182 Tryz.sizeOf189) ?_
              refine .e1 (i := 18) (by kernel_rfl) rfl rfl .none hs ?_
              refine .stores (vs := x.v) hs rfl rfl Tryz.sizeOf189 ?_; intro w hs
              refine .go ?_
              refine .e1 (i := 19) (by kernel_rfl) rfl rfl .none hs ?_
              refine .store hs rfl rfl Tryz.sizeOf4 ?_; intro w hs
              refine .go ?_
              refine .done (by kernel_rfl) hs ?_
              refine nB ?_
              have := hW'.less hg hx hb58 hb74
              exact ⟨H3, _, HLe.refl _, hs.tail, hle23, st'.rlx x, true, rfl, hW'.relax hg hx hb58 hb74, by omega, fun _ => by omega⟩
            · refine .y 33 rfl hs Tryz.isAgg22 ?_; refine .z 34 rfl (zfa fa_bound_step_0) ?_; refine .y 35 rfl hs Tryz.isAgg3 ?_
              first | (refine .ixv 36 rfl hs Tryz.runUnderlying22 Tryz.sizeOf3 ?_; intro b88 o88 hc88) | refine .z 36 rfl (zix Tryz.runUnderlying22 Tryz.sizeOf3) ?_
              refine .y 37 rfl hs Tryz.isAgg3 ?_; refine .z 38 rfl (zfa fa_bound_step_2) ?_; refine .y 39 rfl hs Tryz.isAgg3 ?_; refine .z 40 rfl zadd ?_; refine .z 41 rfl zlss ?_; refine .z 42 rfl zpF ?_; refine .z 43 rfl zpT ?_; refine .done (by kernel_rfl) hs ?_
              refine (.condD rfl (fun hc95 => ?_) (fun hc95 => ?_))
              · refine .draw mix rfl hs ?_; intro w hs
                refine .y 0 rfl hs Tryz.isAgg22 ?_; refine .z 1 rfl (zfa fa_bound_step_1) ?_; refine .y 2 rfl hs Tryz.isAgg3 ?_; refine .y 3 rfl hs Tryz.isAgg182 ?_; refine .z 4 rfl (zfa fa_bound_step_1) ?_; refine .y 5 rfl hs Tryz.isAgg3 ?_; refine .y 6 rfl hs Tryz.isAgg22 ?_; refine .z 7 rfl (zfa fa_bound_step_0) ?_; refine .y 8 rfl hs Tryz.isAgg3 ?_
                first | (refine .ixv 9 rfl hs Tryz.runUnderlying22 Tryz.sizeOf3 ?_; intro b105 o105 hc105) | refine .z 9 rfl (zix Tryz.runUnderlying22 Tryz.sizeOf3) ?_
                refine .y 10 rfl hs Tryz.isAgg3 ?_; refine .z 11 rfl (zfa fa_bound_step_2) ?_; refine .y 12 rfl hs Tryz.isAgg3 ?_; refine .z 13 rfl zadd ?_
                refine .loads (i := 14) (vs := x.v) hs rfl (by kernel_rfl) .none rfl Tryz.isAgg189 Tryz.sizeOf189 ?_
                first | (refine .ixv 15 rfl hs Tryz.runUnderlying22 Tryz.sizeOf3 ?_; intro b111 o111 hc111) | refine .z 15 rfl (zix Tryz.runUnderlying22 Tryz.sizeOf3) ?_
                refine .e1 (i := 16) (by kernel_rfl) rfl rfl .none hs ?_
                refine .store hs rfl rfl Tryz.sizeOf3 ?_; intro w hs
                refine .go ?_
                first | (refine .ixw 17 rfl hs Tryz.runUnderlying182 Tryz.sizeOf189 ?_; intro b112 o112 hc112) | refine .z 17 rfl (zixm Tryz.runUnderlying182 Tryz.sizeOf189) ?_
                refine .e1 (i := 18) (by kernel_rfl) rfl rfl .none hs ?_
                refine .stores (vs := x.v) hs rfl rfl Tryz.sizeOf189 ?_; intro w hs
                refine .go ?_
                refine .e1 (i := 19) (by kernel_rfl) rfl rfl .none hs ?_
                refine .store hs rfl rfl Tryz.sizeOf4 ?_; intro w hs
                refine .go ?_
                refine .done (by kernel_rfl) hs ?_
                refine nB ?_
                have := hW'.less hg hx hb58 hb74
                exact ⟨H3, _, HLe.refl _, hs.tail, hle23, st'.rlx x, true, rfl, hW'.relax hg hx hb58 hb74, by omega, fun _ => by omega⟩
              · refine .skip ?_
                refine nB ?_
                have := hW'.src x.t c2 (by omega)
                omega
          · refine .qF (i := 23) rfl (by kernel_rfl) rfl rfl ?_
            refine .qF (i := 24) rfl (by kernel_rfl) rfl rfl ?_
            refine .qF (i := 25) rfl (by kernel_rfl) rfl rfl ?_
            refine .qF (i := 26) rfl (by kernel_rfl) rfl rfl ?_
            refine .qF (i := 27) rfl (by kernel_rfl) rfl rfl ?_
            refine .qF (i := 28) rfl (by kernel_rfl) rfl rfl ?_
            refine .qF (i := 29) rfl (by kernel_rfl) rfl rfl ?_
            refine .qF (i := 30) rfl (by kernel_rfl) rfl rfl ?_
            refine .qF (i := 31) rfl (by kernel_rfl) rfl rfl ?_
            refine .qF (i := 32) rfl (by kernel_rfl) rfl rfl ?_
            refine .qF (i := 33) rfl (by kernel_rfl) rfl rfl ?_
            refine .qF (i := 34) rfl (by kernel_rfl) rfl rfl ?_
            refine .qF (i := 35) rfl (by kernel_rfl) rfl rfl ?_
            refine .qF (i := 36) rfl (by kernel_rfl) rfl rfl ?_
            refine .qF (i := 37) rfl (by kernel_rfl) rfl rfl ?_
            refine .qF (i := 38) rfl (by kernel_rfl) rfl rfl ?_
            refine .qF (i := 39) rfl (by kernel_rfl) rfl rfl ?_
            refine .qF (i := 40) rfl (by kernel_rfl) rfl rfl ?_
            refine .qF (i := 41) rfl (by kernel_rfl) rfl rfl ?_
            refine .qF (i := 42) rfl (by kernel_rfl) rfl rfl ?_
            refine .z 43 rfl zpF ?_; refine .done (by kernel_rfl) hs ?_
            refine (.condF rfl rfl ?_)
            refine .skip ?_
            refine nB ?_
            exact ⟨H3, _, HLe.refl _, hs.tail, hle23, st', ag, rfl, hW'.skip hx (fun h => hb74 h.2), hm1, hm2⟩
        · refine .qF (i := 7) rfl (by kernel_rfl) rfl rfl ?_
          refine .qF (i := 8) rfl (by kernel_rfl) rfl rfl ?_
          refine .qF (i := 9) rfl (by kernel_rfl) rfl rfl ?_
          refine .qF (i := 10) rfl (by kernel_rfl) rfl rfl ?_
          refine .qF (i := 11) rfl (by kernel_rfl) rfl rfl ?_
          refine .qF (i := 12) rfl (by kernel_rfl) rfl rfl ?_
          refine .qF (i := 13) rfl (by kernel_rfl) rfl rfl ?_
          refine .qF (i := 14) rfl (by kernel_rfl) rfl rfl ?_
          refine .qF (i := 15) rfl (by kernel_rfl) rfl rfl ?_
          refine .qF (i := 16) rfl (by kernel_rfl) rfl rfl ?_
          refine .qF (i := 17) rfl (by kernel_rfl) rfl rfl ?_
          refine .qF (i := 18) rfl (by kernel_rfl) rfl rfl ?_
          refine .qF (i := 19) rfl (by kernel_rfl) rfl rfl ?_
          refine .qF (i := 20) rfl (by kernel_rfl) rfl rfl ?_
          refine .z 21 rfl zpF ?_; refine .z 22 rfl zm ?_
          refine .qF (i := 23) rfl (by kernel_rfl) rfl rfl ?_
          refine .qF (i := 24) rfl (by kernel_rfl) rfl rfl ?_
          refine .qF (i := 25) rfl (by kernel_rfl) rfl rfl ?_
          refine .qF (i := 26) rfl (by kernel_rfl) rfl rfl ?_
          refine .qF (i := 27) rfl (by kernel_rfl) rfl rfl ?_
          refine .qF (i := 28) rfl (by kernel_rfl) rfl rfl ?_
          refine .qF (i := 29) rfl (by kernel_rfl) rfl rfl ?_
          refine .qF (i := 30) rfl (by kernel_rfl) rfl rfl ?_
          refine .qF (i := 31) rfl (by kernel_rfl) rfl rfl ?_
          refine .qF (i := 32) rfl (by kernel_rfl) rfl rfl ?_
          refine .qF (i := 33) rfl (by kernel_rfl) rfl rfl ?_
          refine .qF (i := 34) rfl (by kernel_rfl) rfl rfl ?_
          refine .qF (i := 35) rfl (by kernel_rfl) rfl rfl ?_
          refine .qF (i := 36) rfl (by kernel_rfl) rfl rfl ?_
          refine .qF (i := 37) rfl (by kernel_rfl) rfl rfl ?_
          refine .qF (i := 38) rfl (by kernel_rfl) rfl rfl ?_
          refine .qF (i := 39) rfl (by kernel_rfl) rfl rfl ?_
          refine .qF (i := 40) rfl (by kernel_rfl) rfl rfl ?_
          refine .qF (i := 41) rfl (by kernel_rfl) rfl rfl ?_
          refine .qF (i := 42) rfl (by kernel_rfl) rfl rfl ?_
          refine .z 43 rfl zpF ?_; refine .done (by kernel_rfl) hs ?_
          refine (.condF rfl rfl ?_)
          refine .skip ?_
          refine nB ?_
          exact ⟨H3, _, HLe.refl _, hs.tail, hle23, st', ag, rfl, hW'.skip hx (fun h => hb58 h.1), hm1, hm2⟩
      · rintro D3 H3 σb3 w hle3 ⟨hle23, st', ag, rfl, hW', hm1, hm2⟩ hs
        replace hs : St H3 w (.blk b9 [.bool ag] :: .blk b6 [.slice (some ⟨b27, 0, none⟩) (N + 1) (N + 1)] :: .blk b27 (Arcs st'.by_) :: .blk b5 [.slice (some ⟨bc, 0, none⟩) (N + 1) (N + 1)] :: .blk bc (Is st'.cost) :: .blk b2 [.pointer (some ⟨bf, 0, none⟩)] :: (mes (D3 :: Ds) ++ σ)) := St.deep (σ1 := [_, _, _, _, _, _]) hs
        rw [List.length_map] at hW'
        refine nB (nB (nT ?_))
        refine .regSeq (.y hs (zld Tryz.isAgg4) (.nil (.region ?_)))
        refine .o (.alloc hs Tryz.zeroValue4 rfl ?_); intro b9 w hs
        refine .o (.store hs rfl rfl Tryz.sizeOf4 ?_); intro w hs
        refine .nil ?_
        refine nT ?_
        exact ⟨(b9, D3 :: Ds, H3, st', ag), by repeat (first | exact .nil rfl rfl | refine .cons rfl ?_), ⟨hle1.trans (hle2.trans hle3), ⟨_, hW', fun _ => rfl⟩, hs.sub (by repeat (first | exact Sub.refl _ | constructor | apply Sub.weaken))⟩, by
            dsimp only
            cases ag with
            | false => simp; omega
            | true => have := hm2 rfl; simp; omega⟩
    · refine .exit ?_
      refine xT (xT (xB (nT ?_)))
      refine .seq (.regSeq ?_)
      subst hc48
      obtain rfl := hj rfl
      refine .y hs (zld Tryz.isAgg22) (.z zm ?_)
      first | (refine .ixv hs Tryz.runUnderlying22 Tryz.sizeOf3 ?_; intro b116 o116 hc116) | refine .z (zix Tryz.runUnderlying22 Tryz.sizeOf3) ?_
      refine .y hs (zld Tryz.isAgg3) (.z zeql (.nil ?_))
      refine (.condD rfl (fun hc118 => ?_) (fun hc118 => ?_))
      · refine .regSeq (.z zg (.nil ?_))
        refine .ret (rT (?_))
        refine Fin.retD Ds [_, _, _, _, _, _] hs fun w hs => ⟨_, results1 Tryz.results268 rfl, H1, [], .nul, hle1, .nil 4 none, (hs.sub (by repeat (first | exact Sub.refl _ | constructor | apply Sub.weaken))).nul, hW.none hg hc118⟩
      · refine .skip ?_
        refine nT ?_
        refine .regSeq (.z zg (.nil (.seq (.regSeq (.z zm (.z zg (.nil (.block ?_))))))))
        have hreach : gi st.cost to < far := by have := hW.top to hto; have e : far = 1152921504606846976 := rfl; omega
        obtain ⟨kk, cc, u, hbk, hroot, hkn, hk0, hcl, hway⟩ := hW.back hg hto hreach hpos
        refine .loop (fun p : Nat × Nat × Value × Ent => ⟨141, marks Ds, [(11, p.2.2.1), (12, I p.2.1), (6, .pointer (some ⟨b6, 0, none⟩))]⟩)
          (fun p w => p.1 ≤ kk ∧ (p.2.1 < N + 1 ∧ gi st.cost p.2.1 < far) ∧ OwnS 4 p.2.2.1 (Arcs (trail st.by_ to p.1)) p.2.2.2 ∧ (∃ d, Back st.by_ to p.1 d p.2.1) ∧ (∃ d, Back st.by_ p.2.1 (kk - p.1) d u) ∧
            St H1 w (p.2.2.2 :: .blk b9 [.bool false] :: .blk b6 [.slice (some ⟨b27, 0, none⟩) (N + 1) (N + 1)] :: .blk b27 (Arcs st.by_) :: .blk b5 [.slice (some ⟨bc, 0, none⟩) (N + 1) (N + 1)] :: .blk bc (Is st.cost) :: .blk b2 [.pointer (some ⟨bf, 0, none⟩)] :: (mes Ds ++ σ)))
          (fun p => kk - p.1) (0, to, .slice none 0 0, .nul) (by repeat (first | exact .nil rfl rfl | refine .cons rfl ?_)) ⟨Nat.zero_le _, ⟨hto, hreach⟩, .nil 4 none, ⟨0, .nil⟩, ⟨cc, hbk⟩, hs.nul⟩ ?_
        rintro ⟨i, v, v11, en⟩ w ⟨hik, ⟨hv1, hv2⟩, hO, ⟨d1, hb1⟩, ⟨d2, hb2⟩, hs⟩
        dsimp only at hik hv1 hv2 hO hb1 hb2 hs ⊢
        have hvb : v < st.by_.length := by omega
        refine .seq (.regSeq (.y hs (zld Tryz.isAgg182) (.z zm ?_)))
        first | (refine .ixw hs Tryz.runUnderlying182 Tryz.sizeOf189 ?_; intro b122 o122 hc122) | refine .z (zixm Tryz.runUnderlying182 Tryz.sizeOf189) ?_
        refine .z (zfa fa_bound_step_3) ?_
        refine .q hs (q_load rfl Tryz.isAgg3 (hv := (Arcs_get hvb (j := 3) (by omega)).trans rfl)) ?_
        refine .z zgeq (.nil ?_)
        refine (.condD rfl (fun hc125 => ?_) (fun hc125 => ?_))
        · refine .skip ?_
          refine nT ?_
          refine .seq (.block (.region (.z zm (.y hs (zld Tryz.isAgg182) (.z zm ?_)))))
          first | (refine .ixw hs Tryz.runUnderlying182 Tryz.sizeOf189 ?_; intro b134 o134 hc134) | refine .z (zixm Tryz.runUnderlying182 Tryz.sizeOf189) ?_
          refine .q hs (q_loads (vs := (ga st.by_ v).v) rfl Tryz.isAgg189 Tryz.sizeOf189 (hv := Arcs_sub hvb)) ?_
          refine .o (.buildSlice (cells := (ga st.by_ v).v) hs bls_sl_bound_step_1 rfl rfl ?_); intro b136 w hs
          refine .o (.append (ys := (ga st.by_ v).v) hs app_sl_bound_step_bound_step rfl rfl hO (.own .here rfl rfl) (by simp [Arc.v, Value.oneCell']) (fun l h => by rw [Arcs_length, trail_length] at h; omega) ?_); intro v137 en137 w hO2 hs
          refine .z zg (.nil ?_)
          refine nB (nT ?_)
          refine .region (.y hs (zld Tryz.isAgg182) (.z zm ?_))
          first | (refine .ixw hs Tryz.runUnderlying182 Tryz.sizeOf189 ?_; intro b128 o128 hc128) | refine .z (zixm Tryz.runUnderlying182 Tryz.sizeOf189) ?_
          refine .z (zfa fa_bound_step_0) ?_
          refine .q hs (q_load rfl Tryz.isAgg3 (hv := (Arcs_get hvb (j := 0) (by omega)).trans rfl)) ?_
          refine .z zg (.nil ?_)
          refine nT ?_
          obtain ⟨g1, g2⟩ := hcl v hv1 hv2 hc125
          obtain ⟨m, hm⟩ : ∃ m, kk - i = m + 1 := by
            refine ⟨kk - i - 1, ?_⟩
            rcases Nat.lt_or_ge i kk with h | h
            · omega
            · obtain e : kk - i = 0 := by omega
              rw [e] at hb2
              cases hb2
              omega
          rw [hm] at hb2
          obtain ⟨d3, hb3⟩ : ∃ d, Back st.by_ (ga st.by_ v).f m d u := by cases hb2 with | cons _ t => exact ⟨_, t⟩
          rw [← Arcs_snoc, ← trail_succ hb1] at hO2
          exact ⟨(i + 1, (ga st.by_ v).f, v137, en137), by repeat (first | exact .nil rfl rfl | refine .cons rfl ?_), ⟨by dsimp only; omega, ⟨g1, g2⟩, hO2, ⟨_, hb1.trans (.cons hc125 .nil)⟩, ⟨d3, by rw [show kk - (i + 1) = m by omega]; exact hb3⟩, hs.sub (by repeat (first | exact Sub.refl _ | constructor | apply Sub.weaken))⟩, by dsimp only; omega⟩
        · refine .exit ?_
          refine xT (xT (xB (nT ?_)))
          refine .regSeq ?_
          obtain rfl : i = kk := by
            rcases Nat.lt_or_ge i kk with h | h
            · obtain ⟨m, hm⟩ : ∃ m, kk - i = m + 1 := ⟨kk - i - 1, by omega⟩
              rw [hm] at hb2
              cases hb2 with
              | cons hl _ => omega
            · omega
          refine .z zm ?_
          refine .o (.call Tryz.call289 rfl (slices_Reverse_step hs hO (by rw [trail_length]; omega)) ?_); rintro v139 w ⟨en', hO', hs⟩
          refine .nil (.regSeq (.z zm (.z zg (.nil ?_))))
          refine .ret ?_
          refine Fin.retD Ds [_, _, _, _, _, _, _] hs fun w hs => ⟨_, results1 Tryz.results268 rfl, H1, _, en', hle1, hO', hs.sub (by repeat (first | exact Sub.refl _ | constructor | apply Sub.weaken)), hway _ rfl⟩
end Go.Proofs.YtddaejgfjlneoaaGreat

namespace Go.Proofs.YtddaejgfjlneoaaGreat
open Go.MW
theorem OfEs_lim {s : Syst} {x : Arc} (hok : s.Ok) (hx : OfEs s.arcs x) : ∃ (i : Nat) (l : Lim), s.lims[i]? = some l ∧ x.l = (i : Int) ∧ (l.A = (x.f : Int) ↔ fwd s.arcs x) ∧ i < s.lims.length := by
  obtain ⟨i, y, h1, h2⟩ := hx
  have hl := arcsOf_l h1
  have hlt : i < s.lims.length := by have := (List.getElem?_eq_some_iff.1 h1).1; simpa [Syst.arcs, arcsOf_length] using this
  obtain ⟨l, hl2⟩ := nth hlt
  have h3 := arcsOf_get hl2
  have h1' : (arcsOf s.lims)[i]? = some y := h1
  rw [h3] at h1'
  cases h1'
  obtain ⟨a1, a2, _⟩ := hok.arc (List.mem_of_getElem? hl2) i
  refine ⟨i, l, hl2, ?_, ?_, hlt⟩
  · rcases h2 with rfl | rfl <;> rfl
  · have hg : ga s.arcs i = l.arc i := by simp [ga, Syst.arcs, h3]
    have hxl : x.l.toNat = i := by rcases h2 with rfl | rfl <;> rfl
    unfold fwd
    rw [hxl, hg, ← a1]
    exact ⟨fun e => by exact_mod_cast e, fun e => by exact_mod_cast e⟩
theorem bound_flow_along_spec {H : Heap} {w : World} {σ : List Ent} {bf : Nat} {s : Syst} {vl vt vd : Value} {x : Arc} (hs : St H w σ) (hok : s.Ok) (hf : Row H bf [I s.many, vl, vt, vd]) (hl : RL H vl s.lims) (hx : OfEs s.arcs x) :
    Cl Tryz.prog 290 [.pointer (some ⟨bf, 0, none⟩), .agg x.v.toArray] w fun v w' => v = .bool (decide (fwd s.arcs x)) ∧ St H w' σ := by
  obtain ⟨i, l, hl1, hxl, hfw, hil⟩ := OfEs_lim hok hx
  have hf1 : cellAt H bf 1 = some vl := hf.at 1
  refine Cl.of Tryz.func290 rfl Tryz.ntmps290 (by simp) (args_cons (k := 0) rfl (args_cons (k := 1) rfl (args0))) ?_
  refine .regSeq ?_
  refine .o (.box hs rfl rfl ?_); intro b3 w hs
  refine .z zg (.nil ?_)
  refine .seq (.draw mix rfl hs ?_); intro w hs
  refine .z 0 rfl zm ?_; refine .z 1 rfl znc ?_; refine .z 2 rfl (zfa fa_bound_flow_0) ?_; refine .z 3 rfl (zfa fa_api_System_1) ?_; refine .y 4 rfl hs Tryz.isAgg68 ?_; refine .z 5 rfl (zfa fa_bound_step_3) ?_; refine .y 6 rfl hs Tryz.isAgg3 ?_
  refine .ixX (i := 7) hs rfl (by kernel_rfl) .none hl rfl rfl Tryz.runUnderlying68 Tryz.sizeOf160 hl1 hxl ?_; intro b12 o12 hc12
  have hA : cellAt H b12 o12 = some (I l.A) := hc12.get 0 rfl
  refine .z 8 rfl (zfa fa_api_Limit_0) ?_; refine .y 9 rfl hs Tryz.isAgg3 ?_; refine .z 10 rfl (zfa fa_bound_step_0) ?_; refine .y 11 rfl hs Tryz.isAgg3 ?_; refine .z 12 rfl zeql ?_; refine .z 13 rfl zg ?_; refine .done (by kernel_rfl) hs ?_
  refine .ret (Fin.ret1 Tryz.results290 rfl ?_)
  exact ⟨by simp only [decide_eq_decide.2 hfw], hs.out⟩
theorem bound_flow_send_spec {H : Heap} {w : World} {σ : List Ent} {bf bt bl cl u v : Nat} {s : Syst} {ts lf : List Int} {wt : Nat → Int} {vl vp : Value} {sp : List Value} {p : List Arc} (hs : St H w (.blk bt (Is ts) :: .blk bl (Is lf ++ sp) :: σ)) (hok : s.Ok)
    (hf : Row H bf [I s.many, vl, .slice (some ⟨bt, 0, none⟩) ts.length ts.length, .slice (some ⟨bl, 0, none⟩) lf.length cl]) (hl : RL H vl s.lims) (hp : RS H 4 vp (p.map Arc.v)) (hI : FInv s.n s.arcs wt ts lf) (hw : WayP s.arcs ts lf s.n p u v) (hpn : p ≠ []) (hpl : p.length < s.n) :
    Cl Tryz.prog 269 [.pointer (some ⟨bf, 0, none⟩), vp] w fun _ w' => St H w' (.blk bt (Is (pushes s.arcs (much s.arcs ts lf p u v) ts p)) :: .blk bl (Is (lfTo lf (much s.arcs ts lf p u v) u v) ++ sp) :: σ) := by
  have hN1 := hok.m1
  have hn65 : s.n ≤ 65 := by simp only [Syst.n]; have := hok.m0; omega
  have hnum : Numb s.arcs := fun i x hx => ⟨arcsOf_l hx, (hok.arcs.2 x (List.mem_of_getElem? hx)).2.2.2.2.2⟩
  have hlt := hI.lt
  have hll := hI.ll
  obtain ⟨m0, m1, m2, m3⟩ := much_pos hlt.symm hnum hw
  have hsu := hI.sg u hw.un
  have hsv := hI.sg v hw.vn
  have hun : u < lf.length := by rw [hll]; exact hw.un
  have hvn : v < lf.length := by rw [hll]; exact hw.vn
  obtain ⟨a, cap, hvp⟩ := hp.shape
  rw [List.length_map] at hvp
  subst hvp
  have hp0 : 0 < p.length := List.length_pos_iff.2 hpn
  obtain ⟨x0, hx0⟩ := nth hp0
  obtain ⟨x1, hx1⟩ := nth (l := p) (k := p.length - 1) (by omega)
  have hh := hw.ch.head hx0
  have hla := hw.ch.last hx1
  have hf2 : cellAt H bf 2 = some (.slice (some ⟨bt, 0, none⟩) ts.length ts.length) := hf.at 2
  have hf3 : cellAt H bf 3 = some (.slice (some ⟨bl, 0, none⟩) lf.length cl) := hf.at 3
  have hix : ∀ x ∈ p, OfEs s.arcs x ∧ x.l.toNat < ts.length ∧ x.l = (x.l.toNat : Int) := fun x hx => by
    obtain ⟨g1, g2, _⟩ := of_resid hlt.symm hnum (hw.mem x hx)
    obtain ⟨i, l, _, g3, _⟩ := OfEs_lim hok g1
    exact ⟨g1, g2, by rw [g3]; simp⟩
  simp only [FF] at hsu hsv
  have huv : v ≠ u := fun e => by have := hw.lu; have := hw.lv; rw [e] at *; omega
  have htt : ∀ i < ts.length, 0 ≤ gi ts i ∧ gi ts i ≤ 3600000000000 := fun i hi => by
    have h1 := hI.nn i (by omega)
    have h2 := hI.tb i (by omega)
    have h3 : 0 ≤ rem s.n lf := sumTo_nonneg fun v _ => by omega
    simp only [FF] at h2
    omega
  have hM : much s.arcs ts lf p u v = least s.arcs ts (min (-gi lf u) (gi lf v)) p := rfl
  generalize much s.arcs ts lf p u v = M at *
  have hgv : gi (lf.set u (gi lf u + M)) v = gi lf v := by rw [gi_set hun, if_neg huv]
  refine Cl.of Tryz.func269 rfl Tryz.ntmps269 (by simp) (args_cons (k := 0) rfl (args_cons (k := 1) rfl (args0))) ?_
  refine .seq (.draw mix rfl hs ?_); intro w hs
  refine .z 0 rfl zm ?_
  refine .ixX (i := 1) hs rfl (by kernel_rfl) .none hp rfl rfl Tryz.runUnderlying182 Tryz.sizeOf189 hx0 rfl ?_; intro b12 o12 hc12
  have h14 : cellAt H b12 (o12 + 0) = some (I u) := by rw [← hh]; exact hc12.get 0 rfl
  refine .z 2 rfl (zfa fa_bound_step_0) ?_; refine .y 3 rfl hs Tryz.isAgg3 ?_; refine .z 4 rfl zm ?_; refine .z 5 rfl zm ?_; refine .z 6 rfl (zlen Tryz.runUnderlying182) ?_; refine .z 7 rfl zsub ?_
  refine .ixX (i := 8) hs rfl (by kernel_rfl) .none hp rfl rfl Tryz.runUnderlying182 Tryz.sizeOf189 hx1 (by omega) ?_; intro b19 o19 hc19
  have h21 : cellAt H b19 (o19 + 1) = some (I v) := by rw [← hla]; exact hc19.get 1 rfl
  refine .z 9 rfl (zfa fa_bound_step_1) ?_; refine .y 10 rfl hs Tryz.isAgg3 ?_; refine .z 11 rfl zg ?_; refine .z 12 rfl zg ?_; refine .done (by kernel_rfl) hs ?_
  refine .seq (.draw mix rfl hs ?_); intro w hs
  refine .z 0 rfl zm ?_; refine .z 1 rfl znc ?_; refine .z 2 rfl (zfa fa_bound_flow_2) ?_; refine .y 3 rfl hs Tryz.isAgg22 ?_; refine .z 4 rfl zm ?_
  first | (refine .ixv 5 rfl hs Tryz.runUnderlying22 Tryz.sizeOf3 ?_; intro b27 o27 hc27) | refine .z 5 rfl (zix Tryz.runUnderlying22 Tryz.sizeOf3) ?_
  refine .load (i := 6) hs rfl (by kernel_rfl) .none rfl Tryz.isAgg3 ?_ (hv := Is_gi_sp hun sp)
  refine .z 7 rfl zneg ?_; refine .z 8 rfl zm ?_; refine .z 9 rfl znc ?_; refine .z 10 rfl (zfa fa_bound_flow_2) ?_; refine .y 11 rfl hs Tryz.isAgg22 ?_; refine .z 12 rfl zm ?_
  first | (refine .ixv 13 rfl hs Tryz.runUnderlying22 Tryz.sizeOf3 ?_; intro b35 o35 hc35) | refine .z 13 rfl (zix Tryz.runUnderlying22 Tryz.sizeOf3) ?_
  refine .load (i := 14) hs rfl (by kernel_rfl) .none rfl Tryz.isAgg3 ?_ (hv := Is_gi_sp hvn sp)
  refine .z 15 rfl zmin ?_; refine .z 16 rfl zg ?_; refine .done (by kernel_rfl) hs ?_
  refine .seq (.regSeq (.z zm (.z (zlen Tryz.runUnderlying182) (.z zm (.nil ?_)))))
  refine .for (N := p.length) (J := fun k fr w => fr = [(38, .slice a p.length cap), (6, I (least s.arcs ts (min (-gi lf u) (gi lf v)) (p.take k))), (0, .pointer (some ⟨bf, 0, none⟩)), (1, .slice a p.length cap), (4, I u), (5, I v)] ∧   St H w (.blk bt (Is ts) :: .blk bl (Is lf ++ sp) :: σ)) (by omega) ?_ ?_ ?_
  · exact .mk ⟨rfl, hs⟩
  · rintro k fr w hk ⟨rfl, hs⟩
    obtain ⟨x, hx⟩ := nth hk
    obtain ⟨g1, g2, g3⟩ := hix x (List.mem_of_getElem? hx)
    refine .block (.regSeq ?_)
    refine .ixX hs hp rfl rfl Tryz.runUnderlying182 Tryz.sizeOf189 hx rfl ?_; intro b42 o42 hc42
    refine .q hs (q_loadsR (vs := x.v) rfl Tryz.isAgg189 Tryz.sizeOf189 hc42) ?_
    refine .o (.alloc hs Tryz.zeroValue189 rfl ?_); intro b8 w hs
    refine .o (.stores (vs := x.v) hs rfl rfl Tryz.sizeOf189 ?_); intro w hs
    refine .nil (.regSeq (.z zm ?_))
    refine .q hs (q_loads (vs := x.v) rfl Tryz.isAgg189 Tryz.sizeOf189) ?_
    refine .o (.call Tryz.call290 rfl (bound_flow_along_spec hs hok hf hl g1) ?_); rintro _ w ⟨rfl, hs⟩
    refine .z znot (.nil ?_)
    refine (.cond rfl (fun hc47 => ?_) (fun hc47 => ?_))
    · refine .draw mix rfl hs ?_; intro w hs
      refine .z 0 rfl zm ?_; refine .z 1 rfl zm ?_; refine .z 2 rfl znc ?_; refine .z 3 rfl (zfa fa_bound_flow_1) ?_; refine .y 4 rfl hs Tryz.isAgg22 ?_; refine .z 5 rfl (zfa fa_bound_step_3) ?_; refine .y 6 rfl hs Tryz.isAgg3 ?_
      refine .p (i := 7) rfl (by kernel_rfl) .none (q_ixO (k := x.l.toNat) rfl rfl Tryz.runUnderlying22 Tryz.sizeOf3 g3 g2) ?_
      refine .y 8 rfl hs Tryz.isAgg3 ?_; refine .z 9 rfl zmin ?_; refine .z 10 rfl zg ?_; refine .done (by kernel_rfl) hs ?_
      refine nB (nT ?_)
      have e : min (least s.arcs ts (min (-gi lf u) (gi lf v)) (p.take k)) (gi ts x.l.toNat) = least s.arcs ts (min (-gi lf u) (gi lf v)) (p.take (k + 1)) := by rw [take_snoc hx, least_snoc, if_neg (by simpa using hc47)]
      exact .mk ⟨rfl, hs.tail⟩ (hs := .cons rfl (.cons rfl (.cons rfl (.consI rfl e (.cons rfl (.cons rfl (.cons rfl (.cons rfl (.nil rfl rfl)))))))))
    · refine .skip ?_
      refine nB (nT ?_)
      have e : least s.arcs ts (min (-gi lf u) (gi lf v)) (p.take k) = least s.arcs ts (min (-gi lf u) (gi lf v)) (p.take (k + 1)) := by rw [take_snoc hx, least_snoc, if_pos (by simpa using hc47)]
      exact .mk ⟨rfl, hs.tail⟩ (hs := .cons rfl (.cons rfl (.cons rfl (.consI rfl e (.cons rfl (.cons rfl (.cons rfl (.cons rfl (.nil rfl rfl)))))))))
  · rintro fr w ⟨rfl, hs⟩
    have e6 : least s.arcs ts (min (-gi lf u) (gi lf v)) (List.take p.length p) = M := by rw [List.take_length]; exact hM.symm
    rw [e6]
    refine nT ?_
    refine .seq (.regSeq (.z zm (.z (zlen Tryz.runUnderlying182) (.z zm (.nil ?_)))))
    refine .for (N := p.length) (J := fun k fr w => fr = [(59, .slice a p.length cap), (6, I M), (0, .pointer (some ⟨bf, 0, none⟩)), (1, .slice a p.length cap), (4, I u), (5, I v)] ∧   St H w (.blk bt (Is (pushes s.arcs M ts (p.take k))) :: .blk bl (Is lf ++ sp) :: σ)) (by omega) ?_ ?_ ?_
    · exact .mk ⟨rfl, hs⟩
    · rintro k fr w hk ⟨rfl, hs⟩
      obtain ⟨x, hx⟩ := nth hk
      obtain ⟨g1, g2, g3⟩ := hix x (List.mem_of_getElem? hx)
      have hpl2 := pushes_length s.arcs M (p.take k) ts
      have hbd := pushes_bd (es := s.arcs) (m := M) (ts := ts) (p := p.take k) (by omega) (by simp only [FF]; omega) (by rw [List.length_take]; omega) (fun y hy => (hix y (List.mem_of_mem_take hy)).2.1) x.l.toNat
      have h9 := htt _ g2
      refine .block (.regSeq ?_)
      refine .ixX hs hp rfl rfl Tryz.runUnderlying182 Tryz.sizeOf189 hx rfl ?_; intro b63 o63 hc63
      refine .q hs (q_loadsR (vs := x.v) rfl Tryz.isAgg189 Tryz.sizeOf189 hc63) ?_
      refine .o (.alloc hs Tryz.zeroValue189 rfl ?_); intro b10 w hs
      refine .o (.stores (vs := x.v) hs rfl rfl Tryz.sizeOf189 ?_); intro w hs
      refine .nil (.regSeq (.z zm ?_))
      refine .q hs (q_loads (vs := x.v) rfl Tryz.isAgg189 Tryz.sizeOf189) ?_
      refine .o (.call Tryz.call290 rfl (bound_flow_along_spec hs hok hf hl g1) ?_); rintro _ w ⟨rfl, hs⟩
      refine .nil ?_
      refine (.cond rfl (fun hc67 => ?_) (fun hc67 => ?_))
      · refine .draw mix rfl hs ?_; intro w hs
        refine .z 0 rfl zm ?_; refine .z 1 rfl znc ?_; refine .z 2 rfl (zfa fa_bound_flow_1) ?_; refine .y 3 rfl hs Tryz.isAgg22 ?_; refine .z 4 rfl (zfa fa_bound_step_3) ?_; refine .y 5 rfl hs Tryz.isAgg3 ?_
        refine .p (i := 6) rfl (by kernel_rfl) .none (q_ixO (k := x.l.toNat) rfl rfl Tryz.runUnderlying22 Tryz.sizeOf3 g3 g2) ?_
        refine .y 7 rfl hs Tryz.isAgg3 ?_; refine .z 8 rfl zm ?_; refine .z 9 rfl zadd ?_
        refine .p (i := 10) rfl (by kernel_rfl) .none (q_ixO (k := x.l.toNat) rfl rfl Tryz.runUnderlying22 Tryz.sizeOf3 g3 g2) ?_
        refine .e1 (i := 11) (by kernel_rfl) rfl rfl .none hs ?_
        refine .store hs rfl rfl Tryz.sizeOf3 ?_; intro w hs
        refine .go ?_
        refine .done (by kernel_rfl) hs ?_
        refine nB (nT ?_)
        have e : pushes s.arcs M ts (p.take (k + 1)) = (pushes s.arcs M ts (p.take k)).set x.l.toNat (gi (pushes s.arcs M ts (p.take k)) x.l.toNat + M) := by rw [take_snoc hx, pushes_snoc, push, if_pos (by simpa using hc67)]
        exact .mk ⟨rfl, by rw [e]; exact hs.tail⟩
      · refine .draw mix rfl hs ?_; intro w hs
        refine .z 0 rfl zm ?_; refine .z 1 rfl znc ?_; refine .z 2 rfl (zfa fa_bound_flow_1) ?_; refine .y 3 rfl hs Tryz.isAgg22 ?_; refine .z 4 rfl (zfa fa_bound_step_3) ?_; refine .y 5 rfl hs Tryz.isAgg3 ?_
        refine .p (i := 6) rfl (by kernel_rfl) .none (q_ixO (k := x.l.toNat) rfl rfl Tryz.runUnderlying22 Tryz.sizeOf3 g3 g2) ?_
        refine .y 7 rfl hs Tryz.isAgg3 ?_; refine .z 8 rfl zm ?_; refine .z 9 rfl zsub ?_
        refine .p (i := 10) rfl (by kernel_rfl) .none (q_ixO (k := x.l.toNat) rfl rfl Tryz.runUnderlying22 Tryz.sizeOf3 g3 g2) ?_
        refine .e1 (i := 11) (by kernel_rfl) rfl rfl .none hs ?_
        refine .store hs rfl rfl Tryz.sizeOf3 ?_; intro w hs
        refine .go ?_
        refine .done (by kernel_rfl) hs ?_
        refine nB (nT ?_)
        have e : pushes s.arcs M ts (p.take (k + 1)) = (pushes s.arcs M ts (p.take k)).set x.l.toNat (gi (pushes s.arcs M ts (p.take k)) x.l.toNat - M) := by rw [take_snoc hx, pushes_snoc, push, if_neg (by simpa using hc67)]
        exact .mk ⟨rfl, by rw [e]; exact hs.tail⟩
    · rintro fr w ⟨rfl, hs⟩
      rw [List.take_length] at hs
      refine nT ?_
      refine .regSeq (.z zm (.z znc (.z (zfa fa_bound_flow_2) (.y hs (zld Tryz.isAgg22) (.z zm ?_)))))
      first | (refine .ixv hs Tryz.runUnderlying22 Tryz.sizeOf3 ?_; intro b96 o96 hc96) | refine .z (zix Tryz.runUnderlying22 Tryz.sizeOf3) ?_
      refine .q hs (q_load rfl Tryz.isAgg3 (hv := Is_gi_sp hun sp)) ?_
      refine .z zm (.z zadd ?_)
      first | (refine .ixv hs Tryz.runUnderlying22 Tryz.sizeOf3 ?_; intro b100 o100 hc100) | refine .z (zix Tryz.runUnderlying22 Tryz.sizeOf3) ?_
      refine .o (.store hs rfl rfl Tryz.sizeOf3 ?_ (by repeat constructor) (blt_Is_sp hun sp) (Is_set_sp hun sp _)); intro w hs
      refine .nil (.region (.z zm (.z znc (.z (zfa fa_bound_flow_2) (.y hs (zld Tryz.isAgg22) (.z zm ?_))))))
      first | (refine .ixv hs Tryz.runUnderlying22 Tryz.sizeOf3 ?_; intro b106 o106 hc106) | refine .z (zix Tryz.runUnderlying22 Tryz.sizeOf3) ?_
      refine .q hs (q_load rfl Tryz.isAgg3 (hv := Is_gi_sp (by rw [List.length_set]; exact hvn) sp)) ?_
      refine .z zm (.z zsub ?_)
      first | (refine .ixv hs Tryz.runUnderlying22 Tryz.sizeOf3 ?_; intro b110 o110 hc110) | refine .z (zix Tryz.runUnderlying22 Tryz.sizeOf3) ?_
      refine .o (.store hs rfl rfl Tryz.sizeOf3 ?_ (by repeat constructor) (blt_Is_sp (by rw [List.length_set]; exact hvn) sp) (Is_set_sp (by rw [List.length_set]; exact hvn) sp _)); intro w hs
      refine .nil ?_
      exact Fin.end0 Tryz.results269 hs
end Go.Proofs.YtddaejgfjlneoaaGreat

namespace Go.Proofs.YtddaejgfjlneoaaGreat
open Go.MW
theorem left_step {w : List Int} {N k : Nat} (hw : w.length = N + 1) : gi (w.set 0 (-tailTo w k)) 0 - gi (w.set 0 (-tailTo w k)) (k + 1) = -tailTo w (k + 1) := by
  rw [gi_set (by omega), gi_set (by omega), if_pos rfl, if_neg (by omega)]
  simp only [tailTo, sumTo]; omega
theorem bound_sent_spec {H : Heap} {w : World} {σ : List Ent} {v vw : Value} {s : Syst} {ws : List Int} (hs : St H w σ) (hok : s.Ok) (hr : RSy H v s) (hrw : RI H vw ws) (hwl : ws.length = s.n) (hsz : SizedW ws) (hsnd : s.Sound) :
    Cl Tryz.prog 222 [v, vw] w fun v w' => (v = .tuple #[.pointer none, .bool false] ∧ OpenS s.arcs (wtOf ws s.n) s.n ∧ St H w' σ) ∨
      (∃ H1 bf bt bl cl ts lf vl sp, HLe H H1 ∧ v = .tuple #[.pointer (some ⟨bf, 0, none⟩), .bool true] ∧ FlowH H1 bf s ts lf vl bt bl cl sp ∧ FlowOk s.n s.arcs (wtOf ws s.n) ts ∧ St H1 w' σ) := by
  obtain ⟨vl, rfl, hr⟩ := hr
  obtain ⟨al, cpl, rfl⟩ := RL.shape hr
  obtain ⟨aw, cw, rfl⟩ := RI.shape hrw
  obtain ⟨N, hN⟩ := Int.eq_ofNat_of_zero_le hok.m0
  have hN1 := hok.m1
  have hn : s.n = N + 1 := by simp [Syst.n, hN]
  have hlim := hok.len
  have hoka := hok.arcs
  have hal : s.arcs.length = s.lims.length := by simp [Syst.arcs, arcsOf_length]
  have hnum : Numb s.arcs := fun i x hx => ⟨arcsOf_l hx, (hok.arcs.2 x (List.mem_of_getElem? hx)).2.2.2.2.2⟩
  have hin : ∀ x ∈ s.arcs, x.f < s.n ∧ x.t < s.n := fun x hx => by have := hoka.2 x hx; omega
  have hwt0 := wt_sum ws (n := s.n) (by omega)
  unfold SizedW at hsz
  rw [hwl] at hsz
  refine Cl.of Tryz.func222 rfl Tryz.ntmps222 (by simp) (args_cons (k := 0) rfl (args_cons (k := 1) rfl (args0))) ?_
  refine .regSeq ?_
  refine .o (.box hs rfl rfl ?_); intro b2 w hs
  refine .z zg (.z zg (.nil ?_))
  refine .scope ?_
  refine .cut (fun fs w => ∃ bf bt bl cl sp, FSub fs ⟨73, [], [(6, .pointer (some ⟨bf, 0, none⟩))]⟩ ∧ St H w (.blk bf [I s.many, .slice al s.lims.length cpl, .slice (some ⟨bt, 0, none⟩) s.lims.length s.lims.length, .slice (some ⟨bl, 0, none⟩) ws.length cl] :: .blk bt (Is (List.replicate s.lims.length 0)) :: .blk bl (Is ws ++ sp) :: σ)) ?_ ?_
  · refine .draw mix rfl hs ?_; intro w hs
    refine .ys 0 rfl hs [_, _] Tryz.isAgg70 Tryz.sizeOf70 ?_; refine .z 1 rfl (zfa fa_api_System_1) ?_; refine .y 2 rfl hs Tryz.isAgg68 ?_; refine .z 3 rfl (zlen Tryz.runUnderlying68) ?_; refine .z 5 rfl zm ?_
    refine .e2 (i := 4) (j := 6) (by kernel_rfl) rfl rfl rfl rfl .none .none hs ?_ ?_
    · refine .makeI s.lims.length hs rfl rfl Tryz.runUnderlying22 Tryz.typeInfo3 rfl Tryz.sizeOf3 Tryz.zeroValue3 (by omega) ?_; intro b15 w hs
      refine .go ?_
      refine .e1 (i := 6) (by kernel_rfl) rfl rfl .none hs ?_
      refine .call Tryz.call197 rfl (slices_Clone_int hs hrw (by omega)) ?_; rintro v17 w ⟨en17, hO, hs⟩
      obtain ⟨bl, cl, sp, rfl, rfl, hsp⟩ := hO.some (by omega)
      refine .go ?_
      refine .z 7 rfl (zbd [_, _, _, _] bld_bound_flow) ?_
      refine .e1 (i := 8) (by kernel_rfl) rfl rfl .none hs ?_
      refine .box hs rfl rfl ?_; intro b19 w hs
      refine .go ?_
      refine .z 9 rfl zg ?_; refine .done (by kernel_rfl) hs ?_
      exact nT ⟨b19, b15, bl, cl, sp, by repeat (first | exact .nil rfl rfl | refine .cons rfl ?_), hs.sub (by repeat (first | exact Sub.refl _ | constructor | apply Sub.weaken))⟩
    · refine .call Tryz.call197 rfl (slices_Clone_int hs hrw (by omega)) ?_; rintro v17 w ⟨en17, hO, hs⟩
      obtain ⟨bl, cl, sp, rfl, rfl, hsp⟩ := hO.some (by omega)
      refine .go ?_
      refine .e1 (i := 4) (by kernel_rfl) rfl rfl .none hs ?_
      refine .makeI s.lims.length hs rfl rfl Tryz.runUnderlying22 Tryz.typeInfo3 rfl Tryz.sizeOf3 Tryz.zeroValue3 (by omega) ?_; intro b15 w hs
      refine .go ?_
      refine .z 7 rfl (zbd [_, _, _, _] bld_bound_flow) ?_
      refine .e1 (i := 8) (by kernel_rfl) rfl rfl .none hs ?_
      refine .box hs rfl rfl ?_; intro b19 w hs
      refine .go ?_
      refine .z 9 rfl zg ?_; refine .done (by kernel_rfl) hs ?_
      exact nT ⟨b19, b15, bl, cl, sp, by repeat (first | exact .nil rfl rfl | refine .cons rfl ?_), hs.sub (by repeat (first | exact Sub.refl _ | constructor | apply Sub.weaken))⟩
  · rintro fs w ⟨bf, bt, bl, cl, sp, hfs, hs⟩
    refine WE.sub ?_ hfs
    obtain ⟨H1, hle1, hRf, hs⟩ := hs.publish .here
    have hf0 : cellAt H1 bf 0 = some (I (N : Int)) := by have := hRf.at 0 (v := I s.many); rwa [hN] at this
    have hf3 : cellAt H1 bf 3 = some (.slice (some ⟨bl, 0, none⟩) ws.length cl) := hRf.at 3
    have hrl := hr.mono hle1
    refine .regSeq (.z zm (.z znc (.z (zfa fa_bound_flow_2) (.y hs (zld Tryz.isAgg22) ?_))))
    refine .q hs (q_ixO (k := 0) rfl rfl Tryz.runUnderlying22 Tryz.sizeOf3 rfl (by omega)) ?_
    refine .o (.store hs rfl rfl Tryz.sizeOf3 ?_ (by repeat constructor) (blt_Is_sp (by omega) sp) (Is_set_sp (by omega) sp _)); intro w hs
    refine .nil (.seq (.regSeq (.z zm (.z znc (.z (zfa fa_bound_flow_0) (.z (zfa fa_api_System_0) (.y hs (zld Tryz.isAgg3) (.z zm (.nil ?_)))))))))
    refine .for (N := N) (J := fun k fr w => fr = [(6, .pointer (some ⟨bf, 0, none⟩))] ∧ St H1 w (.blk bt (Is (List.replicate s.lims.length 0)) :: .blk bl (Is (ws.set 0 (-tailTo ws k)) ++ sp) :: σ)) (by omega) ?_ ?_ ?_
    · exact .mk ⟨rfl, by simpa [tailTo, sumTo] using hs⟩
    · rintro k fr w hk ⟨rfl, hs⟩
      have e := left_step (w := ws) (N := N) (k := k) (by omega)
      have hb1 := tail_bound ws (k + 1)
      have hb2 : sizesTo ws (k + 1 + 1) ≤ sizesTo ws s.n := sumTo_mono (fun v => by omega) (by omega)
      simp only [FF] at hsz
      refine .block (.regSeq (.z zm (.z zg (.nil ?_))))
      refine .draw mix rfl hs ?_; intro w hs
      refine .z 0 rfl zm ?_; refine .z 1 rfl znc ?_; refine .z 2 rfl (zfa fa_bound_flow_2) ?_; refine .y 3 rfl hs Tryz.isAgg22 ?_
      refine .p (i := 4) rfl (by kernel_rfl) .none (q_ixO (k := 0) rfl rfl Tryz.runUnderlying22 Tryz.sizeOf3 rfl (by omega)) ?_
      refine .load (i := 5) hs rfl (by kernel_rfl) .none rfl Tryz.isAgg3 ?_ (hv := Is_gi_sp (by rw [List.length_set]; omega) sp)
      refine .z 6 rfl zm ?_; refine .z 7 rfl znc ?_; refine .z 8 rfl (zfa fa_bound_flow_2) ?_; refine .y 9 rfl hs Tryz.isAgg22 ?_; refine .z 10 rfl zm ?_; refine .z 11 rfl zadd ?_
      refine .p (i := 12) rfl (by kernel_rfl) .none (q_ixO (k := k + 1) rfl rfl Tryz.runUnderlying22 Tryz.sizeOf3 (by omega) (by omega)) ?_
      refine .load (i := 13) hs rfl (by kernel_rfl) .none rfl Tryz.isAgg3 ?_ (hv := Is_gi_sp (by rw [List.length_set]; omega) sp)
      refine .z 14 rfl zsub ?_
      refine .p (i := 15) rfl (by kernel_rfl) .none (q_ixO (k := 0) rfl rfl Tryz.runUnderlying22 Tryz.sizeOf3 rfl (by omega)) ?_
      refine .e1 (i := 16) (by kernel_rfl) rfl rfl .none hs ?_
      refine .store hs rfl rfl Tryz.sizeOf3 ?_ (by repeat constructor) (blt_Is_sp (by rw [List.length_set]; omega) sp) (Is_set_sp (by rw [List.length_set]; omega) sp _); intro w hs
      refine .go ?_
      refine .done (by kernel_rfl) hs ?_
      refine nB (nT ?_)
      rw [e, List.set_set] at hs
      exact .mk ⟨rfl, hs⟩
    · rintro fr w ⟨rfl, hs⟩
      have hI0 : FInv s.n s.arcs (wtOf ws s.n) (List.replicate s.lims.length 0) (ws.set 0 (-tailTo ws N)) := by
        rw [← hal, hn]
        rw [hn] at hsz
        refine FInv.start hsz (by rw [List.length_set]; omega) (fun v hv => ?_) hsnd
        rw [gi_set (by omega)]
        cases v with
        | zero => rw [if_pos rfl, wt_zero]
        | succ v => rw [if_neg (by omega), wt_succ]
      refine nT ?_
      refine .seq ?_
      refine .label ?_
      refine nT ?_
      refine .block ?_
      refine .loop (fun _ : Heap × List Int × List Int => ⟨73, [], [(6, .pointer (some ⟨bf, 0, none⟩))]⟩)
        (fun p w => HLe H1 p.1 ∧ FInv s.n s.arcs (wtOf ws s.n) p.2.1 p.2.2 ∧ St p.1 w (.blk bt (Is p.2.1) :: .blk bl (Is p.2.2 ++ sp) :: σ)) (fun p => (rem s.n p.2.2).toNat) (H1, List.replicate s.lims.length 0, ws.set 0 (-tailTo ws N))
        (by repeat (first | exact .nil rfl rfl | refine .cons rfl ?_)) ⟨HLe.refl _, hI0, hs⟩ ?_
      rintro ⟨H2, ts, lf⟩ w ⟨hle2, hI, hs⟩
      dsimp only at hle2 hI hs ⊢
      have hlt := hI.lt
      have hll := hI.ll
      have hRf2 : Row H2 bf [I s.many, .slice al s.lims.length cpl, .slice (some ⟨bt, 0, none⟩) ts.length ts.length, .slice (some ⟨bl, 0, none⟩) lf.length cl] := by
        rw [hlt, hal, hll, ← hwl]; exact hRf.mono hle2
      have hf32 : cellAt H2 bf 3 = some (.slice (some ⟨bl, 0, none⟩) lf.length cl) := hRf2.at 3
      refine .block (.seq (.regSeq (.z zm (.z znc (.z (zfa fa_bound_flow_2) (.y hs (zld Tryz.isAgg22) (.z (zlen Tryz.runUnderlying22) (.z zm (.nil ?_)))))))))
      refine .for (N := lf.length) (J := fun k fr w => fr = [(53, .slice (some ⟨bl, 0, none⟩) lf.length cl), (6, .pointer (some ⟨bf, 0, none⟩))] ∧ (∀ v < k, gi lf v ≤ 0) ∧ St H2 w (.blk bt (Is ts) :: .blk bl (Is lf ++ sp) :: σ)) (by omega) ?_ ?_ ?_
      · exact .mk ⟨rfl, fun v hv => by omega, hs⟩
      · rintro k fr w hk ⟨rfl, hle0, hs⟩
        refine .block (.regSeq (.z zm ?_))
        first | (refine .ixv hs Tryz.runUnderlying22 Tryz.sizeOf3 ?_; intro b58 o58 hc58) | refine .z (zix Tryz.runUnderlying22 Tryz.sizeOf3) ?_
        refine .q hs (q_load rfl Tryz.isAgg3 (hv := Is_gi_sp hk sp)) ?_
        refine .z zg (.z zg (.nil (.seq (.regSeq (.z zm (.z zleq (.nil ?_)))))))
        refine (.condD rfl (fun hc61 => ?_) (fun hc61 => ?_))
        · refine .exit ?_
          refine xT (xB (nT ?_))
          exact .mk ⟨rfl, fun v hv => by
              by_cases e : v = k
              · subst e; exact hc61
              · exact hle0 v (by omega), hs⟩
        · refine .skip ?_
          refine nT ?_
          refine .regSeq (.z zm (.z zm ?_))
          obtain ⟨Ha, hla, hra, hsa, -, hba⟩ := hs.lend
          obtain ⟨Hb, hlb, hrb, hsb, -, hbb⟩ := hsa.lend
          refine .o (.call Tryz.call268 rfl (bound_flow_way_spec (s := s) (to := k) hsb hok ⟨hRf2.mono (hla.trans hlb), hr.mono (hle1.trans (hle2.trans (hla.trans hlb))), hra.mono hlb, hrb⟩ (by omega) (by omega) hI.fe (by omega) (by omega)) ?_); rintro v64 w ⟨Hc, p, en, hlc, hO, hsc, hWR⟩
          have hs := hba (HLe.refl _) (hbb hlc hsc)
          obtain ⟨ap, lp, cp, rfl, hlp⟩ := hO.shape
          obtain rfl : lp = p.length := by rw [Arcs_length] at hlp; omega
          refine .z zg (.nil (.seq (.regSeq (.z zm (.z (zlen Tryz.runUnderlying182) (.z zeql (.nil ?_)))))))
          refine (.condD rfl (fun hc67 => ?_) (fun hc67 => ?_))
          · refine .regSeq (.z zg (.z zg (.nil ?_)))
            refine .ret (rT (rB (rT (rB (rT (rB (rT (rB (rS (Fin.ret2 Tryz.results222 rfl rfl ?_))))))))))
            rcases hWR with ⟨_, R, hS, hR, hto⟩ | ⟨hp, _⟩
            · exact .inl ⟨rfl, hI.open hin hS hR (by omega) hto (by omega), (hs.le (hle1.trans hle2)).out⟩
            · exact (hp (List.length_eq_zero_iff.1 (by omega))).elim
          · refine .skip ?_
            refine nT ?_
            refine .regSeq (.z zm (.z zm ?_))
            obtain ⟨hp, hpl, u, hw⟩ := hWR.resolve_left fun h => by rw [h.1] at hc67; exact hc67 rfl
            obtain ⟨H3, hle3, hRS, hs⟩ := OwnS.publish (cs := p.map Arc.v) hO (fun c hc => by simp only [List.mem_map] at hc; obtain ⟨x, _, rfl⟩ := hc; rfl) (by omega) (by rw [List.length_map]; omega) hs (by repeat constructor)
            refine .o (.call Tryz.call269 rfl (bound_flow_send_spec hs hok (hRf2.mono hle3) (hr.mono (hle1.trans (hle2.trans hle3))) hRS hI hw hp hpl) ?_); rintro v70 w hs
            refine .nil ?_
            refine .exit ?_
            refine xN (xT (xN (xT (xB (nT ?_)))))
            obtain ⟨q1, q2⟩ := hI.send hnum hw (by omega)
            have q3 : 0 ≤ rem s.n (lfTo lf (much s.arcs ts lf p u k) u k) := sumTo_nonneg fun v _ => by omega
            exact ⟨(H3, pushes s.arcs (much s.arcs ts lf p u k) ts p, lfTo lf (much s.arcs ts lf p u k) u k), by repeat (first | exact .nil rfl rfl | refine .cons rfl ?_), ⟨hle2.trans hle3, q1, hs⟩, by dsimp only; omega⟩
      · rintro fr w ⟨rfl, hle0, hs⟩
        refine nT ?_
        refine .regSeq (.z zm (.z zg (.z zg (.nil ?_))))
        refine .ret (rB (rT (rB (rS (Fin.ret2 Tryz.results222 rfl rfl ?_)))))
        obtain ⟨H3, l3, r3, hs⟩ := hs.publish .here
        obtain ⟨H4, l4, r4, hs⟩ := hs.publish .here
        exact .inr ⟨H4, bf, bt, bl, cl, ts, lf, _, sp, hle1.trans (hle2.trans (l3.trans l4)), rfl, ⟨hRf2.mono (l3.trans l4), hr.mono (hle1.trans (hle2.trans (l3.trans l4))), r3.mono l4, r4⟩, hI.ok hin hwt0 (fun v hv => hle0 v (by omega)), hs⟩
end Go.Proofs.YtddaejgfjlneoaaGreat

namespace Go.Proofs.YtddaejgfjlneoaaGreat
open Go.MW
theorem bound_isSized_spec {H : Heap} {w : World} {σ : List Ent} {v : Value} {ws : List Int} (hs : St H w σ) (hr : RI H v ws) : Cl Tryz.prog 164 [v] w fun v w' => ∃ b, v = .bool b ∧ (b = true ↔ SizedW ws) ∧ St H w' σ := by
  obtain ⟨a, c, rfl⟩ := RI.shape hr
  have hl := (RI.len hr).2.2
  refine Cl.of Tryz.func164 rfl Tryz.ntmps164 (by simp) (args_cons (k := 0) rfl (args0)) ?_
  refine .regSeq (.z zg (.nil (.regSeq (.z zg (.nil (.seq (.regSeq (.z zm (.z (zlen Tryz.runUnderlying22) ?_)))))))))
  refine .z zm (.nil ?_)
  refine .for (N := ws.length) (J := fun k fr w => fr = [(6, .slice a ws.length c), (3, I (3600000000000 - sizesTo ws k))] ∧ sizesTo ws k ≤ 3600000000000 ∧ St H w σ) (by omega) ?_ ?_ ?_
  · exact .mk ⟨rfl, by simp [sizesTo, sumTo], hs⟩
  · rintro k fr w hk ⟨rfl, hle, hs⟩
    have hx := gi_get hk
    have h0 : 0 ≤ sizesTo ws k := sumTo_nonneg fun v _ => by omega
    have h1 : sizesTo ws (k + 1) = sizesTo ws k + max (gi ws k) (-gi ws k) := rfl
    refine .block (.regSeq ?_)
    first | (refine .ixv hs Tryz.runUnderlying22 Tryz.sizeOf3 ?_; intro b10 o10 hc10) | refine .z (zix Tryz.runUnderlying22 Tryz.sizeOf3) ?_
    refine .y hs (zld Tryz.isAgg3) (.z zg (.nil (.seq (.regSeq (.z zm (.z zm (.z zneg (.z zlss (.z zm ?_)))))))))
    refine .bifD (t' := 16) rfl (fun hb16 => ?_) (fun hb16 => ?_)
    · refine .gFs 3 4 false rfl rfl rfl ?_
      refine .z zpT (.nil ?_)
      refine (.condT rfl rfl ?_)
      refine .regSeq (.z zg (.nil ?_))
      refine .ret (rT (rB (rT (rB (rT (Fin.ret1 Tryz.results164 rfl ?_))))))
      exact ⟨false, rfl, ⟨fun h => (by cases h), fun h => (sizes_over (k := k + 1) hk (by simp only [FF]; omega) h).elim⟩, hs⟩
    · refine .gT rfl rfl ?_
      refine .z zm ?_
      refine .gT rfl rfl ?_
      refine .z zm ?_
      refine .gT rfl rfl ?_
      refine .z zgtr (.z zpF (.nil ?_))
      refine (.condD rfl (fun hc20 => ?_) (fun hc20 => ?_))
      · refine .regSeq (.z zg (.nil ?_))
        refine .ret (rT (rB (rT (rB (rT (Fin.ret1 Tryz.results164 rfl ?_))))))
        exact ⟨false, rfl, ⟨fun h => (by cases h), fun h => (sizes_over (k := k + 1) hk (by simp only [FF]; omega) h).elim⟩, hs⟩
      · refine .skip ?_
        refine nT ?_
        refine .region (.z zm (.z zm (.z zm (.z zneg (.z zmax (.z zsub (.z zg (.nil ?_))))))))
        refine nB (nT ?_)
        exact .mk ⟨rfl, by omega, hs⟩ (hs := .cons rfl (.cons rfl (.cons rfl (.consI rfl (by omega) (.nil rfl rfl)))))
  · rintro fr w ⟨rfl, hle, hs⟩
    refine nT ?_
    refine .regSeq (.z zg (.nil ?_))
    refine .ret (Fin.ret1 Tryz.results164 rfl ?_)
    exact ⟨true, rfl, ⟨fun _ => hle, fun _ => rfl⟩, hs⟩
theorem bound_checkWeights_spec {H : Heap} {w : World} {σ : List Ent} {v vw : Value} {s : Syst} {ws : List Int} (hs : St H w σ) (hr : RSy H v s) (hrw : RI H vw ws) : Cl Tryz.prog 219 [v, vw] w fun v w' => v = I (askErr s ws) ∧ St H w' σ := by
  obtain ⟨vl, rfl, hr⟩ := hr
  obtain ⟨al, cpl, rfl⟩ := RL.shape hr
  obtain ⟨aw, cw, rfl⟩ := RI.shape hrw
  have hlw := (RI.len hrw).2.2
  have hn : s.check = 0 → 0 ≤ s.many ∧ s.many ≤ 64 ∧ (s.n : Int) = s.many + 1 := fun h => by
    have h1 := s.ok_iff.1 h
    have := h1.m0
    have := h1.m1
    simp only [Syst.n]; omega
  refine Cl.of Tryz.func219 rfl Tryz.ntmps219 (by simp) (args_cons (k := 0) rfl (args_cons (k := 1) rfl (args0))) ?_
  refine .regSeq ?_
  refine .o (.box hs rfl rfl ?_); intro b2 w hs
  refine .z zg (.nil (.seq (.regSeq (.y hs (zls [_, _] Tryz.isAgg70 Tryz.sizeOf70) ?_))))
  refine .o (.call Tryz.call125 rfl (bound_Check_spec (s := s) hs ⟨_, rfl, hr⟩) ?_); rintro _ w ⟨rfl, hs⟩
  refine .z zg (.nil (.regSeq (.z zm (.z zneq (.nil ?_)))))
  refine (.condN rfl (fun hc9 => ?_) (fun hc9 => ?_))
  · refine .regSeq (.z zm (.z zg (.nil ?_)))
    refine .ret (rT (Fin.ret1 Tryz.results219 rfl ?_))
    exact ⟨by unfold askErr; rw [if_pos hc9], hs.tail⟩
  · refine .skip ?_
    refine nT ?_
    refine .seq (.regSeq (.z zm ?_))
    obtain ⟨n0, n1, n2⟩ := hn hc9
    refine .z (zlen Tryz.runUnderlying22) (.z (zfa fa_api_System_0) (.y hs (zld Tryz.isAgg3) (.z zadd (.z zneq (.z zm ?_)))))
    refine .bifN (t' := 17) rfl (fun hb17 => ?_) (fun hb17 => ?_)
    · refine .gFs 3 6 false rfl rfl rfl ?_
      refine .z zpT (.nil ?_)
      refine (.condT rfl rfl ?_)
      refine .regSeq (.z zg (.nil ?_))
      refine .ret (rT (Fin.ret1 Tryz.results219 rfl ?_))
      exact ⟨by unfold askErr; rw [if_neg (by omega), if_neg (by omega)], hs.tail⟩
    · refine .gT rfl rfl ?_
      refine .z zm ?_
      refine .gT rfl rfl ?_
      refine .o (.call Tryz.call164 rfl (bound_isSized_spec hs hrw) ?_); rintro _ w ⟨bz, rfl, hbz, hs⟩
      refine .gT rfl rfl ?_
      refine .z znot (.z zpF (.nil ?_))
      refine (.cond rfl (fun hc21 => ?_) (fun hc21 => ?_))
      · refine .regSeq (.z zg (.nil ?_))
        refine .ret (rT (Fin.ret1 Tryz.results219 rfl ?_))
        exact ⟨by unfold askErr; rw [if_neg (by omega), if_neg (fun h => by rw [hbz.2 h.2] at hc21; cases hc21)], hs.tail⟩
      · refine .skip ?_
        refine nT ?_
        refine .regSeq (.z zg (.nil ?_))
        refine .ret (Fin.ret1 Tryz.results219 rfl ?_)
        exact ⟨by unfold askErr; rw [if_neg (by omega), if_pos ⟨by omega, hbz.1 (by simpa using hc21)⟩], hs.tail⟩
theorem bound_asked_spec {H : Heap} {w : World} {σ : List Ent} {v vw : Value} {s : Syst} {ws : List Int} (hs : St H w σ) (hr : RSy H v s) (hrw : RI H vw ws) :
    Cl Tryz.prog 158 [v, vw] w fun v w' => ∃ H1 e pf, HLe H H1 ∧ v = .tuple #[pf, I e] ∧ AskR s ws e ∧ St H1 w' σ ∧ (e ≠ 0 → pf = .pointer none) ∧
      (e = 0 → ∃ bf bt bl cl ts lf vl sp, pf = .pointer (some ⟨bf, 0, none⟩) ∧ FlowH H1 bf s ts lf vl bt bl cl sp ∧ FlowOk s.n s.arcs (wtOf ws s.n) ts ∧ s.Ok ∧ sizesTo ws s.n ≤ FF) := by
  obtain ⟨vl, rfl, hr⟩ := hr
  refine Cl.of Tryz.func158 rfl Tryz.ntmps158 (by simp) (args_cons (k := 0) rfl (args_cons (k := 1) rfl (args0))) ?_
  refine .regSeq ?_
  refine .o (.box hs rfl rfl ?_); intro b2 w hs
  refine .z zg (.z zg (.nil (.seq (.regSeq (.y hs (zls [_, _] Tryz.isAgg70 Tryz.sizeOf70) (.z zm ?_))))))
  refine .o (.call Tryz.call219 rfl (bound_checkWeights_spec (s := s) hs ⟨_, rfl, hr⟩ hrw) ?_); rintro _ w ⟨rfl, hs⟩
  refine .z zg (.nil (.regSeq (.z zm (.z zneq (.nil ?_)))))
  refine (.condN rfl (fun hc13 => ?_) (fun hc13 => ?_))
  · refine .regSeq (.z zm (.z zg (.z zg (.nil ?_))))
    refine .ret (rT (Fin.ret2 Tryz.results158 rfl rfl ?_))
    exact ⟨H, _, _, HLe.refl _, rfl, .bad hc13, hs.tail, fun _ => rfl, fun h => (hc13 h).elim⟩
  · refine .skip ?_
    refine nT ?_
    refine .seq (.regSeq (.y hs (zls [_, _] Tryz.isAgg70 Tryz.sizeOf70) ?_))
    obtain ⟨hok, hwl, hsz⟩ := askErr_ok hc13
    refine .o (.call Tryz.call133 rfl (bound_isSound_spec (s := s) hs hok ⟨_, rfl, hr⟩) ?_); rintro _ w ⟨H1, b, hle1, rfl, hb, hs⟩
    refine .z znot (.nil ?_)
    refine (.cond rfl (fun hc17 => ?_) (fun hc17 => ?_))
    · refine .regSeq (.z zg (.z zg (.nil ?_)))
      refine .ret (rT (Fin.ret2 Tryz.results158 rfl rfl ?_))
      exact ⟨H1, _, _, hle1, rfl, .clash hc13 (fun h => by rw [hb.2 h] at hc17; cases hc17), hs.tail, fun _ => rfl, fun h => by cases h⟩
    · refine .skip ?_
      refine nT ?_
      refine .regSeq (.y hs (zls [_, _] Tryz.isAgg70 Tryz.sizeOf70) (.z zm ?_))
      have hsnd : s.Sound := hb.1 (by simpa using hc17)
      refine .o (.call Tryz.call222 rfl (bound_sent_spec (s := s) hs hok ⟨_, rfl, hr.mono hle1⟩ (hrw.mono hle1) hwl hsz hsnd) ?_); rintro v21 w hcase
      obtain ⟨pf, bb, H2, hle2, rfl, hs, hT, hF⟩ : ∃ pf bb H2, HLe H1 H2 ∧ v21 = .tuple #[pf, .bool bb] ∧ St H2 w (.blk b2 [I s.many, vl] :: σ) ∧ (bb = false → pf = .pointer none ∧ OpenS s.arcs (wtOf ws s.n) s.n) ∧
          (bb = true → ∃ bf bt bl cl ts lf vl sp, pf = .pointer (some ⟨bf, 0, none⟩) ∧ FlowH H2 bf s ts lf vl bt bl cl sp ∧ FlowOk s.n s.arcs (wtOf ws s.n) ts) := by
        rcases hcase with ⟨rfl, h1, h2⟩ | ⟨H2, bf, bt, bl, cl, ts, lf, vl, sp, h1, rfl, h2, h3, h4⟩
        · exact ⟨_, false, H1, HLe.refl _, rfl, h2, fun _ => ⟨rfl, h1⟩, fun h => by cases h⟩
        · exact ⟨_, true, H2, h1, rfl, h4, fun h => (by cases h), fun _ => ⟨bf, bt, bl, cl, ts, lf, vl, sp, rfl, h2, h3⟩⟩
      refine .z zm (.z zex (.z zex (.z zg (.z zg (.nil (.seq (.regSeq (.z zm (.z znot ?_)))))))))
      refine .nil ?_
      refine (.cond rfl (fun hc25 => ?_) (fun hc25 => ?_))
      · refine .regSeq (.z zg (.z zg (.nil ?_)))
        refine .ret (rT (Fin.ret2 Tryz.results158 rfl rfl ?_))
        exact ⟨H2, _, _, hle1.trans hle2, rfl, .opn hc13 hsnd (hT (by simpa using hc25)).2, hs.tail, fun _ => rfl, fun h => by cases h⟩
      · refine .skip ?_
        refine nT ?_
        refine .regSeq (.z zm (.z zg (.z zg (.nil ?_))))
        refine .ret (Fin.ret2 Tryz.results158 rfl rfl ?_)
        obtain ⟨bf, bt, bl, cl, ts, lf, vl, sp, rfl, h2, h3⟩ := hF (by simpa using hc25)
        have hn0 : 0 < s.n := by simp [Syst.n]
        have hn1 : s.n ≤ 65 := by have := hok.m0; have := hok.m1; simp only [Syst.n]; omega
        have hsz' : sizesTo ws s.n ≤ FF := by unfold SizedW at hsz; rwa [hwl] at hsz
        exact ⟨H2, _, _, hle1.trans hle2, rfl, .ok hc13 hsnd (h3.value hn0 hn1 hok.arcs hsz').2.1, hs.tail, fun h => (h rfl).elim, fun _ => ⟨bf, bt, bl, cl, ts, lf, vl, sp, rfl, h2, h3, hok, hsz'⟩⟩
theorem bound_flow_bound_spec {H : Heap} {w : World} {σ : List Ent} {bf bt bl cl : Nat} {s : Syst} {ts lf ws : List Int} {vl : Value} {sp : List Value} (hs : St H w σ) (hok : s.Ok) (hF : FlowH H bf s ts lf vl bt bl cl sp) (hFo : FlowOk s.n s.arcs (wtOf ws s.n) ts) (hsz : sizesTo ws s.n ≤ FF) :
    Cl Tryz.prog 160 [.pointer (some ⟨bf, 0, none⟩)] w fun v w' => v = I (dot s.arcs ts (·.c)) ∧ OptS s.arcs (s.wt ws) s.n (dot s.arcs ts (·.c)) ∧ dot s.arcs ts (·.c) ≤ BB ∧ -BB ≤ dot s.arcs ts (·.c) ∧ St H w' σ := by
  obtain ⟨hFf, hFl, hFt, hFd⟩ := hF
  obtain ⟨al, cpl, rfl⟩ := RL.shape hFl
  have hlim := hok.len
  have hal : s.arcs.length = s.lims.length := by simp [Syst.arcs, arcsOf_length]
  have hlt := hFo.lt
  have hn0 : 0 < s.n := by simp [Syst.n]
  have hn1 : s.n ≤ 65 := by have := hok.m0; have := hok.m1; simp only [Syst.n]; omega
  have hv := hFo.value hn0 hn1 hok.arcs hsz
  have hd := dot_dotTo (es := s.arcs) hlt
  have hf1 : cellAt H bf 1 = some (.slice al s.lims.length cpl) := hFf.at 1
  have hf2 : cellAt H bf 2 = some (.slice (some ⟨bt, 0, none⟩) ts.length ts.length) := hFf.at 2
  refine Cl.of Tryz.func160 rfl Tryz.ntmps160 (by simp) (args_cons (k := 0) rfl (args0)) ?_
  refine .regSeq (.z zg (.nil (.regSeq (.z zg (.nil (.seq (.regSeq (.z zm (.z znc ?_)))))))))
  refine .z (zfa fa_bound_flow_0) (.z (zfa fa_api_System_1) (.y hs (zld Tryz.isAgg68) (.z (zlen Tryz.runUnderlying68) (.z zm (.nil ?_)))))
  refine .for (N := s.lims.length) (J := fun k fr w => fr = [(10, .slice al s.lims.length cpl), (3, I (IntKind.i64.wrap (dotTo s.arcs ts k))), (0, .pointer (some ⟨bf, 0, none⟩))] ∧ St H w σ) (by omega) ?_ ?_ ?_
  · exact .mk ⟨rfl, hs⟩ (hs := .cons rfl (.cons rfl (.cons rfl (.consI rfl (by simp [dotTo, sumTo, i64wrap_eq]) (.cons rfl (.nil rfl rfl))))))
  · rintro k fr w hk ⟨rfl, hs⟩
    obtain ⟨l, hl⟩ := nth hk
    have hg : (ga s.arcs k).c = l.M := by simp [ga, Syst.arcs, arcsOf_get hl, Lim.arc]
    have hlm := hok.lim l (List.mem_of_getElem? hl)
    have hkt : k < ts.length := by omega
    have htb := hFo.nn k (by omega)
    have hct : cellAt H bt k = some (I (gi ts k)) := hFt.at k (Is_gi hkt)
    have hmul : gi ts k * l.M ≤ 72000000000000000 ∧ -72000000000000000 ≤ gi ts k * l.M := by
      simp only [FF] at htb
      have g1 : gi ts k * l.M ≤ gi ts k * 20000 := Int.mul_le_mul_of_nonneg_left hlm.2.2.2.1.2 htb.1
      have g2 : gi ts k * (-20000) ≤ gi ts k * l.M := Int.mul_le_mul_of_nonneg_left hlm.2.2.2.1.1 htb.1
      omega
    refine .block (.regSeq (.z zm ?_))
    refine .ixX hs hFl rfl rfl Tryz.runUnderlying68 Tryz.sizeOf160 hl rfl ?_; intro b15 o15 hc15
    refine .q hs (q_loadsR (vs := l.c) rfl Tryz.isAgg160 Tryz.sizeOf160 hc15) ?_
    refine .o (.alloc hs Tryz.zeroValue160 rfl ?_); intro b5 w hs
    refine .z zg ?_
    refine .o (.stores (vs := l.c) hs rfl rfl Tryz.sizeOf160 ?_); intro w hs
    refine .nil ?_
    refine .draw mix rfl hs ?_; intro w hs
    refine .z 0 rfl zm ?_; refine .z 1 rfl zm ?_; refine .z 2 rfl znc ?_; refine .z 3 rfl (zfa fa_bound_flow_1) ?_; refine .y 4 rfl hs Tryz.isAgg22 ?_; refine .z 5 rfl zm ?_
    refine .p (i := 6) rfl (by kernel_rfl) .none (q_ixO (k := k) rfl rfl Tryz.runUnderlying22 Tryz.sizeOf3 rfl hkt) ?_
    refine .r (i := 7) hs rfl (by kernel_rfl) .none (q_loadR rfl Tryz.isAgg3 hct) ?_
    refine .z 8 rfl (zfa fa_api_Limit_2) ?_; refine .y 9 rfl hs Tryz.isAgg3 ?_; refine .z 10 rfl zmul ?_
    refine .p (i := 11) rfl (by kernel_rfl) .none (q_add rfl rfl) ?_
    refine .z 12 rfl zg ?_; refine .done (by kernel_rfl) hs ?_
    refine nB (nT ?_)
    exact .mk ⟨rfl, hs.tail⟩ (hs := .cons rfl (.cons rfl (.cons rfl (.consI rfl (by rw [i64wrap_add]; simp only [dotTo, sumTo, hg]) (.cons rfl (.nil rfl rfl))))))
  · rintro fr w ⟨rfl, hs⟩
    rw [← hal, ← hd, i64wrap (by have := hv.2.2; simp only [BB] at this; omega)]
    refine nT ?_
    refine .regSeq (.z zm (.z zg (.nil ?_)))
    refine .ret (Fin.ret1 Tryz.results160 rfl ?_)
    exact ⟨rfl, hv.1, hv.2.2.1, hv.2.2.2, hs⟩
theorem bound_turned_spec {H : Heap} {w : World} {σ : List Ent} {vw : Value} {ws : List Int} (hs : St H w σ) (hrw : RI H vw ws) (hlw : ws.length ≤ 1000000) (hb : ∀ k, -9223372036854775807 ≤ gi ws k ∧ gi ws k ≤ 9223372036854775807) :
    Cl Tryz.prog 159 [vw] w fun v w' => ∃ H1, HLe H H1 ∧ RI H1 v (negW ws) ∧ St H1 w' σ := by
  obtain ⟨aw, cw, rfl⟩ := RI.shape hrw
  refine Cl.of Tryz.func159 rfl Tryz.ntmps159 (by simp) (args_cons (k := 0) rfl (args0)) ?_
  refine .regSeq (.z zg (.nil (.regSeq (.z zm (.z (zlen Tryz.runUnderlying22) ?_)))))
  refine .o (.makeI ws.length hs rfl rfl Tryz.runUnderlying22 Tryz.typeInfo3 rfl Tryz.sizeOf3 Tryz.zeroValue3 (by omega) ?_); intro b8 w hs
  refine .z zg (.nil (.seq (.regSeq (.z zm (.z (zlen Tryz.runUnderlying22) (.z zm (.nil ?_)))))))
  refine .for (N := ws.length) (J := fun k fr w => fr = [(9, .slice aw ws.length cw), (3, .slice (some ⟨b8, 0, none⟩) ws.length ws.length)] ∧ ∃ L, (L.length = ws.length ∧ ∀ v < ws.length, gi L v = if v < k then -gi ws v else 0) ∧ St H w (.blk b8 (Is L) :: σ)) (by omega) ?_ ?_ ?_
  · exact .mk ⟨rfl, _, ⟨by simp, fun v hv => by rw [gi_replicate _ _ hv, if_neg (by omega)]⟩, hs⟩
  · rintro k fr w hk ⟨rfl, L, ⟨hL1, hL2⟩, hs⟩
    have hx := gi_get hk
    have hbk := hb k
    refine .block (.regSeq (.z zm ?_))
    first | (refine .ixv hs Tryz.runUnderlying22 Tryz.sizeOf3 ?_; intro b14 o14 hc14) | refine .z (zix Tryz.runUnderlying22 Tryz.sizeOf3) ?_
    refine .y hs (zld Tryz.isAgg3) (.z zg (.z zg (.nil (.region (.z zm (.z zm (.z zm (.z zneg ?_))))))))
    first | (refine .ixv hs Tryz.runUnderlying22 Tryz.sizeOf3 ?_; intro b20 o20 hc20) | refine .z (zix Tryz.runUnderlying22 Tryz.sizeOf3) ?_
    refine .o (.store hs rfl rfl Tryz.sizeOf3 ?_); intro w hs
    refine .nil ?_
    refine nB (nT ?_)
    refine .mk ⟨rfl, _, ⟨by rw [List.length_set]; exact hL1, fun v hv => ?_⟩, hs⟩
    rw [gi_set (by omega)]
    by_cases e : v = k
    · subst e; rw [if_pos rfl, if_pos (by omega)]
    · rw [if_neg e, hL2 v hv]; congr 1; apply propext; omega
  · rintro fr w ⟨rfl, L, ⟨hL1, hL2⟩, hs⟩
    obtain rfl : L = negW ws := ext_gi (by simp [hL1, negW]) (fun k hk => by rw [hL2 k (by omega), if_pos (by omega), gi_neg])
    refine nT ?_
    refine .regSeq (.z zm (.z zg (.nil ?_)))
    refine .ret (Fin.ret1 Tryz.results159 rfl ?_)
    obtain ⟨H1, g1, g2, hs⟩ := hs.publish .here
    refine ⟨H1, g1, ?_, hs⟩
    rw [← hL1]
    exact Row.RI (spare := []) (by simpa using g2) _ (Nat.le_refl _) (by omega)
theorem bound_Range_spec {H : Heap} {w : World} {σ : List Ent} {v vw : Value} {s : Syst} {ws : List Int} (hs : St H w σ) (hr : RSy H v s) (hrw : RI H vw ws) :
    Cl Tryz.prog 74 [v, vw] w fun v w' => ∃ H1 lo hi e, HLe H H1 ∧ v = .tuple #[I lo, I hi, I e] ∧ RangeR s ws lo hi e ∧ St H1 w' σ := by
  obtain ⟨vl, rfl, hr⟩ := hr
  refine Cl.of Tryz.func74 rfl Tryz.ntmps74 (by simp) (args_cons (k := 0) rfl (args_cons (k := 1) rfl (args0))) ?_
  refine .regSeq ?_
  refine .o (.box hs rfl rfl ?_); intro b2 w hs
  refine .z zg (.z zg (.z zg (.nil (.regSeq (.y hs (zls [_, _] Tryz.isAgg70 Tryz.sizeOf70) (.z zm ?_))))))
  refine .o (.call Tryz.call158 rfl (bound_asked_spec (s := s) hs ⟨_, rfl, hr⟩ hrw) ?_); rintro _ w ⟨H1, e, pf, hle1, rfl, hA, hs, hne, heq⟩
  refine .z zm (.z zex (.z zex (.z zg (.z zg (.nil (.seq (.regSeq (.z zm (.z zneq ?_)))))))))
  refine .nil ?_
  refine (.condN rfl (fun hc16 => ?_) (fun hc16 => ?_))
  · refine .regSeq (.z zm (.z zg (.z zg (.z zg (.nil ?_)))))
    refine .ret (rT (Fin.ret3 Tryz.results74 rfl rfl rfl ?_))
    exact ⟨H1, _, _, _, hle1, rfl, .first ⟨hA, fun _ => rfl, fun h => (hc16 h).elim⟩ hc16, hs.tail⟩
  · refine .skip ?_
    refine nT ?_
    refine .seq (.draw mix rfl hs ?_); intro w hs
    refine .ys 0 rfl hs [_, _] Tryz.isAgg70 Tryz.sizeOf70 ?_; refine .z 1 rfl zm ?_
    refine .e1 (i := 2) (by kernel_rfl) rfl rfl .none hs ?_
    subst hc16
    obtain ⟨bf, bt, bl, cl, ts, lf, vl', sp, rfl, hF, hFo, hok, hsz⟩ := heq rfl
    have hwl := (askErr_ok hA.zero.1).2.1
    have hbw : ∀ k, -9223372036854775807 ≤ gi ws k ∧ gi ws k ≤ 9223372036854775807 := fun k => by
      simp only [FF] at hsz
      by_cases hk : k < s.n
      · have := sizes_at ws hk; omega
      · have : gi ws k = 0 := by simp [gi, List.getElem?_eq_none (show ws.length ≤ k by omega)]
        omega
    refine .call Tryz.call159 rfl (bound_turned_spec hs (hrw.mono hle1) (by have := hok.m1; simp only [Syst.n] at hwl; omega) hbw) ?_; rintro v21 w ⟨H2, hle2, hr21, hs⟩
    refine .go ?_
    refine .e1 (i := 3) (by kernel_rfl) rfl rfl .none hs ?_
    refine .call Tryz.call158 rfl (bound_asked_spec (s := s) hs ⟨_, rfl, hr.mono (hle1.trans hle2)⟩ hr21) ?_; rintro _ w ⟨H3, e2, pg, hle3, rfl, hA2, hs, hne2, heq2⟩
    refine .go ?_
    refine .z 4 rfl zm ?_; refine .z 5 rfl zex ?_; refine .z 6 rfl zex ?_; refine .z 7 rfl zg ?_; refine .z 8 rfl zg ?_; refine .done (by kernel_rfl) hs ?_
    refine .seq (.regSeq (.z zm (.z zneq (.nil ?_))))
    refine (.condN rfl (fun hc26 => ?_) (fun hc26 => ?_))
    · refine .regSeq (.z zm (.z zg (.z zg (.z zg (.nil ?_)))))
      refine .ret (rT (Fin.ret3 Tryz.results74 rfl rfl rfl ?_))
      obtain ⟨q1, q2, q3, q4⟩ := hFo.value (by simp [Syst.n]) (by have := hok.m0; have := hok.m1; simp only [Syst.n]; omega) hok.arcs hsz
      exact ⟨H3, _, _, _, hle1.trans (hle2.trans hle3), rfl, .second ⟨hA, fun h => (h rfl).elim, fun _ => ⟨q1, q3, q4⟩⟩ ⟨hA2, fun _ => rfl, fun h => (hc26 h).elim⟩ hc26, hs.tail⟩
    · refine .skip ?_
      refine nT ?_
      refine .regSeq (.z zm ?_)
      subst hc26
      obtain ⟨bf2, bt2, bl2, cl2, ts2, lf2, vl2, sp2, rfl, hF2, hFo2, hok2, hsz2⟩ := heq2 rfl
      refine .o (.call Tryz.call160 rfl (bound_flow_bound_spec hs hok hF2 hFo2 hsz2) ?_); rintro _ w ⟨rfl, a1, a2, a3, hs⟩
      simp only [BB] at a2 a3
      refine .z zneg (.z zm ?_)
      refine .o (.call Tryz.call160 rfl (bound_flow_bound_spec hs hok (hF.mono (hle2.trans hle3)) hFo hsz) ?_); rintro _ w ⟨rfl, c1, c2, c3, hs⟩
      refine .z zg (.z zg (.z zg (.nil ?_)))
      refine .ret (Fin.ret3 Tryz.results74 rfl rfl rfl ?_)
      exact ⟨H3, _, _, _, hle1.trans (hle2.trans hle3), rfl, .ok ⟨hA, fun h => (h rfl).elim, fun _ => ⟨c1, c2, c3⟩⟩ ⟨hA2, fun h => (h rfl).elim, fun _ => ⟨a1, by simp only [BB]; omega, by simp only [BB]; omega⟩⟩, hs.tail⟩
end Go.Proofs.YtddaejgfjlneoaaGreat

namespace Go.Proofs.YtddaejgfjlneoaaGreat
open Go.MW
structure Pck where
  probes : List Int
  width : Int
  bound : Int
  uses : List Use
  fails : List (List Int × List Int)
def Pck.none : Pck := ⟨[], 0, 0, [], []⟩
def RPick (H : Heap) (v : Value) (p : Pck) : Prop := ∃ (vp vu vf : Value) (css : List (List Value)), v = .agg #[vp, I p.width, I p.bound, vu, vf] ∧ RI H vp p.probes ∧ RU H vu p.uses ∧ RS H 2 vf css ∧ css.length = p.fails.length ∧ ∀ (j : Nat) (c : List Value) (t : List Int × List Int), css[j]? = some c → p.fails[j]? = some t → TwC H c t
theorem RPick.nil (H : Heap) : RPick H (.agg #[.slice none 0 0, I 0, I 0, .slice none 0 0, .slice none 0 0]) .none :=
  ⟨_, _, _, [], rfl, RS.nil _ _ _ _, RS.nil _ _ _ _, RS.nil _ _ _ _, rfl, fun _ _ _ h => by simp at h⟩
end Go.Proofs.YtddaejgfjlneoaaGreat

namespace Go.Proofs.YtddaejgfjlneoaaGreat
open Go.MW
def SettledR (a : Quest) (b : Bool) (e : Int) : Prop := (CAskR a e ∧ e ≠ 0 ∧ b = false) ∨ (AskOk a ∧ e = 0 ∧ ∃ lo hi, RangeR a.sys a.ws lo hi 0 ∧ b = decide (hi - lo ≤ a.width))
def SideR (a : Quest) (z x e : Int) : Prop := (CAskR a e ∧ e ≠ 0 ∧ x = 0) ∨ (AskOk a ∧ e = 0 ∧ ∃ lo hi, RangeR a.sys a.ws lo hi 0 ∧ x = if z ≤ lo then 1 else if hi < z then 0 else 2)
theorem WidthR.uniq {a : Quest} {n m e f : Int} (h : WidthR a n e) (g : WidthR a m f) : n = m ∧ e = f := by
  rcases h with ⟨h1, h2, h3⟩ | ⟨h1, h2, lo, hi, h3, h4⟩ <;> rcases g with ⟨g1, g2, g3⟩ | ⟨g1, g2, lo', hi', g3, g4⟩
  · exact ⟨by rw [h3, g3], h1.uniq g1⟩
  · exact (h2 (h1.uniq (CAskR.zero.2 g1))).elim
  · exact (g2 (g1.uniq (CAskR.zero.2 h1))).elim
  · obtain ⟨rfl, rfl, -⟩ := h3.uniq g3; exact ⟨by rw [h4, g4], by rw [h2, g2]⟩
theorem SettledR.uniq {a : Quest} {n m : Bool} {e f : Int} (h : SettledR a n e) (g : SettledR a m f) : n = m ∧ e = f := by
  rcases h with ⟨h1, h2, h3⟩ | ⟨h1, h2, lo, hi, h3, h4⟩ <;> rcases g with ⟨g1, g2, g3⟩ | ⟨g1, g2, lo', hi', g3, g4⟩
  · exact ⟨by rw [h3, g3], h1.uniq g1⟩
  · exact (h2 (h1.uniq (CAskR.zero.2 g1))).elim
  · exact (g2 (g1.uniq (CAskR.zero.2 h1))).elim
  · obtain ⟨rfl, rfl, -⟩ := h3.uniq g3; exact ⟨by rw [h4, g4], by rw [h2, g2]⟩
theorem SideR.uniq {a : Quest} {z n m e f : Int} (h : SideR a z n e) (g : SideR a z m f) : n = m ∧ e = f := by
  rcases h with ⟨h1, h2, h3⟩ | ⟨h1, h2, lo, hi, h3, h4⟩ <;> rcases g with ⟨g1, g2, g3⟩ | ⟨g1, g2, lo', hi', g3, g4⟩
  · exact ⟨by rw [h3, g3], h1.uniq g1⟩
  · exact (h2 (h1.uniq (CAskR.zero.2 g1))).elim
  · exact (g2 (g1.uniq (CAskR.zero.2 h1))).elim
  · obtain ⟨rfl, rfl, -⟩ := h3.uniq g3; exact ⟨by rw [h4, g4], by rw [h2, g2]⟩
end Go.Proofs.YtddaejgfjlneoaaGreat

namespace Go.Proofs.YtddaejgfjlneoaaGreat
open Go.MW
def PairsR (a : Quest) (l : List Prb) (S : Syst) (W : List Int) (e : Int) : Prop := (CPrbR a l e ∧ e ≠ 0 ∧ S = ⟨0, []⟩ ∧ W = []) ∨ (CPrbR a l 0 ∧ e = 0 ∧ S = dblS a l ∧ W = dblW a.ws)
theorem PairsR.uniq {a : Quest} {l : List Prb} {S T : Syst} {W V : List Int} {e f : Int} (h : PairsR a l S W e) (g : PairsR a l T V f) : S = T ∧ W = V ∧ e = f := by
  rcases h with ⟨h1, h2, h3, h4⟩ | ⟨h1, h2, h3, h4⟩ <;> rcases g with ⟨g1, g2, g3, g4⟩ | ⟨g1, g2, g3, g4⟩
  · exact ⟨by rw [h3, g3], by rw [h4, g4], h1.uniq g1⟩
  · exact (h2 (h1.uniq g1)).elim
  · exact (g2 (g1.uniq h1)).elim
  · exact ⟨by rw [h3, g3], by rw [h4, g4], by rw [h2, g2]⟩
def WorstR (a : Quest) (l : List Prb) (n e : Int) : Prop := (CPrbR a l e ∧ e ≠ 0 ∧ n = 0) ∨ (CPrbR a l 0 ∧ e = 0 ∧ PairS a l n)
theorem WorstR.uniq {a : Quest} {l : List Prb} {n m e f : Int} (h : WorstR a l n e) (g : WorstR a l m f) : n = m ∧ e = f := by
  rcases h with ⟨h1, h2, h3⟩ | ⟨h1, h2, h3⟩ <;> rcases g with ⟨g1, g2, g3⟩ | ⟨g1, g2, g3⟩
  · exact ⟨by rw [h3, g3], h1.uniq g1⟩
  · exact (h2 (h1.uniq g1)).elim
  · exact (g2 (g1.uniq h1)).elim
  · exact ⟨h3.uniq g3, by rw [h2, g2]⟩
end Go.Proofs.YtddaejgfjlneoaaGreat

namespace Go.Proofs.YtddaejgfjlneoaaGreat
open Go.MW
inductive CWR (a : Quest) (l : List Prb) (n m : Int) (us : List Use) : Int → Prop
  | ask {e : Int} (h : CPrbR a l e) (he : e ≠ 0) : CWR a l n m us e
  | bad {e : Int} (h : CPrbR a l 0) (h1 : ProofR (dblS a l) (dblW a.ws) m us e) (he : e ≠ 0) : CWR a l n m us 24
  | more (h : CPrbR a l 0) (h1 : ProofR (dblS a l) (dblW a.ws) m us 0) (he : n < m) : CWR a l n m us 94
  | ok (h : CPrbR a l 0) (h1 : ProofR (dblS a l) (dblW a.ws) m us 0) (he : ¬ n < m) : CWR a l n m us 0
theorem CWR.uniq {a : Quest} {l : List Prb} {n m : Int} {us : List Use} {e f : Int} (h : CWR a l n m us e) (g : CWR a l n m us f) : e = f := by
  cases h with
  | ask h he =>
    cases g with
    | ask g _ => exact h.uniq g
    | bad g _ _ => exact (he (h.uniq g)).elim
    | more g _ _ => exact (he (h.uniq g)).elim
    | ok g _ _ => exact (he (h.uniq g)).elim
  | bad h h1 he =>
    cases g with
    | ask g ge => exact (ge (g.uniq h)).elim
    | bad g _ _ => rfl
    | more g g1 _ => exact (he (h1.uniq g1)).elim
    | ok g g1 _ => exact (he (h1.uniq g1)).elim
  | more h h1 he =>
    cases g with
    | ask g ge => exact (ge (g.uniq h)).elim
    | bad g g1 ge => exact (ge (g1.uniq h1)).elim
    | more g _ _ => rfl
    | ok g _ ge => exact (ge he).elim
  | ok h h1 he =>
    cases g with
    | ask g ge => exact (ge (g.uniq h)).elim
    | bad g g1 ge => exact (ge (g1.uniq h1)).elim
    | more g _ ge => exact (he ge).elim
    | ok g _ _ => rfl
end Go.Proofs.YtddaejgfjlneoaaGreat

namespace Go.Proofs.YtddaejgfjlneoaaGreat
open Go.MW
theorem slices_Reverse_int {H : Heap} {w : World} {σ : List Ent} {v : Value} {l : List Int} {en : Ent} (hs : St H w (en :: σ)) (ho : OwnS 1 v (Is l) en) (hl : l.length ≤ 1000000) :
    Cl Tryz.prog 128 [v] w fun _ w' => ∃ en', OwnS 1 v (Is l.reverse) en' ∧ St H w' (en' :: σ) := by
  rcases ho with ⟨a, rfl, h2, rfl⟩ | ⟨b, len, cap, sp, rfl, rfl, h2, h3, h4⟩
  · obtain rfl : l = [] := by
      have := congrArg List.length h2
      exact List.length_eq_zero_iff.1 (by simpa using this)
    have hs := hs.tail
    refine Cl.of Tryz.func128 rfl Tryz.ntmps128 (by simp) (args_cons (k := 0) rfl (args0)) ?_
    refine .regSeq (.z zm (.z (zlen Tryz.runUnderlying22) (.z zsub (.z zg (.z zg (.nil (.block ?_)))))))
    refine .loop (fun _ : Unit => ⟨28, [], [(2, I 0), (3, I (-1))]⟩) (fun _ w => St H w σ) (fun _ => 0) () (by repeat (first | exact .nil rfl rfl | refine .cons rfl ?_)) hs ?_
    rintro _ w hs
    refine .seq (.regSeq (.z zm (.z zm (.z zlss (.nil ?_)))))
    refine (.condD rfl (fun hc9 => ?_) (fun hc9 => ?_))
    · omega
    · refine .exit ?_
      refine xT (xT (xB ?_))
      exact Fin.end0 Tryz.results128 ⟨.nul, .nil 1 a, hs.nul⟩
  obtain rfl : len = l.length := by simpa using h2.symm
  refine Cl.of Tryz.func128 rfl Tryz.ntmps128 (by simp) (args_cons (k := 0) rfl (args0)) ?_
  refine .regSeq (.z zm (.z (zlen Tryz.runUnderlying22) (.z zsub (.z zg (.z zg (.nil (.block ?_)))))))
  refine .loop (fun p : Nat × List Int => ⟨28, [], [(2, I p.1), (3, I ((l.length : Int) - 1 - p.1)), (0, .slice (some ⟨b, 0, none⟩) l.length cap)]⟩) (fun p w => (2 * p.1 ≤ l.length + 1 ∧ TurnedI l p.2 p.1) ∧ St H w (.blk b (Is p.2 ++ sp) :: σ)) (fun p => l.length - p.1) (0, l) (.cons rfl (.consI rfl (by simp) (.cons rfl (.nil rfl rfl)))) ⟨⟨by simp, .start l⟩, hs⟩ ?_
  rintro ⟨i, L⟩ w ⟨⟨h5, h6⟩, hs⟩
  dsimp only at h5 h6 hs ⊢
  have hL := h6.1
  refine .seq (.regSeq (.z zm (.z zm (.z zlss (.nil ?_)))))
  refine (.condD rfl (fun hc9 => ?_) (fun hc9 => ?_))
  · refine .skip ?_
    refine nT ?_
    refine .seq (.block ?_)
    refine .draw mix rfl hs ?_; intro w hs
    refine .z 0 rfl zm ?_; refine .z 1 rfl zm ?_; refine .z 2 rfl zm ?_; refine .z 3 rfl zm ?_; refine .z 4 rfl zm ?_; refine .z 5 rfl zm ?_
    refine .p (i := 6) rfl (by kernel_rfl) .none (q_ixO (k := l.length - 1 - i) rfl rfl Tryz.runUnderlying22 Tryz.sizeOf3 (by omega) (by omega)) ?_
    refine .load (i := 7) hs rfl (by kernel_rfl) .none rfl Tryz.isAgg3 ?_ (hv := Is_gi_sp (by omega) sp)
    refine .z 8 rfl zm ?_; refine .z 9 rfl zm ?_
    first | (refine .ixv 10 rfl hs Tryz.runUnderlying22 Tryz.sizeOf3 ?_; intro b24 o24 hc24) | refine .z 10 rfl (zix Tryz.runUnderlying22 Tryz.sizeOf3) ?_
    refine .load (i := 11) hs rfl (by kernel_rfl) .none rfl Tryz.isAgg3 ?_ (hv := Is_gi_sp (by omega) sp)
    first | (refine .ixv 12 rfl hs Tryz.runUnderlying22 Tryz.sizeOf3 ?_; intro b26 o26 hc26) | refine .z 12 rfl (zix Tryz.runUnderlying22 Tryz.sizeOf3) ?_
    refine .e1 (i := 13) (by kernel_rfl) rfl rfl .none hs ?_
    refine .store hs rfl rfl Tryz.sizeOf3 ?_ (by repeat constructor) (by simp; omega) (Is_set_sp (by omega) sp _); intro w hs
    refine .go ?_
    refine .p (i := 14) rfl (by kernel_rfl) .none (q_ixO (k := l.length - 1 - i) rfl rfl Tryz.runUnderlying22 Tryz.sizeOf3 (by omega) (by omega)) ?_
    refine .e1 (i := 15) (by kernel_rfl) rfl rfl .none hs ?_
    refine .store hs rfl rfl Tryz.sizeOf3 ?_ (by repeat constructor) (by simp; omega) (Is_set_sp (by simp; omega) sp _); intro w hs
    refine .go ?_
    refine .done (by kernel_rfl) hs ?_
    refine nB (nT ?_)
    refine .region (.z zm (.z zadd (.z zm (.z zsub (.z zg (.z zg (.nil ?_)))))))
    refine nT ?_
    exact ⟨(i + 1, _), .cons rfl (.consI rfl (by push_cast; omega) (.cons rfl (.nil rfl rfl))), ⟨⟨by dsimp only; omega, h6.step (by omega)⟩, hs⟩, by dsimp only; omega⟩
  · refine .exit ?_
    refine xT (xT (xB ?_))
    rw [h6.done (by omega)] at hs
    exact Fin.end0 Tryz.results128 ⟨_, .inr ⟨b, l.length, cap, sp, rfl, rfl, by simp, by rw [← h3]; simp, h4⟩, hs⟩
inductive CycR (s : Syst) (xs : List Int) : Int → Prop
  | bad (h : s.check ≠ 0) (h1 : xs = []) : CycR s xs s.check
  | sound (h : s.Ok) (h1 : s.Sound) (h2 : xs = []) : CycR s xs 0
  | chain {st : BS} {x : Arc} {z k : Nat} (h : s.Ok) (h1 : ¬ s.Sound) (h2 : NearR s.n s.arcs st (some x)) (h3 : z = parK st.by_ x.t (s.n + 1)) (h4 : 1 ≤ k) (h5 : k ≤ s.n) (h6 : parK st.by_ z k = z) (h7 : xs = (idxTo st.by_ z k).reverse) : CycR s xs 0
theorem CycR.sound_iff {s : Syst} {xs : List Int} (h : CycR s xs 0) : xs = [] ↔ s.Sound := by
  generalize hz : (0 : Int) = y at h
  cases h with
  | bad h => exact (h hz.symm).elim
  | sound _ h1 h2 => exact ⟨fun _ => h1, fun _ => h2⟩
  | @chain st x z k _ h1 _ _ h4 _ _ h7 => exact ⟨fun h => by
      have := congrArg List.length (h7.symm.trans h)
      rw [List.length_reverse, idxTo_length] at this
      simp at this; omega, fun h => (h1 h).elim⟩
set_option maxHeartbeats 4000000 in
theorem bound_Cycle_spec {H : Heap} {w : World} {σ : List Ent} {v : Value} {s : Syst} (hs : St H w σ) (hr : RSy H v s) :
    Cl Tryz.prog 51 [v] w fun u w' => ∃ H1 vx xs e, HLe H H1 ∧ u = .tuple #[vx, I e] ∧ RI H1 vx xs ∧ CycR s xs e ∧ St H1 w' σ := by
  obtain ⟨u, rfl, hr⟩ := hr
  obtain ⟨al, cl, rfl⟩ := RL.shape hr
  refine Cl.of Tryz.func51 rfl Tryz.ntmps51 (by simp) (args_cons (k := 0) rfl (args0)) ?_
  refine .regSeq ?_
  refine .o (.box hs rfl rfl ?_); intro b1 w hs
  refine .z zg (.z zg (.nil (.seq (.regSeq (.y hs (zls [_, _] Tryz.isAgg70 Tryz.sizeOf70) ?_)))))
  refine .o (.call Tryz.call125 rfl (bound_Check_spec (s := s) hs ⟨_, rfl, hr⟩) ?_); rintro _ w ⟨rfl, hs⟩
  refine .z zg (.nil (.regSeq (.z zm (.z zneq (.nil ?_)))))
  refine (.condN rfl (fun hc14 => ?_) (fun hc14 => ?_))
  · refine .regSeq (.z zm (.z zg (.z zg (.nil ?_))))
    refine .ret (rT (Fin.ret2 Tryz.results51 rfl rfl ?_))
    exact ⟨H, _, [], _, HLe.refl H, rfl, RS.nil H 1 none 0, .bad hc14 rfl, hs.out⟩
  · refine .skip ?_
    refine nT ?_
    refine .seq (.draw mix rfl hs ?_); intro w hs
    refine .z 0 rfl (zfa fa_api_System_0) ?_; refine .y 1 rfl hs Tryz.isAgg3 ?_; refine .ys 2 rfl hs [_, _] Tryz.isAgg70 Tryz.sizeOf70 ?_
    refine .e1 (i := 3) (by kernel_rfl) rfl rfl .none hs ?_
    have hok : s.Ok := s.ok_iff.1 (by simpa using hc14)
    have hoka := hok.arcs
    have hn : s.n = s.many.toNat + 1 := rfl
    have hm0 := hok.m0
    have hm1 := hok.m1
    refine .call Tryz.call127 rfl (bound_steps_spec (s := s) hs hok ⟨_, rfl, hr⟩) ?_; rintro _ w ⟨H1, b10, hle1, rfl, hit, hs⟩
    refine .go ?_
    refine .e1 (i := 4) (by kernel_rfl) rfl rfl .none hs ?_
    have hnear := bound_nearest_spec (N := s.many.toNat) hs (by omega) (by rw [← hn]; exact hoka) hit Tryz.call203
    rw [Int.toNat_of_nonneg hm0] at hnear
    refine .call Tryz.call126 rfl hnear ?_; rintro _ w ⟨H2, bc, bb, st, ov, vo, hle2, rfl, hov, hnr, hs⟩
    obtain ⟨a', rfl, ha'⟩ := hov.ptr
    refine .go ?_
    refine .z 5 rfl zm ?_; refine .z 6 rfl zex ?_; refine .z 7 rfl zex ?_; refine .z 8 rfl zex ?_; refine .z 9 rfl zg ?_; refine .z 10 rfl zg ?_; refine .z 11 rfl zg ?_; refine .done (by kernel_rfl) hs ?_
    refine .seq (.regSeq (.z zm ?_))
    refine .q hs (q_eqPN rfl rfl Tryz.runUnderlying183) ?_
    refine .nil ?_
    refine (.cond rfl (fun hc26 => ?_) (fun hc26 => ?_))
    · refine .regSeq (.z zg (.z zg (.nil ?_)))
      refine .ret (rT (Fin.ret2 Tryz.results51 rfl rfl ?_))
      exact ⟨H2, _, [], 0, hle1.trans hle2, rfl, RS.nil H2 1 none 0, .sound hok (by
        obtain ⟨r, hN2, hr2⟩ := hnr
        cases ov with
        | none => exact ⟨_, (hN2.sol (by rw [← hn]; exact hoka) (by omega)).1⟩
        | some x => rw [ha'] at hc26; cases hc26) rfl, hs.out⟩
    · refine .skip ?_
      refine nT ?_
      refine .regSeq (.z zm ?_)
      obtain ⟨x, rfl⟩ := OvR.yes ha' hc26
      obtain ⟨b3, e3, hrow⟩ := hov
      cases e3
      have hrowT : cellAt H2 b3 1 = some (I x.t) := hrow.at 1
      have hmn : s.many + 2 = ((s.many.toNat + 2 : Nat) : Int) := by omega
      have hns : ¬ s.Sound := by
        obtain ⟨r, hN2, hr2⟩ := hnr
        exact hN2.none (by rw [← hn]; exact hoka) (by omega) (by have := hr2 (by simp); omega)
      obtain ⟨hlb, hrg, hxt⟩ : st.by_.length = s.many.toNat + 1 ∧ (∀ v < s.many.toNat + 1, (ga st.by_ v).f < s.many.toNat + 1) ∧ x.t < s.many.toNat + 1 := by
        obtain ⟨r, hN2, hr2⟩ := hnr
        exact ⟨hN2.lb, fun v hv => (hN2.rg v hv).1, (hoka.2 x (hN2.ovm x rfl)).2.1⟩
      have hpl := fun k => parK_lt hrg hxt k
      refine .z znc (.z (zfa fa_bound_step_1) ?_)
      refine .q hs (q_loadR rfl Tryz.isAgg3 hrowT) ?_
      refine .z zg (.nil (.seq (.regSeq (.z (zfa fa_api_System_0) (.y hs (zld Tryz.isAgg3) (.z zadd ?_))))))
      rw [hmn]
      refine .z zm (.nil ?_)
      refine .for (N := s.many.toNat + 2) (J := fun k fr w => fr = [(8, I (parK st.by_ x.t k)), (6, .slice (some ⟨bb, 0, none⟩) (s.many.toNat + 1) (s.many.toNat + 1))] ∧ St H2 w (.blk bc (Is st.cost) :: .blk bb (Arcs st.by_) :: .blk b1 [I s.many, .slice al s.lims.length cl] :: σ)) (by omega) ?_ ?_ ?_
      · exact .mk ⟨rfl, hs⟩
      · rintro k fr w hk ⟨rfl, hs⟩
        refine .block (.region (.z zm (.z zm ?_)))
        refine .q hs (q_ixOm (k := parK st.by_ x.t k) rfl rfl Tryz.runUnderlying182 Tryz.sizeOf189 rfl (hpl k)) ?_
        refine .z (zfa fa_bound_step_0) ?_
        refine .q hs (q_load rfl Tryz.isAgg3 (.there .here) (Arcs_get (j := 0) (by rw [hlb]; exact hpl k) (by decide))) ?_
        refine .z zg (.nil ?_)
        refine nB (nT ?_)
        exact .mk ⟨rfl, hs.out⟩
      · rintro fr w ⟨rfl, hs⟩
        obtain ⟨pd, hp1, hp2, hp3⟩ := parK_round hrg hxt (m := s.many.toNat + 2) (by omega)
        have hzl := hpl (s.many.toNat + 2)
        generalize hz : parK st.by_ x.t (s.many.toNat + 2) = z at hp3 hzl ⊢
        have hzk := fun k => parK_lt hrg hzl k
        refine nT ?_
        refine .regSeq (.z zg (.nil (.seq (.regSeq (.z zm (.z zg (.nil (.block ?_))))))))
        refine .loop (fun p : Nat × Value => ⟨62, [], [(9, p.2), (8, I (parK st.by_ z p.1)), (10, I z), (6, .slice (some ⟨bb, 0, none⟩) (s.many.toNat + 1) (s.many.toNat + 1))]⟩)
          (fun p w => p.1 < pd ∧ ∃ en, OwnS 1 p.2 (Is (idxTo st.by_ z p.1)) en ∧ St H2 w (en :: .blk bc (Is st.cost) :: .blk bb (Arcs st.by_) :: .blk b1 [I s.many, .slice al s.lims.length cl] :: σ))
          (fun p => pd - p.1) (0, .slice none 0 0) (by repeat (first | exact .nil rfl rfl | refine .cons rfl ?_))
          ⟨by omega, _, .nil 1 none, hs.nul⟩ ?_
        rintro ⟨k, v9⟩ w ⟨hk, en, hO, hs⟩
        dsimp only at hk hO ⊢
        refine .block (.regSeq (.z zm (.z zm (.z zm ?_))))
        refine .q hs (q_ixOm (k := parK st.by_ z k) rfl rfl Tryz.runUnderlying182 Tryz.sizeOf189 rfl (hzk k)) ?_
        refine .z (zfa fa_bound_step_3) ?_
        refine .q hs (q_load rfl Tryz.isAgg3 (.there (.there .here)) (Arcs_get (j := 3) (by rw [hlb]; exact hzk k) (by decide))) ?_
        refine .o (.buildSlice (cells := [_]) hs bls_sl_int_1 rfl rfl ?_); intro b49 w hs
        refine .o (.append (ys := [I (ga st.by_ (parK st.by_ z k)).l]) hs app_sl_int_int rfl rfl hO (.own .here rfl rfl) (by simp [Value.oneCell']) (fun l' h => by simp [idxTo] at h; omega) ?_); intro v50 en50 w hO2 hs
        refine .z zg (.nil (.regSeq (.z zm (.z zm ?_))))
        refine .q hs (q_ixOm (k := parK st.by_ z k) rfl rfl Tryz.runUnderlying182 Tryz.sizeOf189 rfl (hzk k)) ?_
        refine .z (zfa fa_bound_step_0) ?_
        refine .q hs (q_load rfl Tryz.isAgg3 (by repeat (first | exact .here | refine .there ?_)) (Arcs_get (j := 0) (by rw [hlb]; exact hzk k) (by decide))) ?_
        refine .z zg (.nil (.regSeq (.z zm (.z zm (.z zeql (.nil ?_))))))
        refine (.condD rfl (fun hc58 => ?_) (fun hc58 => ?_))
        · refine .exit ?_
          refine xN (xT (xB (nT ?_)))
          refine .regSeq (.z zm ?_)
          have hO3 : OwnS 1 v50 (Is (idxTo st.by_ z (k + 1))) en50 := by rw [idxTo_succ]; simpa [Is] using hO2
          have hkz : parK st.by_ z (k + 1) = z := by
            have h3 : ((ga st.by_ (parK st.by_ z k)).f : Int) = z := by simpa using hc58
            show (ga st.by_ (parK st.by_ z k)).f = z
            omega
          refine .o (.call Tryz.call128 rfl (slices_Reverse_int hs hO3 (by rw [idxTo_length]; omega)) ?_); rintro _ w ⟨en', hO4, hs⟩
          refine .nil (.regSeq (.z zm (.z zg (.z zg (.nil ?_)))))
          refine .ret (Fin.ret2 Tryz.results51 rfl rfl ?_)
          obtain ⟨H3, hle3, hRI, hs⟩ := OwnS.publishI hO4 (by rw [List.length_reverse, idxTo_length]; omega) hs .here
          exact ⟨H3, _, _, 0, hle1.trans (hle2.trans hle3), rfl, hRI, .chain hok hns (by rw [hn]; exact hnr) (by rw [hn]; exact hz.symm) (by omega) (by omega) hkz rfl, hs.sub (by repeat (first | exact Sub.refl _ | constructor | apply Sub.weaken))⟩
        · refine .skip ?_
          refine nB (nT ?_)
          exact ⟨(k + 1, v50), by repeat (first | exact .nil rfl rfl | refine .cons rfl ?_), ⟨by
            dsimp only
            have : k + 1 ≠ pd := fun e => hc58 (congrArg (Nat.cast : Nat → Int) (show parK st.by_ z (k + 1) = z by rw [e]; exact hp3))
            omega, en50, by rw [idxTo_succ]; simpa [Is] using hO2, hs.sub (by repeat (first | exact Sub.refl _ | constructor | apply Sub.weaken))⟩, by dsimp only; omega⟩
end Go.Proofs.YtddaejgfjlneoaaGreat

namespace Go.Proofs.YtddaejgfjlneoaaGreat
open Go.MW
def ROut (H : Heap) (v : Value) (vs : List Int) : Prop := ∃ u, v = .agg #[u] ∧ RI H u vs
theorem ROut.mono {H H' : Heap} {v : Value} {vs : List Int} (h : ROut H v vs) (hl : HLe H H') : ROut H' v vs := by
  obtain ⟨u, h1, h2⟩ := h; exact ⟨u, h1, h2.mono hl⟩
end Go.Proofs.YtddaejgfjlneoaaGreat

namespace Go.Proofs.YtddaejgfjlneoaaGreat
open Go.MW
inductive COutR (a : Quest) (l : List Prb) (vs : List Int) : Int → Prop
  | ask {e : Int} (h : CPrbR a l e) (he : e ≠ 0) : COutR a l vs e
  | size (h : CPrbR a l 0) (h1 : vs.length ≠ l.length) : COutR a l vs 92
  | ok (h : CPrbR a l 0) (h1 : vs.length = l.length) : COutR a l vs 0
theorem COutR.zero {a : Quest} {l : List Prb} {vs : List Int} (h : COutR a l vs 0) : CPrbR a l 0 ∧ vs.length = l.length := by
  generalize hz : (0 : Int) = y at h
  cases h with
  | ask _ he => exact (he hz.symm).elim
  | size => omega
  | ok h h1 => exact ⟨h, h1⟩
theorem COutR.uniq {a : Quest} {l : List Prb} {vs : List Int} {e f : Int} (h : COutR a l vs e) (g : COutR a l vs f) : e = f := by
  cases h with
  | ask h he =>
    cases g with
    | ask g _ => exact h.uniq g
    | size g _ => exact (he (h.uniq g)).elim
    | ok g _ => exact (he (h.uniq g)).elim
  | size h h1 =>
    cases g with
    | ask g ge => exact (ge (g.uniq h)).elim
    | size => rfl
    | ok _ g1 => exact (h1 g1).elim
  | ok h h1 =>
    cases g with
    | ask g ge => exact (ge (g.uniq h)).elim
    | size _ g1 => exact (g1 h1).elim
    | ok => rfl
end Go.Proofs.YtddaejgfjlneoaaGreat

namespace Go.Proofs.YtddaejgfjlneoaaGreat
open Go.MW
structure KeepsP (s : Syst) (x : List Int) : Prop where
  len : x.length = s.n
  zero : gi x 0 = 0
  free : ∀ v < s.n, -1000000000 ≤ gi x v ∧ gi x v ≤ 1000000000
  feas : Feas s.arcs (gi x)
end Go.Proofs.YtddaejgfjlneoaaGreat

namespace Go.Proofs.YtddaejgfjlneoaaGreat
open Go.MW
inductive CPtR (s : Syst) (x : List Int) : Int → Prop
  | bad (h : s.check ≠ 0) : CPtR s x s.check
  | off (h : s.Ok) (h1 : ¬ KeepsP s x) : CPtR s x 25
  | ok (h : s.Ok) (h1 : KeepsP s x) : CPtR s x 0
theorem CPtR.uniq {s : Syst} {x : List Int} {e f : Int} (h : CPtR s x e) (g : CPtR s x f) : e = f := by
  cases h with
  | bad h =>
    cases g with
    | bad => rfl
    | off g _ => exact (h (s.ok_iff.2 g)).elim
    | ok g _ => exact (h (s.ok_iff.2 g)).elim
  | off h h1 =>
    cases g with
    | bad g => exact (g (s.ok_iff.2 h)).elim
    | off => rfl
    | ok _ g1 => exact (h1 g1).elim
  | ok h h1 =>
    cases g with
    | bad g => exact (g (s.ok_iff.2 h)).elim
    | off _ g1 => exact (g1 h1).elim
    | ok => rfl
end Go.Proofs.YtddaejgfjlneoaaGreat

namespace Go.Proofs.YtddaejgfjlneoaaGreat
open Go.MW
def ValR (a : Quest) (p : Prb) (lo hi e : Int) : Prop := (CPrbR a [p] e ∧ e ≠ 0 ∧ lo = 0 ∧ hi = 0) ∨ (CPrbR a [p] 0 ∧ e = 0 ∧ ∃ l h, RangeR a.sys (oneW a.sys.many p.u) l h 0 ∧ lo = l - p.t ∧ hi = h + p.t)
theorem ValR.uniq {a : Quest} {p : Prb} {lo hi e lo' hi' e' : Int} (h : ValR a p lo hi e) (g : ValR a p lo' hi' e') : lo = lo' ∧ hi = hi' ∧ e = e' := by
  rcases h with ⟨h1, h2, h3, h4⟩ | ⟨h1, h2, l, u, h3, h4, h5⟩
  · rcases g with ⟨g1, g2, g3, g4⟩ | ⟨g1, g2, _⟩
    · exact ⟨by omega, by omega, h1.uniq g1⟩
    · exact (h2 (h1.uniq g1)).elim
  · rcases g with ⟨g1, g2, g3, g4⟩ | ⟨g1, g2, l', u', g3, g4, g5⟩
    · exact (g2 (g1.uniq h1)).elim
    · obtain ⟨rfl, rfl, _⟩ := h3.uniq g3
      exact ⟨by omega, by omega, by omega⟩
end Go.Proofs.YtddaejgfjlneoaaGreat

namespace Go.Proofs.YtddaejgfjlneoaaGreat
open Go.MW
def apartV (a : Quest) (A B : List Int) (k : Nat) : Int := sumTo (fun i => gi a.ws i * (gi B i - gi A i)) k
inductive ApR (a : Quest) (l : List Prb) (A B : List Int) : Int → Int → Prop
  | point (h1 : ¬ (KeepsP a.sys A ∧ KeepsP a.sys B)) : ApR a l A B 0 25
  | far (h1 : KeepsP a.sys A) (h2 : KeepsP a.sys B) (h3 : ¬ Near l (gi A) (gi B)) : ApR a l A B 0 92
  | ok (h1 : KeepsP a.sys A) (h2 : KeepsP a.sys B) (h3 : Near l (gi A) (gi B)) : ApR a l A B (IntKind.i64.wrap (apartV a A B a.ws.length)) 0
theorem ApR.uniq {a : Quest} {l : List Prb} {A B : List Int} {n m e f : Int} (h : ApR a l A B n e) (g : ApR a l A B m f) : n = m ∧ e = f := by
  cases h with
  | point h1 =>
    cases g with
    | point => exact ⟨rfl, rfl⟩
    | far g1 g2 _ => exact (h1 ⟨g1, g2⟩).elim
    | ok g1 g2 _ => exact (h1 ⟨g1, g2⟩).elim
  | far h1 h2 h3 =>
    cases g with
    | point g1 => exact (g1 ⟨h1, h2⟩).elim
    | far => exact ⟨rfl, rfl⟩
    | ok _ _ g3 => exact (h3 g3).elim
  | ok h1 h2 h3 =>
    cases g with
    | point g1 => exact (g1 ⟨h1, h2⟩).elim
    | far _ _ g3 => exact (g3 h3).elim
    | ok => exact ⟨rfl, rfl⟩
def TwnR (a : Quest) (l : List Prb) (A B : List Int) (n e : Int) : Prop := (CPrbR a l e ∧ e ≠ 0 ∧ n = 0) ∨ (CPrbR a l 0 ∧ ApR a l A B n e)
theorem TwnR.uniq {a : Quest} {l : List Prb} {A B : List Int} {n m e f : Int} (h : TwnR a l A B n e) (g : TwnR a l A B m f) : n = m ∧ e = f := by
  rcases h with ⟨h1, h2, h3⟩ | ⟨h1, h2⟩
  · rcases g with ⟨g1, g2, g3⟩ | ⟨g1, g2⟩
    · exact ⟨by omega, h1.uniq g1⟩
    · exact (h2 (h1.uniq g1)).elim
  · rcases g with ⟨g1, g2, g3⟩ | ⟨g1, g2⟩
    · exact (g2 (g1.uniq h1)).elim
    · exact h2.uniq g2
end Go.Proofs.YtddaejgfjlneoaaGreat

namespace Go.Proofs.YtddaejgfjlneoaaGreat
open Go.MW
structure TwinF (a : Quest) (l : List Prb) (A B : List Int) : Prop where
  kA : KeepsP a.sys A
  kB : KeepsP a.sys B
  near : Near l (gi A) (gi B)
  most : PairS a l (apartV a A B a.ws.length)
  meet : meetErr A B l = 0
end Go.Proofs.YtddaejgfjlneoaaGreat

namespace Go.Proofs.YtddaejgfjlneoaaGreat
open Go.MW
theorem BestP.uniq {a : Quest} {l : List Prb} {x y e f : Int} (h : BestP a l x e) (g : BestP a l y f) : x = y ∧ e = f := by
  rcases h with ⟨h1, h2, h3⟩ | ⟨i, n, h1, h2, h3⟩
  · rcases g with ⟨g1, g2, g3⟩ | ⟨j, m, g1, g2, g3⟩
    · exact ⟨by omega, by omega⟩
    · subst h1; have := g3.lt; simp at this
  · rcases g with ⟨g1, g2, g3⟩ | ⟨j, m, g1, g2, g3⟩
    · subst g1; have := h3.lt; simp at this
    · refine ⟨?_, by omega⟩
      have e1 := h3.le j g3.lt m g3.here
      have e2 := g3.le i h3.lt n h3.here
      rcases Nat.lt_trichotomy i j with e | e | e
      · have := g3.first i e n h3.here; omega
      · omega
      · have := h3.first j e m g3.here; omega
end Go.Proofs.YtddaejgfjlneoaaGreat

namespace Go.Proofs.YtddaejgfjlneoaaGreat
open Go.MW
theorem TwinF.wrap {a : Quest} {l : List Prb} {A B : List Int} (hok : AskOk a) (h : TwinF a l A B) (hin : ∀ p ∈ l, PrbIn a p) : IntKind.i64.wrap (apartV a A B a.ws.length) = apartV a A B a.ws.length := by
  obtain ⟨lo, hi, hR⟩ := hok.range
  have hb := hR.bd
  obtain ⟨⟨x, y, g1, g2⟩, g3⟩ := h.most
  have h1 := Pair.le hR g1
  obtain ⟨z, hz⟩ := Pair.some hok hin
  have h2 := g3 z z hz
  exact i64wrap (by omega)
end Go.Proofs.YtddaejgfjlneoaaGreat

namespace Go.Proofs.YtddaejgfjlneoaaGreat
open Go.MW
def gtw (p : Pck) (j : Nat) : List Int × List Int := p.fails.getD j ([], [])
structure GoodK (a : Quest) (l : List Prb) (p : Pck) (k : Nat) : Prop where
  here : (choicesL l.length)[k]? = some p.probes
  len : p.fails.length = k
  width : p.width ≤ a.width
  worst : CWR a (chosenL l p.probes) p.width p.bound p.uses 0
  fails : ∀ (j : Nat) (cj : List Int), j < k → (choicesL l.length)[j]? = some cj → ∃ n, ApR a (chosenL l cj) (gtw p j).1 (gtw p j).2 n 0 ∧ a.width < n
def PickR (a : Quest) (l : List Prb) (p : Pck) (e : Int) : Prop := (CPrbR a l e ∧ e ≠ 0) ∨ (CPrbR a l 0 ∧ ((e = 0 ∧ ∃ k, GoodK a l p k) ∨ (e = 93 ∧ ¬ ∃ k, GoodK a l p k)))
theorem PickR.uniq {a : Quest} {l : List Prb} {p : Pck} {e f : Int} (h : PickR a l p e) (g : PickR a l p f) : e = f := by
  rcases h with ⟨h1, h2⟩ | ⟨h1, h2⟩
  · rcases g with ⟨g1, g2⟩ | ⟨g1, g2⟩
    · exact h1.uniq g1
    · exact (h2 (h1.uniq g1)).elim
  · rcases g with ⟨g1, g2⟩ | ⟨g1, g2⟩
    · exact (g2 (g1.uniq h1)).elim
    · rcases h2 with ⟨h2, h3⟩ | ⟨h2, h3⟩ <;> rcases g2 with ⟨g2, g3⟩ | ⟨g2, g3⟩
      · omega
      · exact (g3 h3).elim
      · exact (h3 g3).elim
      · omega
end Go.Proofs.YtddaejgfjlneoaaGreat

namespace Go.Proofs
open Go.Shelf
def Tryz.lays189_ren : Go.Shelf.Ren := ⟨fun | 189 => 138 | 125 => 209 | 257 => 208 | 128 => 262 | 129 => 263 | 294 => 253 | 295 => 254 | 296 => 255 | 297 => 256 | 298 => 257 | 299 => 258 | 216 => 259 | 300 => 260 | 301 => 261 | 328 => 282 | 329 => 283 | 330 => 284 | 331 => 285 | 332 => 286 | 215 => 287 | 343 => 296 | n => n, fun | 28 => 22 | 3 => 3 | 46 => 250 | 0 => 0 | 51 => 285 | 53 => 287 | 4 => 4 | 183 => 279 | 182 => 278 | 131 => 282 | 5 => 5 | 9 => 9 | 218 => 304 | 222 => 308 | 228 => 318 | 229 => 275 | n => n, fun | n => n⟩
theorem Tryz.lays189 : Go.Proofs.Lays.n189 Tryz.prog Tryz.lays189_ren := {
  mixed := by kernel_rfl
  f125 := Tryz.func209.trans (congrArg some (by kernel_rfl))
  f128 := Tryz.func262.trans (congrArg some (by kernel_rfl))
  f129 := Tryz.func263.trans (congrArg some (by kernel_rfl))
  f189 := Tryz.func138.trans (congrArg some (by kernel_rfl))
  f215 := Tryz.func287.trans (congrArg some (by kernel_rfl))
  f216 := Tryz.func259.trans (congrArg some (by kernel_rfl))
  f257 := Tryz.func208.trans (congrArg some (by kernel_rfl))
  f294 := Tryz.func253.trans (congrArg some (by kernel_rfl))
  f295 := Tryz.func254.trans (congrArg some (by kernel_rfl))
  f296 := Tryz.func255.trans (congrArg some (by kernel_rfl))
  f297 := Tryz.func256.trans (congrArg some (by kernel_rfl))
  f298 := Tryz.func257.trans (congrArg some (by kernel_rfl))
  f299 := Tryz.func258.trans (congrArg some (by kernel_rfl))
  f300 := Tryz.func260.trans (congrArg some (by kernel_rfl))
  f301 := Tryz.func261.trans (congrArg some (by kernel_rfl))
  f328 := Tryz.func282.trans (congrArg some (by kernel_rfl))
  f329 := Tryz.func283.trans (congrArg some (by kernel_rfl))
  f330 := Tryz.func284.trans (congrArg some (by kernel_rfl))
  f331 := Tryz.func285.trans (congrArg some (by kernel_rfl))
  f332 := Tryz.func286.trans (congrArg some (by kernel_rfl))
  f343 := Tryz.func296.trans (congrArg some (by kernel_rfl))
  t0 := Tryz.underlying0
  a0 := Tryz.isAgg0
  z0 := Tryz.sizeOf0
  v0 := Tryz.zeroValue0
  t3 := Tryz.underlying3
  a3 := Tryz.isAgg3
  z3 := Tryz.sizeOf3
  v3 := Tryz.zeroValue3
  t4 := Tryz.underlying4
  a4 := Tryz.isAgg4
  z4 := Tryz.sizeOf4
  v4 := Tryz.zeroValue4
  t5 := Tryz.underlying5
  a5 := Tryz.isAgg5
  z5 := Tryz.sizeOf5
  v5 := Tryz.zeroValue5
  t9 := Tryz.underlying9
  a9 := Tryz.isAgg9
  z9 := Tryz.sizeOf9
  v9 := Tryz.zeroValue9
  t28 := Tryz.underlying22
  a28 := Tryz.isAgg22
  z28 := Tryz.sizeOf22
  v28 := Tryz.zeroValue22
  t46 := Tryz.underlying250
  a46 := Tryz.isAgg250
  z46 := Tryz.sizeOf250
  v46 := Tryz.zeroValue250
  t51 := Tryz.underlying285
  a51 := Tryz.isAgg285
  z51 := Tryz.sizeOf285
  v51 := Tryz.zeroValue285
  t53 := Tryz.underlying287
  a53 := Tryz.isAgg287
  z53 := Tryz.sizeOf287
  v53 := Tryz.zeroValue287
  t131 := Tryz.underlying282
  a131 := Tryz.isAgg282
  z131 := Tryz.sizeOf282
  v131 := Tryz.zeroValue282
  t182 := Tryz.underlying278
  a182 := Tryz.isAgg278
  z182 := Tryz.sizeOf278
  v182 := Tryz.zeroValue278
  t183 := Tryz.underlying279
  a183 := Tryz.isAgg279
  z183 := Tryz.sizeOf279
  v183 := Tryz.zeroValue279
  t218 := Tryz.underlying304
  a218 := Tryz.isAgg304
  z218 := Tryz.sizeOf304
  v218 := Tryz.zeroValue304
  t222 := Tryz.underlying308
  a222 := Tryz.isAgg308
  z222 := Tryz.sizeOf308
  v222 := Tryz.zeroValue308
  t228 := Tryz.underlying318
  a228 := Tryz.isAgg318
  z228 := Tryz.sizeOf318
  v228 := Tryz.zeroValue318
  t229 := Tryz.underlying275
  a229 := Tryz.isAgg275
  z229 := Tryz.sizeOf275
  v229 := Tryz.zeroValue275 }
def Tryz.lays2n20_ren : Go.Shelf.Ren := ⟨fun | 20 => 139 | n => n, fun | 22 => 22 | 3 => 3 | 4 => 4 | 0 => 0 | n => n, fun | n => n⟩
theorem Tryz.lays2n20 : Go.Proofs.Lays2.n20 Tryz.prog Tryz.lays2n20_ren := {
  mixed := by kernel_rfl
  f20 := Tryz.func139.trans (congrArg some (by kernel_rfl))
  t0 := Tryz.underlying0
  a0 := Tryz.isAgg0
  z0 := Tryz.sizeOf0
  v0 := Tryz.zeroValue0
  t3 := Tryz.underlying3
  a3 := Tryz.isAgg3
  z3 := Tryz.sizeOf3
  v3 := Tryz.zeroValue3
  t4 := Tryz.underlying4
  a4 := Tryz.isAgg4
  z4 := Tryz.sizeOf4
  v4 := Tryz.zeroValue4
  t22 := Tryz.underlying22
  a22 := Tryz.isAgg22
  z22 := Tryz.sizeOf22
  v22 := Tryz.zeroValue22
  i3 := by kernel_rfl }
end Go.Proofs
namespace Go.Proofs.YtddaejgfjlneoaaGreat
open Go.Sort Go.RowKit
theorem srt_Sort (blk off cap : Nat) (zs : List Int) (w : World) (hH : Holds (Value.int .i64) w blk off zs.toArray) (hblk : blk < w.heap.size) (hsz : zs.length < 4611686018427387904) :
    Calls Tryz.prog 138 #[.slice (some ⟨blk, off, none⟩) zs.length cap] w fun e w' => e = .returned (.tuple #[]) ∧ ∃ n os, w' = grow (putRow (Value.int .i64) (Sort.ahead w n) blk off (zs.mergeSort fun x y => decide (x ≤ y)).toArray) os :=
  Any.slices_Sort_int Tryz.lays189 blk off cap zs w hH hblk hsz
theorem srt_Sort_none (p : Option Addr) (cap : Nat) (w : World) : Calls Tryz.prog 138 #[.slice p 0 cap] w fun e w' => e = .returned (.tuple #[]) ∧ w' = w :=
  Any.slices_Sort_int_none Tryz.lays189 p cap w
theorem srt_Compact (blk off cap : Nat) (zs : List Int) (w : World) (hH : Holds (Value.int .i64) w blk off zs.toArray) (hsz : zs.length ≤ 9223372036854775807) (hcap : zs.length ≤ cap) :
    Calls Tryz.prog 139 #[.slice (some ⟨blk, off, none⟩) zs.length cap] w fun e w' => e = .returned (.slice (some ⟨blk, off, none⟩) (Lib.compact zs).length cap) ∧ ∃ q, w' = putRow (Value.int .i64) (Sort.ahead w q) blk off (Lib.compact zs ++ List.replicate (zs.length - (Lib.compact zs).length) 0).toArray :=
  Any.slices_Compact_int Tryz.lays2n20 blk off cap zs w hH hsz hcap
theorem srt_Compact_none (p : Option Addr) (cap : Nat) (w : World) : Calls Tryz.prog 139 #[.slice p 0 cap] w fun e w' => e = .returned (.slice p 0 cap) ∧ w' = w :=
  Any.slices_Compact_int_empty Tryz.lays2n20 p cap w
end Go.Proofs.YtddaejgfjlneoaaGreat

namespace Go.Proofs.YtddaejgfjlneoaaGreat
open Go.MW
theorem slices_Index_int {H : Heap} {w : World} {σ : List Ent} {v : Value} {ls : List Int} {x : Int} (hs : St H w σ) (hr : RI H v ls) :
    Cl Tryz.prog 205 [v, I x] w fun u w' => ∃ i, u = I i ∧ (0 ≤ i ↔ x ∈ ls) ∧ St H w' σ := by
  obtain ⟨a, c, rfl⟩ := RI.shape hr
  have hl := (RI.len hr).2.2
  refine Cl.of Tryz.func205 rfl Tryz.ntmps205 (by simp) (args_cons (k := 0) rfl (args_cons (k := 1) rfl (args0))) ?_
  refine .regSeq (.z zg (.nil (.seq (.regSeq (.z zm (.z (zlen Tryz.runUnderlying22) (.z zm (.nil ?_))))))))
  refine .for (N := ls.length) (J := fun k fr w => fr = [(1, I x), (0, .slice a ls.length c)] ∧ St H w σ ∧ ∀ j < k, ∀ y, ls[j]? = some y → ¬ x = y) (by omega) ?_ ?_ ?_
  · exact .mk ⟨rfl, hs, fun j hj => by omega⟩
  · rintro k fr w hk ⟨rfl, hs, hno⟩
    obtain ⟨y, hy⟩ := nth hk
    refine .block (.regSeq (.z zm (.z zg (.nil (.regSeq (.z zm (.z zm (.z zm ?_))))))))
    refine .ixY hs hr rfl rfl Tryz.runUnderlying22 Tryz.sizeOf3 hy rfl ?_; intro b14 o14 hc14
    refine .q hs (q_loadR rfl Tryz.isAgg3 hc14) ?_
    refine .z zeql (.nil ?_)
    refine (.condD rfl (fun hc16 => ?_) (fun hc16 => ?_))
    · refine .regSeq (.z zm (.z zg (.nil ?_)))
      refine .ret (rB (rT (rB (rT (Fin.ret1 Tryz.results205 rfl ?_)))))
      exact ⟨_, rfl, ⟨fun _ => by rw [hc16]; exact List.mem_of_getElem? hy, fun _ => by omega⟩, hs⟩
    · refine .skip ?_
      refine nB (nT ?_)
      exact .mk ⟨rfl, hs, upto_succ hno hy hc16⟩
  · rintro fr w ⟨rfl, hs, hno⟩
    refine nT ?_
    refine .regSeq (.z zg (.nil ?_))
    refine .ret (Fin.ret1 Tryz.results205 rfl ?_)
    exact ⟨_, rfl, ⟨fun h => by omega, fun h => by
      obtain ⟨j, hj⟩ := List.getElem?_of_mem h
      exact (hno j (List.getElem?_eq_some_iff.1 hj).1 x hj rfl).elim⟩, hs⟩
theorem slices_Contains_int {H : Heap} {w : World} {σ : List Ent} {v : Value} {ls : List Int} {x : Int} (hs : St H w σ) (hr : RI H v ls) :
    Cl Tryz.prog 130 [v, I x] w fun u w' => u = .bool (decide (x ∈ ls)) ∧ St H w' σ := by
  refine Cl.of Tryz.func130 rfl Tryz.ntmps130 (by simp) (args_cons (k := 0) rfl (args_cons (k := 1) rfl (args0))) ?_
  refine .regSeq (.z zg (.nil (.regSeq (.z zm (.z zm ?_)))))
  refine .o (.call Tryz.call205 rfl (slices_Index_int hs hr) ?_); rintro _ w ⟨i, rfl, hi, hs⟩
  refine .z zgeq (.z zg (.nil ?_))
  refine .ret (Fin.ret1 Tryz.results130 rfl ?_)
  exact ⟨by simp only [hi], hs⟩
set_option maxHeartbeats 1000000 in
theorem bound_only_spec {H : Heap} {w : World} {σ : List Ent} {v : Value} {s : Syst} {g : Nat} {cap : List Value} (q : Nat → Lim → Bool) (hs : St H w σ) (hr : RSy H v s) (hlen : s.lims.length ≤ 4398046510976) (hc : ∀ args w, (callFunc g args).run Tryz.prog w = .ok (.enter g args) w)
    (hp : ∀ w σ (k : Nat) (l : Lim), s.lims[k]? = some l → St H w σ → Cl Tryz.prog g ([I k, .agg l.c.toArray] ++ cap) w fun u w' => u = .bool (q k l) ∧ St H w' σ) :
    Cl Tryz.prog 131 [v, .func (.func g) #[] cap.toArray] w fun u w' => ∃ H1, HLe H H1 ∧ RSy H1 u ⟨s.many, pickTo q s.lims s.lims.length⟩ ∧ St H1 w' σ := by
  obtain ⟨ul, rfl, hl⟩ := hr
  obtain ⟨al, cl, rfl⟩ := RL.shape hl
  refine Cl.of Tryz.func131 rfl Tryz.ntmps131 (by simp) (args_cons (k := 0) rfl (args_cons (k := 1) rfl (args0))) ?_
  refine .regSeq ?_
  refine .o (.box hs rfl rfl ?_); intro b2 w hs
  refine .o (.alloc hs Tryz.zeroValue70 rfl ?_); intro b4 w hs
  refine .nil (.regSeq (.z (zfa fa_api_System_0) (.y hs (zld Tryz.isAgg3) (.z (zbd [_, _] bld_api_System) ?_))))
  refine .o (.alloc hs Tryz.zeroValue70 rfl ?_); intro b5 w hs
  refine .o (.stores (vs := [_, _]) hs rfl rfl Tryz.sizeOf70 ?_); intro w hs
  refine .nil (.seq (.regSeq (.z (zfa fa_api_System_1) (.y hs (zld Tryz.isAgg68) (.z (zlen Tryz.runUnderlying68) (.z zm (.nil ?_)))))))
  refine .for (N := s.lims.length) (J := fun k fr w => fr = [(12, .slice al s.lims.length cl), (1, .func (.func g) #[] cap.toArray), (5, .pointer (some ⟨b5, 0, none⟩)), (4, .pointer (some ⟨b4, 0, none⟩))] ∧ ∃ vL en, OwnS 4 vL (Lims (pickTo q s.lims k)) en ∧ St H w (.blk b5 [I s.many, vL] :: .blk b4 [I 0, .slice none 0 0] :: en :: σ)) (by omega) ?_ ?_ ?_
  · exact .mk ⟨rfl, _, _, .nil 4 none, hs.nul.sub (by repeat (first | exact Sub.refl _ | constructor | apply Sub.weaken))⟩
  · rintro k fr w hk ⟨rfl, vL, en, hO, hs⟩
    obtain ⟨x, hx⟩ := nth (l := s.lims) hk
    obtain ⟨aL, lL, cL, rfl, hL⟩ := hO.shape
    have hpl := pickTo_length q s.lims k
    refine .block (.regSeq (.z zm ?_))
    refine .ixX hs hl rfl rfl Tryz.runUnderlying68 Tryz.sizeOf160 hx rfl ?_; intro b17 o17 hc17
    refine .q hs (q_loadsR (vs := x.c) rfl Tryz.isAgg160 Tryz.sizeOf160 hc17) ?_
    refine .o (.alloc hs Tryz.zeroValue160 rfl ?_); intro b7 w hs
    refine .z zg ?_
    refine .o (.stores (vs := x.c) hs rfl rfl Tryz.sizeOf160 ?_); intro w hs
    refine .nil (.regSeq (.z zm (.z zm (.y hs (zls [_, _, _, _] Tryz.isAgg160 Tryz.sizeOf160) ?_))))
    refine .o (.callG (first := []) (cap := cap) rfl rfl hc (hp _ _ k x hx hs) ?_); rintro _ w ⟨rfl, hs⟩
    refine .nil ?_
    refine (.cond rfl (fun hc22 => ?_) (fun hc22 => ?_))
    · refine .region (.z (zfa fa_api_System_1) (.y hs (zld Tryz.isAgg68) (.y hs (zls [_, _, _, _] Tryz.isAgg160 Tryz.sizeOf160) ?_)))
      refine .o (.buildSlice (cells := x.c) hs bls_sl_api_Limit_1 rfl rfl ?_); intro b26 w hs
      refine .o (.append (ys := x.c) hs app_sl_api_Limit_api_Limit rfl rfl hO (.own .here rfl rfl) (by simp [Lim.c, Value.oneCell']) (fun l h => by rw [Lims_length] at h; omega) ?_); intro v27 en27 w hO2 hs
      obtain ⟨a27, l27, c27, rfl, h27⟩ := hO2.shape
      refine .z (zfa fa_api_System_1) ?_
      refine .o (.store hs rfl rfl Tryz.sizeOf68 ?_); intro w hs
      refine .nil ?_
      refine nB (nT ?_)
      have e : pickTo q s.lims (k + 1) = pickTo q s.lims k ++ [x] := by rw [pickTo_succ hx, if_pos hc22]
      rw [← Lims_one, ← Lims_append, ← e] at hO2
      exact .mk ⟨rfl, _, _, hO2, hs.sub (by repeat (first | exact Sub.refl _ | constructor | apply Sub.weaken))⟩
    · refine .skip ?_
      refine nB (nT ?_)
      have e : pickTo q s.lims (k + 1) = pickTo q s.lims k := by rw [pickTo_succ hx, hc22]; simp
      exact .mk ⟨rfl, _, _, by rw [e]; exact hO, hs.sub (by repeat (first | exact Sub.refl _ | constructor | apply Sub.weaken))⟩
  · rintro fr w ⟨rfl, vL, en, hO, hs⟩
    obtain ⟨aL, lL, cL, rfl, hL⟩ := hO.shape
    have hpl := pickTo_length q s.lims s.lims.length
    refine nT ?_
    refine .regSeq (.y hs (zls [_, _] Tryz.isAgg70 Tryz.sizeOf70) ?_)
    refine .o (.stores (vs := [_, _]) hs rfl rfl Tryz.sizeOf70 ?_); intro w hs
    refine .nil ?_
    refine .ret ?_
    obtain ⟨H1, g1, r1, hs⟩ := OwnS.publish (m := 4) (cs := (pickTo q s.lims s.lims.length).map Lim.c) hO (fun c hc => by simp only [List.mem_map] at hc; obtain ⟨x, _, rfl⟩ := hc; rfl) (by omega) (by rw [List.length_map]; omega) hs (by repeat constructor)
    exact Fin.retD [] [] hs fun w hs => ⟨_, results1 Tryz.results131 (rcells (vs := [_, _]) hs rfl Tryz.isAgg70 Tryz.sizeOf70), H1, g1, ⟨_, rfl, r1⟩, hs.out⟩
theorem bound_Without_1 {H : Heap} {w : World} {σ : List Ent} {b : Nat} {i : Int} {l : Lim} {vb : Value} {bs : List Int} (hs : St H w σ) (hb : Row H b [vb]) (hr : RI H vb bs) :
    Cl Tryz.prog 207 [I i, .agg l.c.toArray, .pointer (some ⟨b, 0, none⟩)] w fun u w' => u = .bool (!decide (l.S ∈ bs)) ∧ St H w' σ := by
  have hb0 : cellAt H b 0 = some vb := by rw [hb.cell]; rfl
  refine Cl.of Tryz.func207 rfl Tryz.ntmps207 (by simp) (args_cons (k := 0) rfl (args_cons (k := 1) rfl (args_cons (k := 2) rfl (args0)))) ?_
  refine .regSeq ?_
  refine .o (.box hs rfl rfl ?_); intro b4 w hs
  refine .z zg (.nil (.regSeq (.y hs (zld Tryz.isAgg22) (.z (zfa fa_api_Limit_3) (.y hs (zld Tryz.isAgg3) ?_)))))
  refine .o (.call Tryz.call130 rfl (slices_Contains_int hs hr) ?_); rintro _ w ⟨rfl, hs⟩
  refine .z znot (.z zg (.nil ?_))
  refine .ret (Fin.ret1 Tryz.results207 rfl ?_)
  exact ⟨rfl, hs.out⟩
theorem bound_Without_spec {H : Heap} {w : World} {σ : List Ent} {v vb : Value} {s : Syst} {bs : List Int} (hs : St H w σ) (hr : RSy H v s) (hb : RI H vb bs) (hlen : s.lims.length ≤ 4398046510976) :
    Cl Tryz.prog 136 [v, vb] w fun u w' => ∃ H1, HLe H H1 ∧ RSy H1 u (s.wo bs) ∧ St H1 w' σ := by
  obtain ⟨ul, rfl, hl⟩ := hr
  obtain ⟨al, cl, rfl⟩ := RL.shape hl
  obtain ⟨ab, cb, rfl⟩ := RI.shape hb
  refine Cl.of Tryz.func136 rfl Tryz.ntmps136 (by simp) (args_cons (k := 0) rfl (args_cons (k := 1) rfl (args0))) ?_
  refine .regSeq ?_
  refine .o (.box hs rfl rfl ?_); intro b2 w hs
  refine .o (.box hs rfl rfl ?_); intro b3 w hs
  refine .o (.alloc hs Tryz.zeroValue70 rfl ?_); intro b4 w hs
  refine .nil (.regSeq (.y hs (zls [_, _] Tryz.isAgg70 Tryz.sizeOf70) ?_))
  refine .q hs (q_makeFunc (f := []) (c := [_]) rfl rfl) ?_
  obtain ⟨H1, hle1, r3, hs⟩ := hs.publish (b := b3) (by repeat constructor)
  refine .o (.call Tryz.call131 rfl (bound_only_spec (g := 207) (cap := [.pointer (some ⟨b3, 0, none⟩)]) (s := s) (fun _ l => !decide (l.S ∈ bs)) hs ⟨_, rfl, hl.mono hle1⟩ hlen Tryz.call207 (fun w σ k l _ hs => bound_Without_1 hs r3 (hb.mono hle1))) ?_); rintro _ w ⟨H2, hle2, ⟨u7, rfl, hL7⟩, hs⟩
  rw [pickTo_all] at hL7
  obtain ⟨a7, c7, rfl⟩ := RL.shape hL7
  refine .o (.stores (vs := [_, _]) hs rfl rfl Tryz.sizeOf70 ?_); intro w hs
  refine .nil ?_
  refine .ret ?_
  exact Fin.retD [] [] hs fun w hs => ⟨_, results1 Tryz.results136 (rcells (vs := [_, _]) hs rfl Tryz.isAgg70 Tryz.sizeOf70), H2, hle1.trans hle2, ⟨_, rfl, hL7⟩, hs.out⟩
end Go.Proofs.YtddaejgfjlneoaaGreat

namespace Go.Proofs.YtddaejgfjlneoaaGreat
open Go.MW
theorem slices_Sort_own {H : Heap} {w : World} {σ : List Ent} {b cap : Nat} {xs : List Int} {sp : List Value} (hs : St H w (.blk b (Is xs ++ sp) :: σ)) (hl : xs.length ≤ 17592186044416) :
    Cl Tryz.prog 138 [.slice (some ⟨b, 0, none⟩) xs.length cap] w fun u w' => u = .tuple #[] ∧ St H w' (.blk b (Is (xs.mergeSort fun x y => decide (x ≤ y)) ++ sp) :: σ) :=
  (srt_Sort b 0 cap xs w hs.holds (hs.lt .here) (by omega)).mono fun e w' ⟨he, m, os, hw⟩ => ⟨_, he, rfl, by
    rw [hw]
    exact (hs.putRow (List.length_mergeSort _)).grow os⟩
theorem slices_Sort_none {H : Heap} {w : World} {σ : List Ent} {a : Option Addr} {cap : Nat} (hs : St H w σ) :
    Cl Tryz.prog 138 [.slice a 0 cap] w fun u w' => u = .tuple #[] ∧ St H w' σ :=
  (srt_Sort_none a cap w).mono fun e w' ⟨he, hw⟩ => ⟨_, he, rfl, by rw [hw]; exact hs⟩
theorem slices_Compact_own {H : Heap} {w : World} {σ : List Ent} {b cap : Nat} {xs : List Int} {sp : List Value} (hs : St H w (.blk b (Is xs ++ sp) :: σ)) (hl : xs.length ≤ 17592186044416) (hcap : xs.length ≤ cap) :
    Cl Tryz.prog 139 [.slice (some ⟨b, 0, none⟩) xs.length cap] w fun u w' => u = .slice (some ⟨b, 0, none⟩) (Go.Lib.compact xs).length cap ∧ St H w' (.blk b (Is (Go.Lib.compact xs) ++ (Is (List.replicate (xs.length - (Go.Lib.compact xs).length) 0) ++ sp)) :: σ) :=
  (srt_Compact b 0 cap xs w hs.holds (by omega) hcap).mono fun e w' ⟨he, m, hw⟩ => ⟨_, he, rfl, by
    rw [hw]
    have h := Go.Lib.compact_length_le xs
    have := hs.putRow (m := m) (ys := Go.Lib.compact xs ++ List.replicate (xs.length - (Go.Lib.compact xs).length) 0) (by simp; omega)
    have e2 : Is (Go.Lib.compact xs ++ List.replicate (xs.length - (Go.Lib.compact xs).length) 0) = Is (Go.Lib.compact xs) ++ Is (List.replicate (xs.length - (Go.Lib.compact xs).length) 0) := List.map_append
    rw [e2, List.append_assoc] at this
    exact this⟩
theorem slices_Compact_none {H : Heap} {w : World} {σ : List Ent} {a : Option Addr} {cap : Nat} (hs : St H w σ) :
    Cl Tryz.prog 139 [.slice a 0 cap] w fun u w' => u = .slice a 0 cap ∧ St H w' σ :=
  (srt_Compact_none a cap w).mono fun e w' ⟨he, hw⟩ => ⟨_, he, rfl, by rw [hw]; exact hs⟩
theorem bound_put_spec {H : Heap} {w : World} {σ : List Ent} {v : Value} {xs : List Int} {en : Ent} (hs : St H w (en :: σ)) (hO : OwnS 1 v (Is xs) en) (hl : xs.length ≤ 17592186044416) :
    Cl Tryz.prog 204 [v] w fun u w' => ∃ L en', OwnS 1 u (Is L) en' ∧ L.length ≤ xs.length ∧ RiseOf (fun x => x ∈ xs) L ∧ St H w' (en' :: σ) := by
  rcases hO with ⟨a, rfl, h0, rfl⟩ | ⟨b, len, cap, sp, rfl, rfl, h3, h4, h5⟩
  · have hx : xs = [] := by simpa using h0
    subst hx
    refine Cl.of Tryz.func204 rfl Tryz.ntmps204 (by simp) (args_cons (k := 0) rfl (args0)) ?_
    refine .regSeq (.z zg (.nil (.regSeq (.z zm ?_))))
    refine .o (.call Tryz.call138 rfl (slices_Sort_none hs) ?_); rintro _ w ⟨rfl, hs⟩
    refine .nil (.regSeq (.z zm ?_))
    refine .o (.call Tryz.call139 rfl (slices_Compact_none hs) ?_); rintro _ w ⟨rfl, hs⟩
    refine .z zg (.nil ?_)
    refine .ret (Fin.ret1 Tryz.results204 rfl ?_)
    exact ⟨[], _, .nil 1 a, by simp, .nil (by simp), hs.out⟩
  · obtain rfl : len = xs.length := by simpa using h3.symm
    refine Cl.of Tryz.func204 rfl Tryz.ntmps204 (by simp) (args_cons (k := 0) rfl (args0)) ?_
    refine .regSeq (.z zg (.nil (.regSeq (.z zm ?_))))
    refine .o (.call Tryz.call138 rfl (slices_Sort_own hs hl) ?_); rintro _ w ⟨rfl, hs⟩
    refine .nil (.regSeq (.z zm ?_))
    have hml : (xs.mergeSort fun x y => decide (x ≤ y)).length = xs.length := List.length_mergeSort _
    rw [← hml]
    refine .o (.call Tryz.call139 rfl (slices_Compact_own hs (by omega) (by omega)) ?_); rintro _ w ⟨rfl, hs⟩
    refine .z zg (.nil ?_)
    refine .ret (Fin.ret1 Tryz.results204 rfl ?_)
    have hcl := Go.Lib.compact_length_le (xs.mergeSort fun x y => decide (x ≤ y))
    have h4' : xs.length + sp.length = cap := by simpa using h4
    exact ⟨_, _, .inr ⟨b, _, cap, Is (List.replicate ((xs.mergeSort fun x y => decide (x ≤ y)).length - (Go.Lib.compact (xs.mergeSort fun x y => decide (x ≤ y))).length) 0) ++ sp, rfl, rfl, by simp, by simp; omega, by omega⟩, by omega, sorted_rise, hs⟩
theorem bound_Sources_spec {H : Heap} {w : World} {σ : List Ent} {v : Value} {s : Syst} (hs : St H w σ) (hr : RSy H v s) (hlen : s.lims.length ≤ 4398046510976) :
    Cl Tryz.prog 129 [v] w fun u w' => ∃ L en, OwnS 1 u (Is L) en ∧ L.length ≤ s.lims.length ∧ RiseOf (SrcS s.lims) L ∧ St H w' (en :: σ) := by
  obtain ⟨ul, rfl, hl⟩ := hr
  obtain ⟨al, cl, rfl⟩ := RL.shape hl
  refine Cl.of Tryz.func129 rfl Tryz.ntmps129 (by simp) (args_cons (k := 0) rfl (args0)) ?_
  refine .regSeq ?_
  refine .o (.box hs rfl rfl ?_); intro b1 w hs
  refine .z zg (.nil (.regSeq (.z zg (.nil (.seq (.regSeq (.z (zfa fa_api_System_1) (.y hs (zld Tryz.isAgg68) (.z (zlen Tryz.runUnderlying68) ?_)))))))))
  refine .z zm (.nil ?_)
  refine .for (N := s.lims.length) (J := fun k fr w => ∃ v3 en, OwnS 1 v3 (Is ((s.lims.take k).map Lim.S)) en ∧ fr = [(3, v3), (7, .slice al s.lims.length cl)] ∧ St H w (en :: σ)) (by omega) ?_ ?_ ?_
  · exact .mk ⟨_, _, .nil 1 none, rfl, hs.nul.sub (by repeat (first | exact Sub.refl _ | constructor | apply Sub.weaken))⟩
  · rintro k fr w hk ⟨v3, en, hO, rfl, hs⟩
    obtain ⟨x, hx⟩ := nth (l := s.lims) hk
    obtain ⟨a3, l3, c3, rfl, h3⟩ := hO.shape
    refine .block (.regSeq ?_)
    refine .ixX hs hl rfl rfl Tryz.runUnderlying68 Tryz.sizeOf160 hx rfl ?_; intro b11 o11 hc11
    refine .q hs (q_loadsR (vs := x.c) rfl Tryz.isAgg160 Tryz.sizeOf160 hc11) ?_
    refine .o (.alloc hs Tryz.zeroValue160 rfl ?_); intro b5 w hs
    refine .o (.stores (vs := x.c) hs rfl rfl Tryz.sizeOf160 ?_); intro w hs
    refine .nil (.region (.z zm (.z (zfa fa_api_Limit_3) (.y hs (zld Tryz.isAgg3) ?_))))
    refine .o (.buildSlice (cells := [_]) hs bls_sl_int_1 rfl rfl ?_); intro b16 w hs
    refine .o (.append (ys := Is [x.S]) hs app_sl_int_int rfl rfl hO (.own .here rfl rfl) (Is_cell _) (fun l' h => by simp at h; omega) ?_); intro v17 en17 w hO2 hs
    rw [← List.map_append] at hO2
    refine .z zg (.nil ?_)
    refine nB (nT ?_)
    exact .mk ⟨_, _, by rw [take_snoc hx, List.map_append]; exact hO2, rfl, hs.sub (by repeat (first | exact Sub.refl _ | constructor | apply Sub.weaken))⟩
  · rintro fr w ⟨v3, en, hO, rfl, hs⟩
    rw [List.take_length] at hO
    refine nT ?_
    refine .regSeq (.z zm ?_)
    refine .o (.call Tryz.call204 rfl (bound_put_spec hs hO (by rw [List.length_map]; omega)) ?_); rintro v20 w ⟨L, en', hO', hL, hR, hs⟩
    rw [List.length_map] at hL
    refine .z zg (.nil ?_)
    refine .ret (Fin.ret1 Tryz.results129 rfl ?_)
    exact ⟨L, en', hO', hL, hR.congr fun x => by simp [SrcS], hs⟩
end Go.Proofs.YtddaejgfjlneoaaGreat

namespace Go.Proofs.YtddaejgfjlneoaaGreat
open Go.MW
theorem slices_IndexFunc_own {H : Heap} {w : World} {σ : List Ent} {v : Value} {en : Ent} {xs : List Int} {g : Nat} {cap : List Value} (q : Int → Bool) (hs : St H w (en :: σ)) (hO : OwnS 1 v (Is xs) en) (hl : xs.length ≤ 17592186044416) (hc : ∀ args w, (callFunc g args).run Tryz.prog w = .ok (.enter g args) w)
    (hp : ∀ H' w σ (n : Int), n ∈ xs → HLe H H' → St H' w σ → Cl Tryz.prog g ([I n] ++ cap) w fun u w' => ∃ H1, HLe H' H1 ∧ u = .bool (q n) ∧ St H1 w' σ) :
    Cl Tryz.prog 206 [v, .func (.func g) #[] cap.toArray] w fun u w' => ∃ H1 i, HLe H H1 ∧ u = I i ∧ ((i = -1 ∧ ∀ x ∈ xs, q x = false) ∨ (∃ (k : Nat) (x : Int), i = k ∧ xs[k]? = some x ∧ q x = true ∧ ∀ j < k, ∀ y, xs[j]? = some y → q y = false)) ∧ St H1 w' (en :: σ) := by
  obtain ⟨a, c, rfl⟩ := hO.shapeI
  refine Cl.of Tryz.func206 rfl Tryz.ntmps206 (by simp) (args_cons (k := 0) rfl (args_cons (k := 1) rfl (args0))) ?_
  refine .regSeq (.z zg (.nil (.seq (.regSeq (.z zm (.z (zlen Tryz.runUnderlying22) (.z zm (.nil ?_))))))))
  refine .for (N := xs.length) (J := fun k fr w => fr = [(1, .func (.func g) #[] cap.toArray), (0, .slice a xs.length c)] ∧ ∃ H1, HLe H H1 ∧ (∀ j < k, ∀ y, xs[j]? = some y → q y = false) ∧ St H1 w (en :: σ)) (by omega) ?_ ?_ ?_
  · exact .mk ⟨rfl, H, HLe.refl H, fun j hj => by omega, hs⟩
  · rintro k fr w hk ⟨rfl, H1, hle1, hno, hs⟩
    have hx := gi_get hk
    obtain ⟨b, c', sp, hv, rfl, _⟩ := hO.blk (by omega)
    cases hv
    refine .block (.regSeq (.z zm (.z zg (.nil (.regSeq (.z zm (.z zm (.z zm (.z (zix Tryz.runUnderlying22 Tryz.sizeOf3) ?_)))))))))
    refine .q hs (q_load rfl Tryz.isAgg3 (hv := Is_gi_sp hk sp)) ?_
    refine .o (.callG (first := []) (cap := cap) rfl rfl hc (hp _ _ _ (gi xs k) (List.mem_of_getElem? hx) hle1 hs) ?_); rintro _ w ⟨H2, hle2, rfl, hs⟩
    refine .nil ?_
    refine (.cond rfl (fun hc16 => ?_) (fun hc16 => ?_))
    · refine .regSeq (.z zm (.z zg (.nil ?_)))
      refine .ret (rB (rT (rB (rT (Fin.ret1 Tryz.results206 rfl ?_)))))
      exact ⟨H2, _, hle1.trans hle2, rfl, .inr ⟨k, _, rfl, hx, hc16, hno⟩, hs⟩
    · refine .skip ?_
      refine nB (nT ?_)
      exact .mk ⟨rfl, H2, hle1.trans hle2, upto_succ hno hx hc16, hs⟩
  · rintro fr w ⟨rfl, H1, hle1, hno, hs⟩
    refine nT ?_
    refine .regSeq (.z zg (.nil ?_))
    refine .ret (Fin.ret1 Tryz.results206 rfl ?_)
    exact ⟨H1, _, hle1, rfl, .inl ⟨rfl, fun x hx => by
      obtain ⟨j, hj⟩ := List.getElem?_of_mem hx
      exact hno j (List.getElem?_eq_some_iff.1 hj).1 x hj⟩, hs⟩
set_option maxHeartbeats 1000000 in
theorem slices_DeleteFunc_spec {H : Heap} {w : World} {σ : List Ent} {v : Value} {en : Ent} {xs : List Int} {g : Nat} {cap : List Value} (q : Int → Bool) (hs : St H w (en :: σ)) (hO : OwnS 1 v (Is xs) en) (hl : xs.length ≤ 17592186044416) (hc : ∀ args w, (callFunc g args).run Tryz.prog w = .ok (.enter g args) w)
    (hp : ∀ H' w σ (n : Int), n ∈ xs → HLe H H' → St H' w σ → Cl Tryz.prog g ([I n] ++ cap) w fun u w' => ∃ H1, HLe H' H1 ∧ u = .bool (q n) ∧ St H1 w' σ) :
    Cl Tryz.prog 150 [v, .func (.func g) #[] cap.toArray] w fun u w' => ∃ H1 en', HLe H H1 ∧ OwnS 1 u (Is (xs.filter fun x => !q x)) en' ∧ St H1 w' (en' :: σ) := by
  obtain ⟨a, c, rfl⟩ := hO.shapeI
  refine Cl.of Tryz.func150 rfl Tryz.ntmps150 (by simp) (args_cons (k := 0) rfl (args_cons (k := 1) rfl (args0))) ?_
  refine .regSeq (.z zg (.nil (.regSeq (.z zm (.z zm ?_)))))
  refine .o (.call Tryz.call206 rfl (slices_IndexFunc_own q hs hO hl hc hp) ?_); rintro _ w ⟨H1, i0, hle1, rfl, hcase, hs⟩
  refine .z zg (.nil (.seq (.regSeq (.z zm (.z zeql (.nil ?_))))))
  refine (.condD rfl (fun hc12 => ?_) (fun hc12 => ?_))
  · refine .regSeq (.z zm (.z zg (.nil ?_)))
    refine .ret (rT (Fin.ret1 Tryz.results150 rfl ?_))
    have hno : ∀ x ∈ xs, q x = false := by
      rcases hcase with ⟨_, h⟩ | ⟨k, x, h, _⟩
      · exact h
      · omega
    have e : xs.filter (fun x => !q x) = xs := List.filter_eq_self.2 fun x hx => by simp [hno x hx]
    exact ⟨H1, en, hle1, by rw [e]; exact hO, hs⟩
  · refine .skip ?_
    refine nT ?_
    refine .seq (.regSeq (.z zm ?_))
    obtain ⟨k0, x0, rfl, hx0, hq0, hno⟩ : ∃ (k : Nat) (x : Int), i0 = k ∧ xs[k]? = some x ∧ q x = true ∧ ∀ j < k, ∀ y, xs[j]? = some y → q y = false := hcase.resolve_left fun h => hc12 h.1
    have hk0 := (List.getElem?_eq_some_iff.1 hx0).1
    obtain ⟨b, c', sp, hv, rfl, hc'⟩ := hO.blk (by omega)
    cases hv
    refine .z zadd (.z zg (.nil (.block ?_)))
    refine .loop (fun p : Nat × Nat => ⟨42, [], [(5, I (p.1 : Int)), (6, I (p.2 : Int)), (1, .func (.func g) #[] cap.toArray), (0, .slice (some ⟨b, 0, none⟩) xs.length c)]⟩)
      (fun p w => k0 < p.2 ∧ ∃ Y H1, HLe H H1 ∧ DelI q xs Y p.1 p.2 ∧ St H1 w (.blk b (Is Y ++ sp) :: σ))
      (fun p => xs.length - p.2) (k0, k0 + 1) (.cons rfl (.consI rfl (by dsimp only; omega) (by repeat (first | exact .nil rfl rfl | refine .cons rfl ?_))))
      ⟨by dsimp only; omega, xs, H1, hle1, .start hx0 hq0 hno, hs⟩ ?_
    clear hs hle1 hcase
    rintro ⟨i, j⟩ w ⟨hkj, Y, H1, hle1, hD, hs⟩
    dsimp only at hkj hD ⊢
    have hYl := hD.len
    have hij := hD.le
    have hjl := hD.jl
    have hilt := hD.lt hx0 hq0 hkj
    refine .seq (.regSeq (.z zm (.z zm (.z (zlen Tryz.runUnderlying22) (.z zlss (.nil ?_))))))
    refine (.condD rfl (fun hc19 => ?_) (fun hc19 => ?_))
    · refine .skip ?_
      refine nT ?_
      refine .seq (.block (.regSeq (.z zm (.z zm ?_))))
      have hj : j < Y.length := by omega
      have hx : xs[j]? = some (gi Y j) := by rw [hD.rest j (Nat.le_refl _)]; exact gi_get (by omega)
      refine .z (zix Tryz.runUnderlying22 Tryz.sizeOf3) ?_
      refine .q hs (q_load rfl Tryz.isAgg3 (hv := Is_gi_sp hj sp)) ?_
      refine .z zg (.nil (.regSeq (.z zm (.z zm ?_))))
      refine .o (.callG (first := []) (cap := cap) rfl rfl hc (hp _ _ _ (gi Y j) (List.mem_of_getElem? hx) hle1 hs) ?_); rintro _ w ⟨H2, hle2, rfl, hs⟩
      refine .z znot (.nil ?_)
      refine (.cond rfl (fun hc29 => ?_) (fun hc29 => ?_))
      · refine .regSeq (.z zm (.z zm (.z zm (.z (zix Tryz.runUnderlying22 Tryz.sizeOf3) ?_))))
        refine .o (.store hs rfl rfl Tryz.sizeOf3 ?_ .here (blt_Is_sp (show i < Y.length by omega) sp) (Is_set_sp (show i < Y.length by omega) sp _)); intro w hs
        refine .nil (.region (.z zm (.z zadd (.z zg (.nil ?_)))))
        refine nB (nT ?_)
        refine .region (.z zm (.z zadd (.z zg (.nil ?_))))
        refine nT ?_
        exact ⟨(i + 1, j + 1), .consI rfl (by dsimp only; omega) (.consI rfl (by dsimp only; omega) (by repeat (first | exact .nil rfl rfl | refine .cons rfl ?_))), ⟨by dsimp only; omega, _, H2, hle1.trans hle2, hD.keep hx (by simpa using hc29), hs⟩, by dsimp only; omega⟩
      · refine .skip ?_
        refine nB (nT ?_)
        refine .region (.z zm (.z zadd (.z zg (.nil ?_))))
        refine nT ?_
        exact ⟨(i, j + 1), .cons rfl (.consI rfl (by dsimp only; omega) (by repeat (first | exact .nil rfl rfl | refine .cons rfl ?_))), ⟨by dsimp only; omega, _, H2, hle1.trans hle2, hD.skip hx (by simpa using hc29), hs⟩, by dsimp only; omega⟩
    · refine .exit ?_
      refine xT (xT (xB (nT ?_)))
      refine .regSeq (.z zm (.z zm ?_))
      obtain rfl : xs.length = j := by omega
      refine .q hs (q_sliceLI (k := i) rfl rfl Tryz.runUnderlying22 Tryz.sizeOf3 (by omega) (by omega)) ?_
      rw [show 0 + i * 1 = i by omega]
      refine .o (.clearI (c := Is Y ++ sp) hs rfl Tryz.runUnderlying22 Tryz.zeroValue3 (by simp; omega) ?_); intro w hs
      rw [hD.done sp] at hs
      have hil := hD.il
      rw [List.take_length] at hil
      refine .nil (.regSeq (.z zm (.z zm ?_)))
      refine .q hs (q_sliceHI (k := i) rfl rfl Tryz.runUnderlying22 Tryz.sizeOf3 (by omega)) ?_
      refine .z zg (.nil ?_)
      refine .ret (Fin.ret1 Tryz.results150 rfl ?_)
      exact ⟨H1, _, hle1, .inr ⟨b, i, c, List.replicate (xs.length - i) (I 0) ++ sp, rfl, rfl, by simp [hil], by simp [← hil]; omega, by omega⟩, hs⟩
end Go.Proofs.YtddaejgfjlneoaaGreat

namespace Go.Proofs.YtddaejgfjlneoaaGreat
open Go.MW
def backL (L : List Int) : List (List Value) := (List.range L.length).map fun j => [I ((L.length - 1 - j : Nat) : Int), I (gi L (L.length - 1 - j))]
theorem backL_length (L : List Int) : (backL L).length = L.length := by simp [backL]
theorem backL_get {L : List Int} {j : Nat} (h : j < (backL L).length) : (backL L)[j] = [I ((L.length - 1 - j : Nat) : Int), I (gi L (L.length - 1 - j))] := by simp [backL]
theorem slices_Backward_1_iter {H : Heap} {b : Nat} {v : Value} {L : List Int} (hb : Row H b [v]) (hr : RI H v L) : Iter Tryz.prog 231 [.pointer (some ⟨b, 0, none⟩)] H (backL L) := by
  intro l II Ix _ _ hy H0 σb0 σf w hle hI0 hs
  obtain ⟨a, c, rfl⟩ := RI.shape hr
  have hlen := (RI.len hr).2.2
  have hb0 : cellAt H0 b 0 = some (.slice a L.length c) := cellAt.mono (hb.at 0) hle
  refine Cl.of Tryz.func231 rfl Tryz.ntmps231 (by simp) (args_cons (k := 0) rfl (args_cons (k := 1) rfl (args0))) ?_
  refine .regSeq (.y hs (zld Tryz.isAgg22) (.z (zlen Tryz.runUnderlying22) (.z zsub (.z zg (.nil (.block ?_))))))
  refine .loop (fun j : Nat => ⟨19, [], [(3, I ((L.length : Int) - 1 - (j : Int))), (0, .func (.yield l) #[] #[]), (1, .pointer (some ⟨b, 0, none⟩))]⟩)
    (fun j w => j ≤ L.length ∧ ∃ H1 σb, HLe H H1 ∧ HLe H0 H1 ∧ II j H1 σb ∧ St H1 w (σb ++ σf)) (fun j => L.length - j) 0 (.consI rfl (by simp) (by repeat (first | exact .nil rfl rfl | refine .cons rfl ?_)))
    ⟨Nat.zero_le _, H0, σb0, hle, HLe.refl _, hI0, hs⟩ ?_
  clear hs hI0
  rintro j w ⟨hj, H1, σb, hle1, hle0, hI, hs⟩
  have hb1 : cellAt H1 b 0 = some (.slice a L.length c) := cellAt.mono hb0 hle0
  refine .seq (.regSeq (.z zm (.z zgeq (.nil ?_))))
  refine (.condD rfl (fun hc8 => ?_) (fun hc8 => ?_))
  · refine .skip ?_
    refine nT ?_
    refine .seq (.block (.regSeq (.z zm (.z zm (.y hs (zld Tryz.isAgg22) (.z zm ?_))))))
    refine .ixY hs (hr.mono hle1) rfl rfl Tryz.runUnderlying22 Tryz.sizeOf3 (gi_get (l := L) (i := L.length - 1 - j) (by omega)) (by omega) ?_; intro b15 o15 hc15
    refine .q hs (q_loadR rfl Tryz.isAgg3 hc15) ?_
    have hk' : j < (backL L).length := by rw [backL_length]; omega
    have hyd := hy j hk' H1 σb σf w hle1 hI hs
    rw [backL_get hk', show ((L.length - 1 - j : Nat) : Int) = (L.length : Int) - 1 - (j : Int) by omega] at hyd
    refine .o (.yield rfl rfl hyd ?_); rintro v17 w ⟨H2, σ2, g1, hs, g3⟩
    obtain ⟨bb, rfl, gT, gF⟩ := yd_bool g3
    refine .z znot (.nil ?_)
    refine (.cond rfl (fun hc18 => ?_) (fun hc18 => ?_))
    · refine .ret (rB (rT (rT (rB (Fin.ret0 Tryz.results231 ?_)))))
      exact ⟨H2, σ2, hle0.trans g1, hs, .inr (gF (by simpa using hc18))⟩
    · refine .skip ?_
      refine nB (nT ?_)
      refine .region (.z zm (.z zsub (.z zg (.nil ?_))))
      refine nT ?_
      exact ⟨j + 1, .consI rfl (by simp; omega) (by repeat (first | exact .nil rfl rfl | refine .cons rfl ?_)), ⟨by omega, H2, σ2, hle1.trans g1, hle0.trans g1, gT (by simpa using hc18), hs⟩, by omega⟩
  · refine .exit ?_
    refine xT (xT (xB ?_))
    obtain rfl : L.length = j := by omega
    exact Fin.end0 Tryz.results231 ⟨H1, σb, hle0, hs, .inl (by rw [backL_length]; exact hI)⟩
theorem slices_Backward_spec {H : Heap} {w : World} {σ : List Ent} {v : Value} {L : List Int} (hs : St H w σ) (hr : RI H v L) :
    Cl Tryz.prog 180 [v] w fun u w' => ∃ H1 b, HLe H H1 ∧ u = .func (.func 231) #[] #[.pointer (some ⟨b, 0, none⟩)] ∧ Iter Tryz.prog 231 [.pointer (some ⟨b, 0, none⟩)] H1 (backL L) ∧ St H1 w' σ := by
  obtain ⟨a, c, rfl⟩ := RI.shape hr
  refine Cl.of Tryz.func180 rfl Tryz.ntmps180 (by simp) (args_cons (k := 0) rfl (args0)) ?_
  refine .regSeq ?_
  refine .o (.box hs rfl rfl ?_); intro b1 w hs
  refine .z zg (.nil (.regSeq ?_))
  refine .q hs (q_makeFunc (f := []) (c := [_]) rfl rfl) ?_
  refine .z zg (.nil ?_)
  refine .ret (Fin.ret1 Tryz.results180 rfl ?_)
  obtain ⟨H1, g1, g2, hs⟩ := hs.publish .here
  exact ⟨H1, b1, g1, rfl, slices_Backward_1_iter g2 (hr.mono g1), hs⟩
theorem bound_Conflict_1 {H : Heap} {w : World} {σ : List Ent} {n m : Int} {b : Nat} (hs : St H w σ) (hb : Row H b [I m]) :
    Cl Tryz.prog 181 [I n, .pointer (some ⟨b, 0, none⟩)] w fun u w' => u = .bool (decide (n = m)) ∧ St H w' σ := by
  have hb0 : cellAt H b 0 = some (I m) := hb.at 0
  refine Cl.of Tryz.func181 rfl Tryz.ntmps181 (by simp) (args_cons (k := 0) rfl (args_cons (k := 1) rfl (args0))) ?_
  refine .regSeq (.z zg (.nil (.regSeq (.z zm (.y hs (zld Tryz.isAgg3) (.z zeql (.z zg (.nil ?_))))))))
  refine .ret (Fin.ret1 Tryz.results181 rfl ?_)
  exact ⟨rfl, hs⟩
set_option maxHeartbeats 1000000 in
theorem bound_Conflict_spec {H : Heap} {w : World} {σ : List Ent} {v : Value} {s : Syst} (hs : St H w σ) (hr : RSy H v s) :
    Cl Tryz.prog 98 [v] w fun u w' => ∃ H1 vx out e, HLe H H1 ∧ u = .tuple #[vx, I e] ∧ RI H1 vx out ∧ ConfR s out e ∧ St H1 w' σ := by
  obtain ⟨ul, rfl, hl⟩ := hr
  obtain ⟨al, cl, rfl⟩ := RL.shape hl
  refine Cl.of Tryz.func98 rfl Tryz.ntmps98 (by simp) (args_cons (k := 0) rfl (args0)) ?_
  refine .regSeq ?_
  refine .o (.box hs rfl rfl ?_); intro b1 w hs
  refine .z zg (.z zg (.nil (.seq (.regSeq (.y hs (zls [_, _] Tryz.isAgg70 Tryz.sizeOf70) ?_)))))
  refine .o (.call Tryz.call125 rfl (bound_Check_spec (s := s) hs ⟨_, rfl, hl⟩) ?_); rintro _ w ⟨rfl, hs⟩
  refine .z zg (.nil (.regSeq (.z zm (.z zneq (.nil ?_)))))
  refine (.condN rfl (fun hc12 => ?_) (fun hc12 => ?_))
  · refine .regSeq (.z zm (.z zg (.z zg (.nil ?_))))
    refine .ret (rT (?_))
    exact Fin.retD [] [] hs fun w hs => ⟨_, results2 Tryz.results98 rfl rfl, H, _, [], _, HLe.refl H, rfl, RS.nil H 1 none 0, .bad hc12, hs.out⟩
  · refine .skip ?_
    refine nT ?_
    refine .seq (.regSeq (.y hs (zls [_, _] Tryz.isAgg70 Tryz.sizeOf70) ?_))
    have hok : s.Ok := s.ok_iff.1 (by simpa using hc12)
    have hll := hok.len
    refine .o (.call Tryz.call133 rfl (bound_isSound_spec (s := s) hs hok ⟨_, rfl, hl⟩) ?_); rintro _ w ⟨H1, bb, hle1, rfl, hbb, hs⟩
    refine .nil ?_
    refine (.cond rfl (fun hc15 => ?_) (fun hc15 => ?_))
    · refine .regSeq (.z zg (.z zg (.nil ?_)))
      refine .ret (rT (?_))
      exact Fin.retD [] [] hs fun w hs => ⟨_, results2 Tryz.results98 rfl rfl, H1, _, [], _, hle1, rfl, RS.nil H1 1 none 0, .none hok (hbb.1 hc15), hs.out⟩
    · refine .skip ?_
      refine nT ?_
      refine .regSeq (.y hs (zls [_, _] Tryz.isAgg70 Tryz.sizeOf70) ?_)
      have hns : ¬ s.Sound := fun h => by rw [hbb.2 h] at hc15; cases hc15
      refine .o (.call Tryz.call129 rfl (bound_Sources_spec (s := s) hs ⟨_, rfl, hl.mono hle1⟩ (by omega)) ?_); rintro v17 w ⟨L, en, hO, hLl, hRise, hs⟩
      obtain ⟨a17, l17, c17, rfl, h17⟩ := hO.shape
      refine .o (.alloc hs Tryz.zeroValue22 rfl ?_); intro b5 w hs
      refine .o (.store hs rfl rfl Tryz.sizeOf22 ?_); intro w hs
      refine .nil (.seq (.regSeq (.y hs (zls [_, _] Tryz.isAgg70 Tryz.sizeOf70) ?_)))
      refine .o (.call Tryz.call129 rfl (bound_Sources_spec (s := s) hs ⟨_, rfl, hl.mono hle1⟩ (by omega)) ?_); rintro v19 w ⟨L', en', hO', hLl', hRise', hs⟩
      obtain rfl : L = L' := hRise.uniq hRise'
      obtain ⟨H2, hle2, hR19, hs⟩ := OwnS.publishI hO' (by omega) hs .here
      refine .o (.call Tryz.call180 rfl (slices_Backward_spec hs hR19) ?_); rintro _ w ⟨H3, b20, hle3, rfl, hit, hs⟩
      have hle03 := hle1.trans (hle2.trans hle3)
      refine .nil (.block ?_)
      refine .rangeFunc (gf := 231) (cap := [.pointer (some ⟨b20, 0, none⟩)]) (xs := backL L) (σb := [.blk b1 [I s.many, .slice al s.lims.length cl], .blk b5 [.slice a17 l17 c17], en]) (σf := σ) (hs.sub (by repeat (first | exact Sub.refl _ | constructor | apply Sub.weaken)) : St H3 w (.blk b1 _ :: .blk b5 _ :: en :: σ)) trivial rfl hit Tryz.call231 (fun x hx => by
          simp only [backL, List.mem_map] at hx
          obtain ⟨j, _, rfl⟩ := hx; rfl) rfl
        (I := fun j H' σb => ∃ (t : Syst) (ut vo : Value) (out : List Int) (en : Ent), σb = [.blk b1 [I t.many, ut], .blk b5 [vo], en] ∧ RL H' ut t.lims ∧ OwnS 1 vo (Is out) en ∧ out.length ≤ L.length ∧ t.Ok ∧ ConfI s L (L.length - j) t out) (Ix := fun _ _ _ => False)
        (fun j _ _ σ g1 ⟨t, ut, vo, out, en, g2, g3, g4⟩ => ⟨t, ut, vo, out, en, g2, g3.mono g1, g4⟩) (fun _ _ _ _ _ h => h)
        ⟨s, _, _, L, en, rfl, hl.mono hle03, hO, Nat.le_refl _, hok, .start⟩ ?_ ?_ (fun D c H' σb w _ h _ => h.elim)
      · rintro l j hj H4 σb2 σf2 w hle4 ⟨t, ut, vo, out, en, rfl, hut, hOo, hol, htok, hC⟩ hs ⟨rr, hrr⟩
        rw [backL_get hj]
        have hjL : j < L.length := by rw [backL_length] at hj; exact hj
        obtain ⟨at', ct, rfl⟩ := RL.shape hut
        obtain ⟨ao, lo, co, rfl, hlo⟩ := hOo.shape
        refine .region ?_
        refine .o (.alloc hs Tryz.zeroValue3 rfl ?_); intro b7 w hs
        refine .o (.store hs rfl rfl Tryz.sizeOf3 ?_); intro w hs
        refine .nil ?_
        refine nT ?_
        refine ⟨H4, [.blk b7 [I (gi L (L.length - 1 - j))], .blk b1 [I t.many, .slice at' t.lims.length ct], .blk b5 [.slice ao lo co], en], HLe.refl _, hs, ?_⟩; rintro w σf4 - hs
        refine .block (.regSeq (.y hs (zls [_, _] Tryz.isAgg70 Tryz.sizeOf70) (.y hs (zld Tryz.isAgg3) ?_)))
        refine .o (.buildSlice (cells := [_]) hs bls_sl_int_1 rfl rfl ?_); intro b25 w hs
        obtain ⟨H5, hle5, r25, hs⟩ := OwnS.publishI (xs := [gi L (L.length - 1 - j)]) (v := .slice (some ⟨b25, 0, none⟩) 1 1) (.full (len := 1) rfl) (by simp) hs (by repeat constructor)
        refine .o (.call Tryz.call136 rfl (bound_Without_spec (s := t) hs ⟨_, rfl, hut.mono hle5⟩ r25 (by have := htok.len; omega)) ?_); rintro _ w ⟨H6, hle6, ⟨u26, rfl, hL26⟩, hs⟩
        obtain ⟨a26, c26, rfl⟩ := RL.shape hL26
        refine .o (.alloc hs Tryz.zeroValue70 rfl ?_); intro b8 w hs
        refine .o (.stores (vs := [_, _]) hs rfl rfl Tryz.sizeOf70 ?_); intro w hs
        refine .nil (.regSeq (.y hs (zls [_, _] Tryz.isAgg70 Tryz.sizeOf70) ?_))
        refine .o (.call Tryz.call133 rfl (bound_isSound_spec (s := t.wo [gi L (L.length - 1 - j)]) hs (htok.wo _) ⟨_, rfl, hL26⟩) ?_); rintro _ w ⟨H7, b28, hle7, rfl, hb28, hs⟩
        have hle47 := hle5.trans (hle6.trans hle7)
        refine .z znot (.nil ?_)
        refine (.cond rfl (fun hc29 => ?_) (fun hc29 => ?_))
        · refine .regSeq (.y hs (zls [_, _] Tryz.isAgg70 Tryz.sizeOf70) ?_)
          refine .o (.stores (vs := [_, _]) hs rfl rfl Tryz.sizeOf70 ?_); intro w hs
          refine .nil (.region (.y hs (zld Tryz.isAgg22) ?_))
          refine .q hs (q_makeFunc (f := []) (c := [_]) rfl rfl) ?_
          obtain ⟨H8, hle8, r7, hs⟩ := hs.publish (b := b7) (by repeat constructor)
          replace hs : St H8 w (en :: .blk b1 [I t.many, .slice a26 (t.wo [gi L (L.length - 1 - j)]).lims.length c26] :: .blk b5 [.slice ao lo co] :: σf4) := hs.sub (by repeat (first | exact Sub.refl _ | constructor | apply Sub.weaken))
          refine .o (.call Tryz.call150 rfl (slices_DeleteFunc_spec (g := 181) (cap := [.pointer (some ⟨b7, 0, none⟩)]) (fun n => decide (n = gi L (L.length - 1 - j))) hs hOo (by omega) Tryz.call181
            (fun H' w σ n _ hle hs => (bound_Conflict_1 hs (r7.mono hle)).mono fun u w' ⟨g1, g2⟩ => ⟨H', HLe.refl _, g1, g2⟩)) ?_); rintro v33 w ⟨H9, en9, hle9, hO9, hs⟩
          obtain ⟨a33, l33, c33, rfl, h33⟩ := hO9.shape
          refine .o (.store hs rfl rfl Tryz.sizeOf22 ?_); intro w hs
          refine .nil ?_
          refine nB ?_
          have hfl := List.length_filter_le (fun n => !decide (n = gi L (L.length - 1 - j))) out
          have e : L.length - (j + 1) = L.length - 1 - j := by omega
          have hns' : ¬ (t.wo [gi L (L.length - 1 - j)]).Sound := fun h => by rw [hb28.2 h] at hc29; cases hc29
          exact ⟨H9, [.blk b1 [I t.many, .slice a26 (t.wo [gi L (L.length - 1 - j)]).lims.length c26], .blk b5 [.slice a33 l33 c33], en9], hle47.trans (hle8.trans hle9), (hs.sub (by repeat (first | exact Sub.refl _ | constructor | apply Sub.weaken)) : St H9 w (.blk b1 _ :: .blk b5 _ :: en9 :: σf4)), t.wo [gi L (L.length - 1 - j)], _, _, _, _, rfl, hL26.mono (hle7.trans (hle8.trans hle9)), hO9, by omega, htok.wo _, by
            rw [e]
            exact .drop (by rw [show L.length - 1 - j + 1 = L.length - j by omega]; exact hC) hns'⟩
        · refine .skip ?_
          refine nB ?_
          have e : L.length - (j + 1) = L.length - 1 - j := by omega
          have hsd' : (t.wo [gi L (L.length - 1 - j)]).Sound := hb28.1 (by simpa using hc29)
          exact ⟨H7, [.blk b1 [I t.many, .slice at' t.lims.length ct], .blk b5 [.slice ao lo co], en], hle47, (hs.sub (by repeat (first | exact Sub.refl _ | constructor | apply Sub.weaken)) : St H7 w (.blk b1 _ :: .blk b5 _ :: en :: σf4)), t, _, _, _, _, rfl, hut.mono hle47, hOo, hol, htok, by
            rw [e]
            exact .keep (by rw [show L.length - 1 - j + 1 = L.length - j by omega]; exact hC) hsd'⟩
      · rintro D H4 σb2 w hle4 ⟨t, ut, vo, out, en, rfl, hut, hOo, hol, htok, hC⟩ hs
        rw [backL_length, Nat.sub_self] at hC
        obtain ⟨ao, lo, co, rfl, hlo⟩ := hOo.shape
        replace hs : St H4 w (.obj D (.deferred (some [])) :: .blk b1 [I t.many, ut] :: .blk b5 [.slice ao lo co] :: en :: σ) := hs
        refine nB (nT ?_)
        refine .regSeq (.y hs (zld Tryz.isAgg22) (.z zg (.z zg (.nil ?_))))
        refine .ret ?_
        obtain ⟨H5, hle5, hR5, hs⟩ := OwnS.publishI hOo (by omega) hs (by repeat constructor)
        exact Fin.retD [D] [] hs fun w hs => ⟨_, results2 Tryz.results98 rfl rfl, H5, _, out, 0, hle03.trans (hle4.trans hle5), rfl, hR5, .ok hok hns hRise hC, hs.out⟩
end Go.Proofs.YtddaejgfjlneoaaGreat

namespace Go.Proofs.YtddaejgfjlneoaaGreat
open Go.MW
theorem CycR.round {s : Syst} {xs : List Int} (h : CycR s xs 0) (hn : ¬ s.Sound) : RoundP s xs ∧ xs.length ≤ s.n := by
  generalize hz : (0 : Int) = y at h
  cases h with
  | bad h => exact (h hz.symm).elim
  | sound _ h1 _ => exact (hn h1).elim
  | @chain st x z k hok h1 h2 h3 h4 h5 h6 h7 =>
    obtain ⟨r, hN, hr⟩ := h2
    have hr' := hr (by simp)
    have hxin := hok.arcs.2 x (hN.ovm x rfl)
    have hreal := par_real hN hr' hxin.2.1
    have hre : ∀ i, ga st.by_ (parK st.by_ z i) ∈ s.arcs ∧ (ga st.by_ (parK st.by_ z i)).t = parK st.by_ z i := fun i => by
      have := hreal (s.n + 1 + i)
      rw [parK_add, ← h3] at this
      exact this
    have hlim : ∀ i, 0 ≤ (ga st.by_ (parK st.by_ z i)).l ∧ (ga st.by_ (parK st.by_ z i)).l < s.lims.length ∧ (lmA s (ga st.by_ (parK st.by_ z i)).l).A = ((ga st.by_ (parK st.by_ z i)).f : Int) ∧ (lmA s (ga st.by_ (parK st.by_ z i)).l).B = ((ga st.by_ (parK st.by_ z i)).t : Int) ∧ (lmA s (ga st.by_ (parK st.by_ z i)).l).M = (ga st.by_ (parK st.by_ z i)).c := fun i => by
      obtain ⟨q, l, g1, g2⟩ := arcsOf_mem (hre i).1
      rw [g2]
      have hq := (List.getElem?_eq_some_iff.1 g1).1
      have ha := hok.arc (List.mem_of_getElem? g1) q
      have e1 : (l.arc q).l = (q : Int) := rfl
      have e2 : lmA s (l.arc q).l = l := by
        rw [e1]
        have := lmA_get (s := s) (i := (q : Int)) (by omega)
        rw [Int.toNat_natCast, g1] at this
        exact (Option.some.inj this).symm
      rw [e2]
      exact ⟨by omega, by omega, ha.1.symm, ha.2.1.symm, rfl⟩
    have hxl : xs.length = k := by rw [h7, List.length_reverse, idxTo_length]
    have hget : ∀ p < k, gi xs p = (ga st.by_ (parK st.by_ z (k - 1 - p))).l := fun p hp => by
      have hp' : p < (idxTo st.by_ z k).reverse.length := by rw [List.length_reverse, idxTo_length]; exact hp
      have := gi_get hp'
      rw [List.getElem?_reverse (by simpa using hp'), idxTo_length] at this
      rw [h7]
      have e : (idxTo st.by_ z k)[k - 1 - p]? = some (ga st.by_ (parK st.by_ z (k - 1 - p))).l := by
        simp [idxTo, show k - 1 - p < k by omega]
      rw [e] at this
      exact (Option.some.inj this).symm
    have hpar : ∀ i, (ga st.by_ (parK st.by_ z i)).f = parK st.by_ z (i + 1) := fun _ => rfl
    have hn65 := hok.n65
    refine ⟨⟨by omega, by omega, fun p hp => ?_, fun p hp => ?_, ?_⟩, by omega⟩
    · rw [hget p (by omega)]
      exact ⟨(hlim _).1, (hlim _).2.1⟩
    · rw [hxl] at hp ⊢
      have hm := Nat.mod_lt (p + 1) (show k > 0 by omega)
      rw [hget p hp, hget _ hm, (hlim _).2.2.2.1, (hlim _).2.2.1, (hre _).2, hpar]
      by_cases e : p + 1 < k
      · rw [Nat.mod_eq_of_lt e, show k - 1 - (p + 1) + 1 = k - 1 - p by omega]
      · rw [show p + 1 = k by omega, Nat.mod_self, show k - 1 - 0 + 1 = k by omega, h6, show k - 1 - p = 0 by omega]; rfl
    · rw [hxl, sumTo_congr (g := fun p => (ga st.by_ (parK st.by_ z (k - 1 - p))).c) (fun p hp => by rw [hget p hp, (hlim _).2.2.2.2]), sumTo_rev (fun i => (ga st.by_ (parK st.by_ z i)).c) k]
      have hb := par_back (b := st.by_) (v := z) (k := k) fun i _ => (hlim i).1
      rw [h6] at hb
      obtain ⟨k', rfl⟩ : ∃ k', k = k' + 1 := ⟨k - 1, by omega⟩
      refine hN.cyc z ?_ k' _ hb
      have := (hok.arcs.2 _ (hre 0).1).2.1
      rw [(hre 0).2] at this
      exact this
end Go.Proofs.YtddaejgfjlneoaaGreat

namespace Go.Proofs.YtddaejgfjlneoaaGreat
open Go.MW
theorem slices_IndexFunc_known {H : Heap} {w : World} {σ : List Ent} {v : Value} {xs : List Int} {g : Nat} {cap : List Value} (q : Int → Prop) (hs : St H w σ) (hR : RI H v xs) (hc : ∀ args w, (callFunc g args).run Tryz.prog w = .ok (.enter g args) w)
    (hp : ∀ H' w σ (n : Int), n ∈ xs → HLe H H' → St H' w σ → Cl Tryz.prog g ([I n] ++ cap) w fun u w' => ∃ H1 b, HLe H' H1 ∧ u = .bool b ∧ (b = true ↔ q n) ∧ St H1 w' σ) :
    Cl Tryz.prog 206 [v, .func (.func g) #[] cap.toArray] w fun u w' => ∃ H1 i, HLe H H1 ∧ u = I i ∧ (0 ≤ i ↔ ∃ x ∈ xs, q x) ∧ St H1 w' σ := by
  obtain ⟨a, c, rfl⟩ := RI.shape hR
  have hl := (RI.len hR).2.2
  refine Cl.of Tryz.func206 rfl Tryz.ntmps206 (by simp) (args_cons (k := 0) rfl (args_cons (k := 1) rfl (args0))) ?_
  refine .regSeq (.z zg (.nil (.seq (.regSeq (.z zm (.z (zlen Tryz.runUnderlying22) (.z zm (.nil ?_))))))))
  refine .for (N := xs.length) (J := fun k fr w => fr = [(1, .func (.func g) #[] cap.toArray), (0, .slice a xs.length c)] ∧ ∃ H1, HLe H H1 ∧ (∀ j < k, ∀ y, xs[j]? = some y → ¬ q y) ∧ St H1 w σ) (by omega) ?_ ?_ ?_
  · exact .mk ⟨rfl, H, HLe.refl H, fun j hj => by omega, hs⟩
  · rintro k fr w hk ⟨rfl, H1, hle1, hno, hs⟩
    obtain ⟨x, hx⟩ := nth hk
    refine .block (.regSeq (.z zm (.z zg (.nil (.regSeq (.z zm (.z zm (.z zm ?_))))))))
    refine .ixY hs (hR.mono hle1) rfl rfl Tryz.runUnderlying22 Tryz.sizeOf3 hx rfl ?_; intro b14 o14 hc14
    refine .q hs (q_loadR rfl Tryz.isAgg3 hc14) ?_
    refine .o (.callG (first := []) (cap := cap) rfl rfl hc (hp _ _ _ x (List.mem_of_getElem? hx) hle1 hs) ?_); rintro _ w ⟨H2, b16, hle2, rfl, hb16, hs⟩
    refine .nil ?_
    refine (.cond rfl (fun hc16 => ?_) (fun hc16 => ?_))
    · refine .regSeq (.z zm (.z zg (.nil ?_)))
      refine .ret (rB (rT (rB (rT (Fin.ret1 Tryz.results206 rfl ?_)))))
      exact ⟨H2, _, hle1.trans hle2, rfl, ⟨fun _ => ⟨x, List.mem_of_getElem? hx, hb16.1 hc16⟩, fun _ => by omega⟩, hs⟩
    · refine .skip ?_
      refine nB (nT ?_)
      exact .mk ⟨rfl, H2, hle1.trans hle2, upto_succ hno hx (fun h => by rw [hb16.2 h] at hc16; cases hc16), hs⟩
  · rintro fr w ⟨rfl, H1, hle1, hno, hs⟩
    refine nT ?_
    refine .regSeq (.z zg (.nil ?_))
    refine .ret (Fin.ret1 Tryz.results206 rfl ?_)
    exact ⟨H1, _, hle1, rfl, ⟨fun h => by omega, fun ⟨x, h1, h2⟩ => by
      obtain ⟨j, hj⟩ := List.getElem?_of_mem h1
      exact (hno j (List.getElem?_eq_some_iff.1 hj).1 x hj h2).elim⟩, hs⟩
theorem slices_ContainsFunc_known {H : Heap} {w : World} {σ : List Ent} {v : Value} {xs : List Int} {g : Nat} {cap : List Value} (q : Int → Prop) (hs : St H w σ) (hR : RI H v xs) (hc : ∀ args w, (callFunc g args).run Tryz.prog w = .ok (.enter g args) w)
    (hp : ∀ H' w σ (n : Int), n ∈ xs → HLe H H' → St H' w σ → Cl Tryz.prog g ([I n] ++ cap) w fun u w' => ∃ H1 b, HLe H' H1 ∧ u = .bool b ∧ (b = true ↔ q n) ∧ St H1 w' σ) :
    Cl Tryz.prog 134 [v, .func (.func g) #[] cap.toArray] w fun u w' => ∃ H1 b, HLe H H1 ∧ u = .bool b ∧ (b = true ↔ ∃ x ∈ xs, q x) ∧ St H1 w' σ := by
  refine Cl.of Tryz.func134 rfl Tryz.ntmps134 (by simp) (args_cons (k := 0) rfl (args_cons (k := 1) rfl (args0))) ?_
  refine .regSeq (.z zg (.nil (.regSeq (.z zm (.z zm ?_)))))
  refine .o (.call Tryz.call206 rfl (slices_IndexFunc_known q hs hR hc hp) ?_); rintro _ w ⟨H1, i, hle1, rfl, hi, hs⟩
  refine .z zgeq (.z zg (.nil ?_))
  refine .ret (Fin.ret1 Tryz.results134 rfl ?_)
  exact ⟨H1, _, hle1, rfl, by simp only [decide_eq_true_eq]; exact hi, hs⟩
end Go.Proofs.YtddaejgfjlneoaaGreat

namespace Go.Proofs.YtddaejgfjlneoaaGreat
open Go.MW
theorem RI.one {H : Heap} {a : Option Addr} {len cap k : Nat} {xs : List Int} (h : RI H (.slice a len cap) xs) (hk : k < len) : RI H (.slice (if cap = k then a else a.map (·.add (k * 1))) (k + 1 - k) (cap - k)) [gi xs k] := by
  have hl := (RI.len h).1
  have h1 := RS.part h (lo := k) (hi := k + 1) (by omega) (by omega)
  have e : (((xs.map fun x => [I x]).take (k + 1)).drop k) = [gi xs k].map fun x => [I x] := by
    rw [← List.map_take, ← List.map_drop]
    congr 1
    have hx := gi_get (l := xs) (i := k) (by omega)
    rw [take_snoc hx]
    exact List.drop_left' (by rw [List.length_take]; omega)
  rw [e] at h1
  exact h1
end Go.Proofs.YtddaejgfjlneoaaGreat

namespace Go.Proofs.YtddaejgfjlneoaaGreat
open Go.MW
theorem weigh_isWithin_spec {H : Heap} {w : World} {σ : List Ent} {a0 a1 a2 : Int} (hs : St H w σ) : Cl Tryz.prog 274 [I a0, I a1, I a2] w fun v w' => v = .bool (decide (a1 ≤ a0 ∧ a0 ≤ a2)) ∧ St H w' σ := by
  refine Cl.of Tryz.func274 rfl Tryz.ntmps274 (by simp) (args_cons (k := 0) rfl (args_cons (k := 1) rfl (args_cons (k := 2) rfl (args0)))) ?_
  refine .regSeq (.z zg (.nil (.regSeq (.z zm (.z zm (.z zleq (.z zm ?_)))))))
  refine .bifD (t' := 10) rfl (fun hb10 => ?_) (fun hb10 => ?_)
  · refine .gT rfl rfl ?_
    refine .z zm ?_
    refine .gT rfl rfl ?_
    refine .z zm ?_
    refine .gT rfl rfl ?_
    refine .z zleq (.z zpT (.z zg (.nil ?_)))
    refine .ret (Fin.ret1 Tryz.results274 rfl ?_)
    exact ⟨by simp [*], hs.out⟩
  · refine .gFs 3 3 true rfl rfl rfl ?_
    refine .z zpF (.z zg (.nil ?_))
    refine .ret (Fin.ret1 Tryz.results274 rfl ?_)
    exact ⟨by simp [*], hs.out⟩
theorem weigh_arePlaces_spec {H : Heap} {w : World} {σ : List Ent} {v : Value} {l : List Int} {many : Nat} {most : Int} (hs : St H w σ) (hr : RI H v l) :
    Cl Tryz.prog 247 [v, I many, I most] w fun v w' => ∃ b : Bool, v = .bool b ∧ (b = true ↔ PlcOk many most l) ∧ St H w' σ := by
  obtain ⟨a, c, rfl⟩ := RI.shape hr
  have hlen := (RI.len hr).2.2
  refine Cl.of Tryz.func247 rfl Tryz.ntmps247 (by simp) (args_cons (k := 0) rfl (args_cons (k := 1) rfl (args_cons (k := 2) rfl (args0)))) ?_
  refine .regSeq (.z zg (.nil (.seq (.regSeq (.z zm (.z (zlen Tryz.runUnderlying22) (.z zm ?_)))))))
  refine .o (.call Tryz.call274 rfl (weigh_isWithin_spec hs) ?_); rintro _ w ⟨rfl, hs⟩
  refine .z znot (.z zm ?_)
  refine .bif (t' := 14) rfl (fun hb14 => ?_) (fun hb14 => ?_)
  · refine .gFs 4 5 false rfl rfl rfl ?_
    refine .z zpT (.z zm ?_)
    refine .gFs 8 11 false rfl rfl rfl ?_
    refine .z zpT (.nil ?_)
    refine (.condT rfl rfl ?_)
    refine .regSeq (.z zg (.nil ?_))
    refine .ret (rT (Fin.ret1 Tryz.results247 rfl ?_))
    exact ⟨false, rfl, ⟨fun h => (by cases h), fun h => by have := h.two; have := h.many; simp at hb14; omega⟩, hs⟩
  · refine .gT rfl rfl ?_
    refine .z zm ?_
    refine .gT rfl rfl ?_
    have htwo : 2 ≤ l.length ∧ l.length ≤ many := by simp at hb14; omega
    refine .ixY hs hr rfl rfl Tryz.runUnderlying22 Tryz.sizeOf3 (gi_get (l := l) (i := 0) (by omega)) (by first | rfl | assumption | omega) ?_; intro b16 o16 hc16
    refine .gT rfl rfl ?_
    refine .q hs (q_loadR rfl Tryz.isAgg3 hc16) ?_
    refine .gT rfl rfl ?_
    refine .z zlss (.z zpF (.z zm ?_))
    refine .bifD (t' := 20) rfl (fun hb20 => ?_) (fun hb20 => ?_)
    · refine .gFs 8 11 false rfl rfl rfl ?_
      refine .z zpT (.nil ?_)
      refine (.condT rfl rfl ?_)
      refine .regSeq (.z zg (.nil ?_))
      refine .ret (rT (Fin.ret1 Tryz.results247 rfl ?_))
      exact ⟨false, rfl, ⟨fun h => (by cases h), fun h => by have := h.low; omega⟩, hs⟩
    · refine .gT rfl rfl ?_
      refine .z zm ?_
      refine .gT rfl rfl ?_
      refine .z zm ?_
      refine .gT rfl rfl ?_
      refine .z (zlen Tryz.runUnderlying22) ?_
      refine .gT rfl rfl ?_
      refine .z zsub ?_
      refine .gT rfl rfl ?_
      refine .ixY hs hr rfl rfl Tryz.runUnderlying22 Tryz.sizeOf3 (gi_get (l := l) (i := (l.length - 1)) (by omega)) (by first | rfl | assumption | omega) ?_; intro b25 o25 hc25
      refine .gT rfl rfl ?_
      refine .q hs (q_loadR rfl Tryz.isAgg3 hc25) ?_
      refine .gT rfl rfl ?_
      refine .z zm ?_
      refine .gT rfl rfl ?_
      refine .z zgtr (.z zpF (.nil ?_))
      refine (.condD rfl (fun hc29 => ?_) (fun hc29 => ?_))
      · refine .regSeq (.z zg (.nil ?_))
        refine .ret (rT (Fin.ret1 Tryz.results247 rfl ?_))
        exact ⟨false, rfl, ⟨fun h => (by cases h), fun h => by have := h.high; omega⟩, hs⟩
      · refine .skip ?_
        refine nT ?_
        refine .seq (.regSeq (.z zm ?_))
        refine .q hs (q_sliceLX (k := 1) rfl rfl Tryz.runUnderlying22 Tryz.sizeOf3 (by omega) (by omega)) ?_
        refine .z (zlen Tryz.runUnderlying22) (.z zm (.nil ?_))
        refine .for (N := l.length - 1) (J := fun k fr w => fr = [(31, .slice (if c = 1 then a else a.map (·.add (1 * 1))) (l.length - 1) (c - 1)), (0, .slice a l.length c)] ∧ (∀ j < k, gi l j < gi l (j + 1)) ∧ St H w σ) (by omega) ?_ ?_ ?_
        · exact .mk ⟨rfl, fun j hj => by omega, hs⟩
        · rintro k fr w hk ⟨rfl, hno, hs⟩
          have ht := hr.tail (k := 1) (by omega)
          have hx : (l.drop 1)[k]? = some (gi l (k + 1)) := by rw [List.getElem?_drop, Nat.add_comm]; exact gi_get (by omega)
          refine .block (.regSeq (.z zm ?_))
          refine .ixY hs ht rfl rfl Tryz.runUnderlying22 Tryz.sizeOf3 hx rfl ?_; intro b36 o36 hc36
          refine .q hs (q_loadR rfl Tryz.isAgg3 hc36) ?_
          refine .z zg (.z zg (.nil (.regSeq (.z zm (.z zm ?_)))))
          refine .ixY hs hr rfl rfl Tryz.runUnderlying22 Tryz.sizeOf3 (gi_get (l := l) (i := k) (by omega)) (by first | rfl | assumption | omega) ?_; intro b40 o40 hc40
          refine .q hs (q_loadR rfl Tryz.isAgg3 hc40) ?_
          refine .z zm (.z zgeq (.nil ?_))
          refine (.condD rfl (fun hc43 => ?_) (fun hc43 => ?_))
          · refine .regSeq (.z zg (.nil ?_))
            refine .ret (rB (rT (rB (rT (Fin.ret1 Tryz.results247 rfl ?_)))))
            exact ⟨false, rfl, ⟨fun h => (by cases h), fun h => by have := h.rise k (by omega); omega⟩, hs⟩
          · refine .skip ?_
            refine nB (nT ?_)
            exact .mk ⟨rfl, fun j hj => by
              by_cases e : j = k
              · subst e; omega
              · exact hno j (by omega), hs⟩
        · rintro fr w ⟨rfl, hno, hs⟩
          refine nT ?_
          refine .regSeq (.z zg (.nil ?_))
          refine .ret (Fin.ret1 Tryz.results247 rfl ?_)
          exact ⟨true, rfl, ⟨fun _ => ⟨by omega, by omega, by omega, by omega, fun i hi => hno i (by omega)⟩, fun _ => rfl⟩, hs⟩
theorem weigh_CheckPlaces_spec {H : Heap} {w : World} {σ : List Ent} {v : Value} {l : List Int} (hs : St H w σ) (hr : RI H v l) :
    Cl Tryz.prog 294 [v] w fun v w' => ∃ e, v = I e ∧ ((PlcOk 9 100000 l ∧ e = 0) ∨ (¬ PlcOk 9 100000 l ∧ e ≠ 0)) ∧ St H w' σ := by
  obtain ⟨a, c, rfl⟩ := RI.shape hr
  refine Cl.of Tryz.func294 rfl Tryz.ntmps294 (by simp) (args_cons (k := 0) rfl (args0)) ?_
  refine .regSeq (.z zg (.nil (.seq (.regSeq (.z zm ?_)))))
  refine .o (.call Tryz.call247 rfl (weigh_arePlaces_spec (many := 9) (most := 100000) hs hr) ?_); rintro _ w ⟨b4, rfl, hb4, hs⟩
  refine .z znot (.nil ?_)
  refine (.cond rfl (fun hc5 => ?_) (fun hc5 => ?_))
  · refine .regSeq (.z zg (.nil ?_))
    refine .ret (rT (Fin.ret1 Tryz.results294 rfl ?_))
    exact ⟨_, rfl, .inr ⟨fun h => by simp [hb4.2 h] at hc5, by decide⟩, hs⟩
  · refine .skip ?_
    refine nT ?_
    refine .regSeq (.z zg (.nil ?_))
    refine .ret (Fin.ret1 Tryz.results294 rfl ?_)
    exact ⟨_, rfl, .inl ⟨hb4.1 (by simpa using hc5), rfl⟩, hs⟩
theorem weigh_ratio_spec {H : Heap} {w : World} {σ : List Ent} {a b : Int} (hs : St H w σ) (ha : 0 < a) (hb : 0 < b ∧ b ≤ 100000) :
    Cl Tryz.prog 277 [I a, I b] w fun v w' => v = I (rat a b) ∧ St H w' σ := by
  have h1 : 0 ≤ b.tdiv a := Int.tdiv_nonneg (by omega) (by omega)
  have h2 : b.tdiv a ≤ b := by rw [Int.tdiv_eq_ediv_of_nonneg (by omega)]; exact Int.ediv_le_self _ (by omega)
  have hw := i64wrap (m := b.tdiv a) ⟨by omega, by omega⟩
  refine Cl.of Tryz.func277 rfl Tryz.ntmps277 (by simp) (args_cons (k := 0) rfl (args_cons (k := 1) rfl (args0))) ?_
  refine .regSeq (.z zg (.nil (.seq (.regSeq (.z zm (.z zm (.z zrem (.z zeql (.z zm ?_)))))))))
  refine .bifD (t' := 9) rfl (fun hb9 => ?_) (fun hb9 => ?_)
  · refine .gT rfl rfl ?_
    refine .z zm ?_
    refine .gT rfl rfl ?_
    refine .z zm ?_
    refine .gT rfl rfl ?_
    refine .z zquo ?_
    refine .gT rfl rfl ?_
    refine .z zleq (.z zpT (.nil ?_))
    refine (.condD rfl (fun hc14 => ?_) (fun hc14 => ?_))
    · refine .regSeq (.z zm (.z zm (.z zquo (.z zg (.nil ?_)))))
      refine .ret (rT (Fin.ret1 Tryz.results277 rfl ?_))
      rw [hw] at hc14 ⊢
      exact ⟨by unfold rat; rw [if_pos ⟨by assumption, by assumption⟩], hs⟩
    · refine .skip ?_
      refine nT ?_
      refine .regSeq (.z zg (.nil ?_))
      refine .ret (Fin.ret1 Tryz.results277 rfl ?_)
      rw [hw] at hc14
      exact ⟨by unfold rat; rw [if_neg (by omega)], hs⟩
  · refine .gFs 4 4 true rfl rfl rfl ?_
    refine .z zpF (.nil ?_)
    refine (.condF rfl rfl ?_)
    refine .skip ?_
    refine nT ?_
    refine .regSeq (.z zg (.nil ?_))
    refine .ret (Fin.ret1 Tryz.results277 rfl ?_)
    exact ⟨by unfold rat; rw [if_neg (by omega)], hs⟩
def grpsV (l : List Int) : List (List Value) := (grps l).map fun g => [Value.agg #[I (g.at_ : Int), I (g.n : Int)]]
theorem twoAt_iff {l : List Int} (hp : PlcOk 9 100000 l) {i : Nat} (h : i + 2 < l.length) : twoAt l i = true ↔ 0 < rat (gi l (i + 1) - gi l i) (gi l (i + 2) - gi l (i + 1)) ∨ 0 < rat (gi l (i + 2) - gi l (i + 1)) (gi l (i + 1) - gi l i) := by
  have h1 := hp.rise i (by omega)
  have h2 : gi l (i + 1) < gi l (i + 2) := hp.rise (i + 1) (by omega)
  unfold twoAt
  rw [tms_rat (by omega) (by omega)]
  simp only [Bool.and_eq_true, decide_eq_true_eq]
  omega
theorem weigh_groups_1_iter {H : Heap} {b : Nat} {v : Value} {l : List Int} (hp : PlcOk 9 100000 l) (hb : Row H b [v]) (hr : RI H v l) : Iter Tryz.prog 295 [.pointer (some ⟨b, 0, none⟩)] H (grpsV l) := by
  intro ly II Ix _ _ hy H0 σb0 σf w hle hI0 hs
  obtain ⟨a, c, rfl⟩ := RI.shape hr
  have hlen := hp.many
  have hb0 : cellAt H0 b 0 = some (.slice a l.length c) := cellAt.mono (hb.at 0) hle
  refine Cl.of Tryz.func295 rfl Tryz.ntmps295 (by simp) (args_cons (k := 0) rfl (args_cons (k := 1) rfl (args0))) ?_
  refine .regSeq (.z zg (.nil (.block ?_)))
  refine .loop (fun i : Nat => ⟨59, [], [(3, I (i : Int)), (0, .func (.yield ly) #[] #[]), (1, .pointer (some ⟨b, 0, none⟩))]⟩)
    (fun i w => i ≤ l.length ∧ ∃ j, j ≤ (grps l).length ∧ (grps l).drop j = grpsAt l i ∧ ∃ H1 σb, HLe H H1 ∧ HLe H0 H1 ∧ II j H1 σb ∧ St H1 w (σb ++ σf)) (fun i => l.length - i) 0 (.consI rfl (by simp) (by repeat (first | exact .nil rfl rfl | refine .cons rfl ?_)))
    ⟨Nat.zero_le _, 0, Nat.zero_le _, rfl, H0, σb0, hle, HLe.refl _, hI0, hs⟩ ?_
  clear hs hI0
  rintro i w ⟨hil, j, hj, hd, H1, σb, hle1, hle0, hI, hs⟩
  have hb1 : cellAt H1 b 0 = some (.slice a l.length c) := cellAt.mono hb0 hle0
  refine .seq (.regSeq (.z zm (.z zadd (.y hs (zld Tryz.isAgg22) (.z (zlen Tryz.runUnderlying22) (.z zlss (.nil ?_)))))))
  refine (.condD rfl (fun hc11 => ?_) (fun hc11 => ?_))
  · refine .skip ?_
    refine nT ?_
    refine .block (.regSeq (.z zm (.z (zbd [_, _] bld_api_Group) ?_)))
    refine .o (.alloc hs Tryz.zeroValue300 rfl ?_); intro b4 w hs
    refine .o (.stores (vs := [_, _]) hs rfl rfl Tryz.sizeOf300 ?_); intro w hs
    refine .nil ?_
    refine .cut (fun fs w => FSub fs ⟨59, [], [(4, .pointer (some ⟨b4, 0, none⟩)), (3, I (i : Int)), (0, .func (.yield ly) #[] #[]), (1, .pointer (some ⟨b, 0, none⟩))]⟩ ∧ St H1 w (.blk b4 [I (i : Int), I (((if twoAt l i then 2 else 1 : Nat)) : Int)] :: (σb ++ σf))) ?_ ?_
    · refine .regSeq (.z zm (.z zadd (.y hs (zld Tryz.isAgg22) (.z (zlen Tryz.runUnderlying22) (.z zlss (.nil ?_))))))
      refine (.condD rfl (fun hc18 => ?_) (fun hc18 => ?_))
      · refine .seq (.draw mix rfl hs ?_); intro w hs
        refine .y 0 rfl hs Tryz.isAgg22 ?_; refine .z 1 rfl zm ?_; refine .z 2 rfl zadd ?_
        have r1 := hp.rise i (by omega)
        have r2 : gi l (i + 1) < gi l (i + 2) := hp.rise (i + 1) (by omega)
        have hiff := twoAt_iff hp (i := i) (by omega)
        have q1 := hp.bd (i := i) (by omega)
        have q2 := hp.bd (i := i + 2) (by omega)
        refine .ixX (enc := fun x => [I x]) (i := 3) hs rfl (by kernel_rfl) .none (hr.mono hle1) rfl rfl Tryz.runUnderlying22 Tryz.sizeOf3 (gi_get (l := l) (i := (i+1)) (by omega)) (by first | rfl | assumption | omega) ?_; intro b22 o22 hc22; replace hc22 := CellsAt.one hc22
        refine .r (i := 4) hs rfl (by kernel_rfl) .none (q_loadR rfl Tryz.isAgg3 hc22) ?_
        refine .y 5 rfl hs Tryz.isAgg22 ?_; refine .z 6 rfl zm ?_
        refine .ixX (enc := fun x => [I x]) (i := 7) hs rfl (by kernel_rfl) .none (hr.mono hle1) rfl rfl Tryz.runUnderlying22 Tryz.sizeOf3 (gi_get (l := l) (i := i) (by omega)) (by first | rfl | assumption | omega) ?_; intro b26 o26 hc26; replace hc26 := CellsAt.one hc26
        refine .r (i := 8) hs rfl (by kernel_rfl) .none (q_loadR rfl Tryz.isAgg3 hc26) ?_
        refine .z 9 rfl zsub ?_; refine .y 10 rfl hs Tryz.isAgg22 ?_; refine .z 11 rfl zm ?_; refine .z 12 rfl zadd ?_
        refine .ixX (enc := fun x => [I x]) (i := 13) hs rfl (by kernel_rfl) .none (hr.mono hle1) rfl rfl Tryz.runUnderlying22 Tryz.sizeOf3 (gi_get (l := l) (i := (i+2)) (by omega)) (by first | rfl | assumption | omega) ?_; intro b32 o32 hc32; replace hc32 := CellsAt.one hc32
        refine .r (i := 14) hs rfl (by kernel_rfl) .none (q_loadR rfl Tryz.isAgg3 hc32) ?_
        refine .y 15 rfl hs Tryz.isAgg22 ?_; refine .z 16 rfl zm ?_; refine .z 17 rfl zadd ?_
        refine .ixX (enc := fun x => [I x]) (i := 18) hs rfl (by kernel_rfl) .none (hr.mono hle1) rfl rfl Tryz.runUnderlying22 Tryz.sizeOf3 (gi_get (l := l) (i := (i+1)) (by omega)) (by first | rfl | assumption | omega) ?_; intro b37 o37 hc37; replace hc37 := CellsAt.one hc37
        refine .r (i := 19) hs rfl (by kernel_rfl) .none (q_loadR rfl Tryz.isAgg3 hc37) ?_
        refine .z 20 rfl zsub ?_; refine .z 21 rfl zg ?_; refine .z 22 rfl zg ?_; refine .done (by kernel_rfl) hs ?_
        refine .regSeq (.z zm (.z zm ?_))
        refine .o (.call Tryz.call277 rfl (weigh_ratio_spec hs (by omega) (by omega)) ?_); rintro _ w ⟨rfl, hs⟩
        refine .z zgtr (.z zm ?_)
        refine .bifD (t' := 44) rfl (fun hb44 => ?_) (fun hb44 => ?_)
        · refine .gFs 4 4 false rfl rfl rfl ?_
          refine .z zpT (.nil ?_)
          refine (.condT rfl rfl ?_)
          refine .region (.z (zfa fa_api_Group_1) ?_)
          refine .o (.store hs rfl rfl Tryz.sizeOf3 ?_); intro w hs
          refine .nil ?_
          refine nT ?_
          rw [hiff.2 (.inl hb44)]; exact ⟨by repeat (first | exact .nil rfl rfl | refine .cons rfl ?_), hs⟩
        · refine .gT rfl rfl ?_
          refine .z zm ?_
          refine .gT rfl rfl ?_
          refine .z zm ?_
          refine .gT rfl rfl ?_
          refine .o (.call Tryz.call277 rfl (weigh_ratio_spec hs (by omega) (by omega)) ?_); rintro _ w ⟨rfl, hs⟩
          refine .gT rfl rfl ?_
          refine .z zgtr (.z zpF (.nil ?_))
          refine (.condD rfl (fun hc49 => ?_) (fun hc49 => ?_))
          · refine .region (.z (zfa fa_api_Group_1) ?_)
            refine .o (.store hs rfl rfl Tryz.sizeOf3 ?_); intro w hs
            refine .nil ?_
            refine nT ?_
            rw [hiff.2 (.inr hc49)]; exact ⟨by repeat (first | exact .nil rfl rfl | refine .cons rfl ?_), hs⟩
          · refine .skip ?_
            refine nT ?_
            rw [show twoAt l i = false from Bool.eq_false_iff.2 fun h => by have := hiff.1 h; omega]; exact ⟨by repeat (first | exact .nil rfl rfl | refine .cons rfl ?_), hs⟩
      · refine .skip ?_
        refine nT ?_
        rw [show twoAt l i = false by simp [twoAt]; omega]; exact ⟨by repeat (first | exact .nil rfl rfl | refine .cons rfl ?_), hs⟩
    · rintro fs w ⟨hfs, hs⟩
      refine WE.sub ?_ hfs
      have hgo := grpsAt_go (l := l) (i := i) (by omega)
      rw [hgo] at hd
      have hjl : j < (grps l).length := by
        have := congrArg List.length hd
        simp at this; omega
      have hgj : (grps l)[j] = ⟨i, twoAt l i⟩ := by
        rw [List.drop_eq_getElem_cons hjl] at hd
        exact (List.cons.inj hd).1
      have hdj : (grps l).drop (j + 1) = grpsAt l (i + (if twoAt l i then 2 else 1)) := by
        rw [List.drop_eq_getElem_cons hjl] at hd
        exact (List.cons.inj hd).2
      have hn12 : (if twoAt l i then 2 else 1 : Nat) = 1 ∨ (if twoAt l i then 2 else 1 : Nat) = 2 := by split <;> simp
      refine .seq (.regSeq (.z zm (.y hs (zls [_, _] Tryz.isAgg300 Tryz.sizeOf300) ?_)))
      have hk' : j < (grpsV l).length := by simpa [grpsV] using hjl
      have hyd := hy j hk' H1 σb (.blk b4 [I (i : Int), I (((if twoAt l i then 2 else 1 : Nat)) : Int)] :: σf) w hle1 hI (St.deep hs)
      rw [show (grpsV l)[j] = [Value.agg #[I (i : Int), I (((if twoAt l i then 2 else 1 : Nat)) : Int)]] by simp only [grpsV, List.getElem_map, hgj]; rfl] at hyd
      refine .o (.yield rfl rfl hyd ?_); rintro v53 w ⟨H2, σ2, g1, hs, g3⟩
      obtain ⟨bb, rfl, gT, gF⟩ := yd_bool g3
      replace hs := St.shallow hs
      refine .z znot (.nil ?_)
      refine (.cond rfl (fun hc54 => ?_) (fun hc54 => ?_))
      · refine .ret (rT (rB (rT (rB (Fin.ret0 Tryz.results295 ?_)))))
        exact ⟨H2, σ2, hle0.trans g1, hs.tail, .inr (gF (by simpa using hc54))⟩
      · refine .skip ?_
        refine nT ?_
        refine .region (.z zm (.z (zfa fa_api_Group_1) (.y hs (zld Tryz.isAgg3) (.z zadd (.z zg (.nil ?_))))))
        refine nB (nT ?_)
        generalize (if twoAt l i then 2 else 1 : Nat) = n at *
        exact ⟨i + n, .consI rfl (by simp) (by repeat (first | exact .nil rfl rfl | refine .cons rfl ?_)), ⟨by omega, j + 1, hjl, hdj, H2, σ2, hle1.trans g1, hle0.trans g1, gT (by simpa using hc54), hs.tail⟩, by omega⟩
  · refine .exit ?_
    refine xT (xT (xB ?_))
    rw [grpsAt_end (by omega)] at hd
    have : (grps l).length ≤ j := by simpa using hd
    obtain rfl : j = (grps l).length := by omega
    exact Fin.end0 Tryz.results295 ⟨H1, σb, hle0, hs, .inl (by simpa [grpsV] using hI)⟩
theorem weigh_groups_spec {H : Heap} {w : World} {σ : List Ent} {v : Value} {l : List Int} (hs : St H w σ) (hr : RI H v l) (hp : PlcOk 9 100000 l) :
    Cl Tryz.prog 276 [v] w fun u w' => ∃ H1 b, HLe H H1 ∧ u = .func (.func 295) #[] #[.pointer (some ⟨b, 0, none⟩)] ∧ Iter Tryz.prog 295 [.pointer (some ⟨b, 0, none⟩)] H1 (grpsV l) ∧ St H1 w' σ := by
  obtain ⟨a, c, rfl⟩ := RI.shape hr
  refine Cl.of Tryz.func276 rfl Tryz.ntmps276 (by simp) (args_cons (k := 0) rfl (args0)) ?_
  refine .regSeq ?_
  refine .o (.box hs rfl rfl ?_); intro b1 w hs
  refine .z zg (.nil (.regSeq ?_))
  refine .q hs (q_makeFunc (f := []) (c := [_]) rfl rfl) ?_
  refine .z zg (.nil ?_)
  refine .ret (Fin.ret1 Tryz.results276 rfl ?_)
  obtain ⟨H1, g1, g2, hs⟩ := hs.publish .here
  exact ⟨H1, b1, g1, rfl, weigh_groups_1_iter hp g2 (hr.mono g1), hs⟩
theorem weigh_add_spec {H : Heap} {w : World} {σ : List Ent} {bs bW from_ n : Nat} {W xs : List Int} {v : Value} (hs : St H w (.blk bs [.slice (some ⟨bW, 0, none⟩) n n] :: .blk bW (Is W) :: σ)) (hW : W.length = n) (hr : RI H v xs) (hl : from_ + xs.length ≤ n) (hn : n ≤ 9)
    (hz : sizesTo W n ≤ 1000000000) (ha : absL xs ≤ 1000000000) :
    Cl Tryz.prog 275 [.pointer (some ⟨bs, 0, none⟩), I (from_ : Int), v] w fun _ w' => St H w' (.blk bs [.slice (some ⟨bW, 0, none⟩) n n] :: .blk bW (Is (addAt W from_ xs)) :: σ) := by
  obtain ⟨a, c, rfl⟩ := RI.shape hr
  have hlen := (RI.len hr).2.2
  refine Cl.of Tryz.func275 rfl Tryz.ntmps275 (by simp) (args_cons (k := 0) rfl (args_cons (k := 1) rfl (args_cons (k := 2) rfl (args0)))) ?_
  refine .regSeq (.z zm (.z (zlen Tryz.runUnderlying22) (.z zm (.nil ?_))))
  refine .for (N := xs.length) (J := fun k fr w => fr = [(8, .slice a xs.length c), (0, .pointer (some ⟨bs, 0, none⟩)), (1, I (from_ : Int))] ∧ St H w (.blk bs [.slice (some ⟨bW, 0, none⟩) n n] :: .blk bW (Is (addAt W from_ (xs.take k))) :: σ)) (by omega) ?_ ?_ ?_
  · exact .mk ⟨rfl, hs⟩
  · rintro k fr w hk ⟨rfl, hs⟩
    have hal := addAt_length (xs.take k) W from_
    have hsz := addAt_sizes (xs.take k) W from_ (by rw [List.length_take]; omega)
    rw [hW] at hsz
    have h1 := absL_take xs k
    have h2 := absL_at xs k
    have h3 := sizes_at (addAt W from_ (xs.take k)) (v := from_ + k) (n := n) (by omega)
    have h4 := addAt_take hk W from_
    refine .block (.regSeq (.z zm ?_))
    refine .ixY hs hr rfl rfl Tryz.runUnderlying22 Tryz.sizeOf3 (gi_get (l := xs) (i := k) (by omega)) (by first | rfl | assumption | omega) ?_; intro b13 o13 hc13
    refine .q hs (q_loadR rfl Tryz.isAgg3 hc13) ?_
    refine .z zg (.z zg (.nil (.region (.z zm (.z znc (.z (zfa fa_weigh_sum_0) (.y hs (zld Tryz.isAgg22) (.z zm (.z zm ?_)))))))))
    refine .z zadd ?_
    refine .q hs (q_ixO (k := from_ + k) rfl rfl Tryz.runUnderlying22 Tryz.sizeOf3 (by omega) (by omega)) ?_
    refine .y hs (zld Tryz.isAgg3) (.z zm (.z zadd ?_))
    refine .q hs (q_ixO (k := from_ + k) rfl rfl Tryz.runUnderlying22 Tryz.sizeOf3 (by omega) (by omega)) ?_
    refine .o (.store hs rfl rfl Tryz.sizeOf3 ?_); intro w hs
    refine .nil ?_
    refine nB (nT ?_)
    exact .mk ⟨rfl, by rw [h4]; exact hs⟩
  · rintro fr w ⟨rfl, hs⟩
    rw [List.take_length] at hs
    exact Fin.end0 Tryz.results275 hs
theorem min_le_pos {a b : Int} (ha : 0 < a ∧ a ≤ 100000) (hb : 0 < b ∧ b ≤ 100000) : 0 ≤ min a b ∧ min a b ≤ 100000 := by omega
theorem tms_pos {a b : Int} (h : 0 < tms a b) : tms a b = 1 ∨ tms a b = 2 ∨ tms a b = 3 := by have := tms_bd a b; omega
set_option maxHeartbeats 1000000 in
theorem weigh_weights_spec {H : Heap} {w : World} {σ : List Ent} {v : Value} {l : List Int} (hs : St H w σ) (hr : RI H v l) (hp : PlcOk 9 100000 l) :
    Cl Tryz.prog 248 [v] w fun u w' => ∃ H1, HLe H H1 ∧ RI H1 u (wts l) ∧ St H1 w' σ := by
  obtain ⟨a, c, rfl⟩ := RI.shape hr
  have hln := hp.many
  have hgl : (grps l).length ≤ 9 := by have := grpsF_length l l.length 0; unfold grps; omega
  refine Cl.of Tryz.func248 rfl Tryz.ntmps248 (by simp) (args_cons (k := 0) rfl (args0)) ?_
  refine .regSeq ?_
  refine .o (.box hs rfl rfl ?_); intro b1 w hs
  refine .z zg (.nil (.regSeq (.y hs (zld Tryz.isAgg22) (.z (zlen Tryz.runUnderlying22) ?_))))
  refine .o (.makeI l.length hs rfl rfl Tryz.runUnderlying22 Tryz.typeInfo3 rfl Tryz.sizeOf3 Tryz.zeroValue3 (by omega) ?_); intro b13 w hs
  refine .z (zbd [_] bld_weigh_sum) ?_
  refine .o (.alloc hs Tryz.zeroValue294 rfl ?_); intro b3 w hs
  refine .o (.stores (vs := [_]) hs rfl rfl Tryz.sizeOf294 ?_); intro w hs
  refine .nil (.regSeq ?_)
  refine .q hs (q_makeFunc (f := [_]) (c := []) rfl rfl) ?_
  refine .o (.alloc hs Tryz.zeroValue295 rfl ?_); intro b4 w hs
  refine .o (.store hs rfl rfl Tryz.sizeOf295 ?_); intro w hs
  refine .nil (.seq (.regSeq (.y hs (zld Tryz.isAgg22) ?_)))
  refine .o (.call Tryz.call276 rfl (weigh_groups_spec hs hr hp) ?_); rintro _ w ⟨H1, b17, hle1, rfl, hit, hs⟩
  refine .nil (.block ?_)
  refine .rangeFunc (gf := 295) (cap := [.pointer (some ⟨b17, 0, none⟩)]) (xs := grpsV l) (σb := [.blk b3 [.slice (some ⟨b13, 0, none⟩) l.length l.length], .blk b13 (Is (wtsK l 0)), .blk b4 [.func (.func 275) #[.pointer (some ⟨b3, 0, none⟩)] #[]], .blk b1 [.slice a l.length c]]) (σf := σ) (hs.sub (by repeat (first | exact Sub.refl _ | constructor | apply Sub.weaken))) trivial rfl hit Tryz.call295 (fun x hx => by
      simp only [grpsV, List.mem_map] at hx
      obtain ⟨j, _, rfl⟩ := hx; rfl) rfl
    (I := fun j H' σb => σb = [.blk b3 [.slice (some ⟨b13, 0, none⟩) l.length l.length], .blk b13 (Is (wtsK l j)), .blk b4 [.func (.func 275) #[.pointer (some ⟨b3, 0, none⟩)] #[]], .blk b1 [.slice a l.length c]]) (Ix := fun _ _ _ => False)
    (fun j _ _ σ g1 g2 => g2) (fun _ _ _ _ _ h => h) rfl ?_ ?_ (fun D c H' σb w _ h _ => h.elim)
  · rintro ly j hj H2 σb2 σf2 w hle2 rfl hs ⟨rr, hrr⟩
    have hjl : j < (grps l).length := by simpa [grpsV] using hj
    obtain ⟨g, hg⟩ := nth hjl
    rw [show (grpsV l)[j] = [Value.agg #[I (g.at_ : Int), I (g.n : Int)]] by
      rw [List.getElem?_eq_getElem hjl] at hg
      simp only [grpsV, List.getElem_map, Option.some.inj hg]]
    obtain ⟨i1, i2, i3, i4, i5⟩ := grp_facts hp (List.mem_of_getElem? hg)
    have hK := wtsK_succ hg
    have hKl := wtsK_length l j
    have hKz := wtsK_sizes hp j (by omega)
    have hr2 := hr.mono (hle1.trans hle2)
    have hq0 := hp.bd (i := g.at_) (by omega)
    have hq1 := hp.bd (i := g.at_ + 1) (by omega)
    generalize hA : gi l (g.at_ + 1) - gi l g.at_ = A at *
    refine .region ?_
    refine .o (.alloc hs Tryz.zeroValue300 rfl ?_); intro b5 w hs
    refine .o (.stores (vs := [_, _]) hs rfl rfl Tryz.sizeOf300 ?_); intro w hs
    refine .nil ?_
    refine nT ?_
    refine ⟨H2, [.blk b5 [I (g.at_ : Int), I (g.n : Int)], .blk b3 [.slice (some ⟨b13, 0, none⟩) l.length l.length], .blk b13 (Is (wtsK l j)), .blk b4 [.func (.func 275) #[.pointer (some ⟨b3, 0, none⟩)] #[]], .blk b1 [.slice a l.length c]], HLe.refl _, hs, ?_⟩; rintro w σf4 - hs
    refine .block ?_
    refine .seq (.draw mix rfl hs ?_); intro w hs
    refine .y 0 rfl hs Tryz.isAgg22 ?_; refine .z 1 rfl (zfa fa_api_Group_0) ?_; refine .y 2 rfl hs Tryz.isAgg3 ?_; refine .z 3 rfl zadd ?_
    refine .ixX (enc := fun x => [I x]) (i := 4) hs rfl (by kernel_rfl) .none hr2 rfl rfl Tryz.runUnderlying22 Tryz.sizeOf3 (gi_get (l := l) (i := (g.at_+1)) (by omega)) (by first | rfl | assumption | omega) ?_; intro b23 o23 hc23; replace hc23 := CellsAt.one hc23
    refine .r (i := 5) hs rfl (by kernel_rfl) .none (q_loadR rfl Tryz.isAgg3 hc23) ?_
    refine .y 6 rfl hs Tryz.isAgg22 ?_; refine .z 7 rfl (zfa fa_api_Group_0) ?_; refine .y 8 rfl hs Tryz.isAgg3 ?_
    refine .ixX (enc := fun x => [I x]) (i := 9) hs rfl (by kernel_rfl) .none hr2 rfl rfl Tryz.runUnderlying22 Tryz.sizeOf3 (gi_get (l := l) (i := g.at_) (by omega)) (by first | rfl | assumption | omega) ?_; intro b28 o28 hc28; replace hc28 := CellsAt.one hc28
    refine .r (i := 10) hs rfl (by kernel_rfl) .none (q_loadR rfl Tryz.isAgg3 hc28) ?_
    refine .z 11 rfl zsub ?_
    rw [hA]
    refine .z 12 rfl zg ?_; refine .done (by kernel_rfl) hs ?_
    refine .seq (.regSeq (.z (zfa fa_api_Group_1) (.y hs (zld Tryz.isAgg3) (.z zeql ?_))))
    skip
    refine .nil ?_
    refine (.condD rfl (fun hc33 => ?_) (fun hc33 => ?_))
    · refine .regSeq ?_
      refine .y hs (zld Tryz.isAgg295) ?_
      refine .z (zfa fa_api_Group_0) (.y hs (zld Tryz.isAgg3) (.z zm (.z zmul (.z zm (.z zmul ?_)))))
      refine .o (.buildSlice (cells := [_, _]) hs bls_sl_int_2 rfl rfl ?_); intro b41 w hs
      have h2 : g.two = false := by
        cases e : g.two with
        | false => rfl
        | true => simp [Grp.n, e] at hc33
      obtain ⟨H3, hle3, r41, hs⟩ := OwnS.publishI (xs := [18 * A, 18 * A]) (v := .slice (some ⟨b41, 0, none⟩) 2 2) (.full (len := 2) rfl) (by simp) hs (by repeat constructor)
      have hgw := grpW_one h2 hA
      rw [hgw] at hK i5
      replace hs : St H3 w (.blk b3 [.slice (some ⟨b13, 0, none⟩) l.length l.length] :: .blk b13 (Is (wtsK l j)) :: .blk b5 [I (g.at_ : Int), I (g.n : Int)] :: .blk b4 [.func (.func 275) #[.pointer (some ⟨b3, 0, none⟩)] #[]] :: .blk b1 [.slice a l.length c] :: σf4) := hs.sub (by repeat (first | exact Sub.refl _ | constructor | apply Sub.weaken))
      refine .o (.callG (first := [.pointer (some ⟨b3, 0, none⟩)]) (cap := []) rfl rfl Tryz.call275 (weigh_add_spec (from_ := g.at_) (xs := [18 * A, 18 * A]) hs hKl r41 (by simp; omega) (by omega) (by omega) (by omega)) ?_); rintro _ w hs
      rw [← hK] at hs
      refine .nil ?_
      refine .exit ?_
      refine xT (xB ?_)
      exact ⟨H3, _, hle3, (hs.sub (by repeat (first | exact Sub.refl _ | constructor | apply Sub.weaken)) : St H3 w (.blk b3 _ :: .blk b13 _ :: .blk b4 _ :: .blk b1 _ :: σf4)), rfl⟩
    · refine .skip ?_
      refine nT ?_
      refine .seq (.draw mix rfl hs ?_); intro w hs
      have h2 : g.two = true := by
        cases e : g.two with
        | true => rfl
        | false => simp [Grp.n, e] at hc33
      obtain ⟨j1, j2, j3, j4⟩ := i4 h2
      have hq2 := hp.bd (i := g.at_ + 2) (by omega)
      generalize hB : gi l (g.at_ + 2) - gi l (g.at_ + 1) = B at *
      have hmx := tms_rat (a := A) (b := B) (by omega) (by omega)
      have hk := tms_pos j4
      have hmm := min_le_pos (a := A) (b := B) ⟨by omega, by omega⟩ ⟨by omega, by omega⟩
      obtain ⟨n1, n2, n3, n4⟩ := grp_nums hk hmm.1 hmm.2
      obtain ⟨n5, n6, n7, n8, n9⟩ := n4 _ n3.1 n3.2
      generalize hT : tms A B = T at *
      generalize hM : min A B = M at *
      have hgw := grpW_two h2 hA hB hT hM
      refine .y 0 rfl hs Tryz.isAgg22 ?_; refine .z 1 rfl (zfa fa_api_Group_0) ?_; refine .y 2 rfl hs Tryz.isAgg3 ?_; refine .z 3 rfl zadd ?_
      refine .ixX (enc := fun x => [I x]) (i := 4) hs rfl (by kernel_rfl) .none hr2 rfl rfl Tryz.runUnderlying22 Tryz.sizeOf3 (gi_get (l := l) (i := (g.at_+2)) (by omega)) (by first | rfl | assumption | omega) ?_; intro b47 o47 hc47; replace hc47 := CellsAt.one hc47
      refine .r (i := 5) hs rfl (by kernel_rfl) .none (q_loadR rfl Tryz.isAgg3 hc47) ?_
      refine .y 6 rfl hs Tryz.isAgg22 ?_; refine .z 7 rfl (zfa fa_api_Group_0) ?_; refine .y 8 rfl hs Tryz.isAgg3 ?_; refine .z 9 rfl zadd ?_
      refine .ixX (enc := fun x => [I x]) (i := 10) hs rfl (by kernel_rfl) .none hr2 rfl rfl Tryz.runUnderlying22 Tryz.sizeOf3 (gi_get (l := l) (i := (g.at_+1)) (by omega)) (by first | rfl | assumption | omega) ?_; intro b53 o53 hc53; replace hc53 := CellsAt.one hc53
      refine .r (i := 11) hs rfl (by kernel_rfl) .none (q_loadR rfl Tryz.isAgg3 hc53) ?_
      refine .z 12 rfl zsub ?_
      rw [hB]
      refine .z 13 rfl zg ?_; refine .done (by kernel_rfl) hs ?_
      refine .regSeq (.z zm (.z zm ?_))
      refine .o (.call Tryz.call277 rfl (weigh_ratio_spec hs (by omega) (by omega)) ?_); rintro _ w ⟨rfl, hs⟩
      refine .z zm (.z zm ?_)
      refine .o (.call Tryz.call277 rfl (weigh_ratio_spec hs (by omega) (by omega)) ?_); rintro _ w ⟨rfl, hs⟩
      refine .z zmax ?_
      rw [← hmx]
      refine .z zg (.nil (.regSeq (.z zm ?_)))
      refine .q hs (q_quoF rfl rfl (by omega) (by omega)) ?_
      refine .z zm (.z zadd (.z zmul (.z zm (.z zm (.z zmin ?_)))))
      rw [hM]
      refine .z zmul (.z zg (.nil (.regSeq (.z zm (.z zm (.z zmul (.z zm (.z zsub (.z zmul ?_)))))))))
      refine .z zm (.z zm (.z zadd (.z zmul (.z zm (.z zadd (.z zmul (.z zm (.z zm (.z zmul ?_)))))))))
      refine .z zsub (.z zmul ?_)
      refine .o (.buildSlice (cells := [_, _, _]) hs bls_sl_int_3 rfl rfl ?_); intro b90 w hs
      refine .z zg (.nil ?_)
      refine .cut (fun fs w => ∃ H3, FSub fs ⟨103, [], [(10, .slice (some ⟨b90, 0, none⟩) 3 3), (5, .pointer (some ⟨b5, 0, none⟩)), (4, .pointer (some ⟨b4, 0, none⟩)), (3, .pointer (some ⟨b3, 0, none⟩)), (1, .pointer (some ⟨b1, 0, none⟩))]⟩ ∧ HLe H2 H3 ∧ RI H3 (.slice (some ⟨b90, 0, none⟩) 3 3) (grpW l g) ∧ St H3 w (.blk b3 [.slice (some ⟨b13, 0, none⟩) l.length l.length] :: .blk b13 (Is (wtsK l j)) :: .blk b5 [I (g.at_ : Int), I (g.n : Int)] :: .blk b4 [.func (.func 275) #[.pointer (some ⟨b3, 0, none⟩)] #[]] :: .blk b1 [.slice a l.length c] :: σf4)) ?_ ?_
      · refine .regSeq (.z zm (.z zm (.z zgtr (.nil ?_))))
        refine (.condD rfl (fun hc93 => ?_) (fun hc93 => ?_))
        · refine .region (.z zm ?_)
          refine .o (.call Tryz.call128 rfl (slices_Reverse_int (en := .blk b90 (Is [(6 : Int).tdiv T * (1 + T) * M * T * (2 - T), (6 : Int).tdiv T * (1 + T) * M * (1 + T) * (1 + T), (6 : Int).tdiv T * (1 + T) * M * (2 * T - 1)])) (hs.sub (by repeat (first | exact Sub.refl _ | constructor | apply Sub.weaken)) : St H2 w (.blk b90 _ :: .blk b3 _ :: .blk b13 _ :: .blk b5 _ :: .blk b4 _ :: .blk b1 _ :: σf4)) (.full rfl) (by simp)) ?_); rintro _ w ⟨en95, hO95, hs⟩
          refine .nil ?_
          refine nT ?_
          obtain ⟨H3, hle3, r90, hs⟩ := OwnS.publishI hO95 (by simp) hs .here
          rw [if_pos hc93] at hgw
          rw [hgw]
          exact ⟨H3, by repeat (first | exact .nil rfl rfl | refine .cons rfl ?_), hle3, r90, hs⟩
        · refine .skip ?_
          refine nT ?_
          obtain ⟨H3, hle3, r90, hs⟩ := OwnS.publishI (xs := [(6 : Int).tdiv T * (1 + T) * M * T * (2 - T), (6 : Int).tdiv T * (1 + T) * M * (1 + T) * (1 + T), (6 : Int).tdiv T * (1 + T) * M * (2 * T - 1)]) (v := .slice (some ⟨b90, 0, none⟩) 3 3) (.full (len := 3) rfl) (by simp) hs (by repeat constructor)
          rw [if_neg (by omega)] at hgw
          rw [hgw]
          exact ⟨H3, by repeat (first | exact .nil rfl rfl | refine .cons rfl ?_), hle3, r90, hs.sub (by repeat (first | exact Sub.refl _ | constructor | apply Sub.weaken))⟩
      · rintro fs w ⟨H3, hfs, hle3, r90, hs⟩
        refine WE.sub ?_ hfs
        refine .region ?_
        refine .y hs (zld Tryz.isAgg295) ?_
        refine .z (zfa fa_api_Group_0) (.y hs (zld Tryz.isAgg3) (.z zm ?_))
        refine .o (.callG (first := [.pointer (some ⟨b3, 0, none⟩)]) (cap := []) rfl rfl Tryz.call275 (weigh_add_spec (from_ := g.at_) (xs := grpW l g) hs hKl r90 (by rw [grpW_len, show g.n = 2 by unfold Grp.n; rw [h2]; rfl]; omega) (by omega) (by omega) (by omega)) ?_); rintro _ w hs
        rw [← hK] at hs
        refine .nil ?_
        refine nB ?_
        exact ⟨H3, _, hle3, (hs.sub (by repeat (first | exact Sub.refl _ | constructor | apply Sub.weaken)) : St H3 w (.blk b3 _ :: .blk b13 _ :: .blk b4 _ :: .blk b1 _ :: σf4)), rfl⟩
  · rintro D H2 σb2 w hle2 rfl hs
    rw [show (grpsV l).length = (grps l).length by simp [grpsV], wtsK_end] at hs
    replace hs : St H2 w (.obj D (.deferred (some [])) :: .blk b3 [.slice (some ⟨b13, 0, none⟩) l.length l.length] :: .blk b13 (Is (wts l)) :: .blk b4 [.func (.func 275) #[.pointer (some ⟨b3, 0, none⟩)] #[]] :: .blk b1 [.slice a l.length c] :: σ) := hs
    refine nB (nT ?_)
    refine .regSeq (.z (zfa fa_weigh_sum_0) (.y hs (zld Tryz.isAgg22) (.z zg (.nil ?_))))
    refine .ret ?_
    obtain ⟨H3, hle3, hR, hs⟩ := OwnS.publishI (xs := wts l) (v := .slice (some ⟨b13, 0, none⟩) l.length l.length) (.full (by simp [Is, wts_length])) (by rw [wts_length]; omega) hs (by repeat constructor)
    exact Fin.retD [D] [] hs fun w hs => ⟨_, results1 Tryz.results248 rfl, H3, hle1.trans (hle2.trans hle3), hR, hs.out⟩
end Go.Proofs.YtddaejgfjlneoaaGreat
