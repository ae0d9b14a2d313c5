/-
  Texts of these claims, joined: Opn Opw Opi Opr Ops Cls Fct Wa Wb Wc Wd We Wf Wg Wh Wj Wn Wo Wp Wt Wy Wz Xa Xb Xc Xd Xe Xf Xg Xh Xi Xj Xl Xn Xo Xq Xt Xu Xw.
-/
import Derived.Test.YtiiokdeehlfeeaaEc
import Derived.Test.YtiiokdeehlfeeaaProg
import Derived.KernelRfl
import Derived.OpenShut
import Derived.ProofKit
import Derived.ShutString
import Derived.ChangeOld
import Derived.JoinedOf
namespace Go.Proofs.Ytiiokdeehlfeeaa
open Go.MW Go.ChangeShapes Go.WideShapes
set_option maxRecDepth 100000
theorem c_int : Try.prog.cellsOf 3 = 1 := by kernel_rfl
theorem c_ints : Try.prog.cellsOf 22 = 1 := by kernel_rfl
theorem c_lims : Try.prog.cellsOf 30 = 1 := by kernel_rfl
theorem c_Limit : Try.prog.cellsOf 100 = 4 := by kernel_rfl
theorem c_System : Try.prog.cellsOf 32 = 2 := by kernel_rfl
theorem b_int : Try.prog.bytesOf 3 = 8 := by kernel_rfl
theorem b_Limit : Try.prog.bytesOf 100 = 32 := by kernel_rfl
theorem reach_eq : reachBytes = 140737488351232 := rfl
section
variable {H : Type} {enc : TypeId × Value → H} {w : World} {sp : Nat → Bool} {held : Bool} {n : Nat} {cs : List Value} {y : DataW H × List MemPlace} {v : Value} {d : DataW H} {p : List MemPlace} {r : Reach} {base : Nat}
theorem o_ints (hw : Wt Try.prog 22 y.1) (h : DataW.trod enc Try.prog w 0 sp held n 22 cs = some y) : ∃ v xs, cs = [v] ∧ RI (hp w) v xs ∧ IsIn xs := by
  obtain ⟨v, xs, h1, h2, h3, h4⟩ := trod_RI Try.underlying22 Try.underlying3 c_int hw h
  rw [b_int, reach_eq] at h3
  exact ⟨v, xs, h1, h2, by omega, h4⟩
theorem o_lims (hw : Wt Try.prog 30 y.1) (h : DataW.trod enc Try.prog w 0 sp held n 30 cs = some y) : ∃ v ls, cs = [v] ∧ RL (hp w) v ls ∧ ls.length ≤ 4398046510976 ∧ ∀ l ∈ ls, l.In := by
  obtain ⟨v, zs, h1, h2, h9, h3⟩ := trod_RS (k := 4) Try.underlying30 Try.underlying100 rfl (by decide) (by
    intro i f hf
    match i with
    | 0 | 1 | 2 | 3 => cases hf; exact ⟨rfl, Try.underlying3, c_int⟩
    | i + 4 => simp at hf) c_Limit hw h
  obtain ⟨ls, h4, h5⟩ := fours h3
  rw [b_Limit, reach_eq] at h9
  have h6 : zs.length = ls.length := by have := congrArg List.length h4; simpa using this
  exact ⟨v, ls, h1, by unfold RL; rw [← h4]; exact h2, by omega, h5⟩
theorem o_System (hw : Wt Try.prog 32 y.1) (h : DataW.trod enc Try.prog w 0 sp held n 32 cs = some y) : ∃ (s : Syst) (u : Value), cs = [I s.many, u] ∧ RL (hp w) u s.lims ∧ s.In := by
  obtain ⟨ys, m, _, rfl, hlen, hyl, hg⟩ := DataW.trod_struct Try.underlying32 h
  rw [c_System] at hlen
  obtain ⟨c0, c1, rfl⟩ := len2 hlen
  obtain ⟨_, h0, k0⟩ := fld hg hyl 0 rfl rfl rfl c_int Try.underlying32 hw
  obtain ⟨_, h1, k1⟩ := fld hg hyl 1 rfl rfl rfl c_lims Try.underlying32 hw
  obtain ⟨m, e0, i0⟩ := trod_i Try.underlying3 h0
  obtain ⟨u, ls, e1, r1, i1⟩ := o_lims k1 h1
  cases e0; cases e1
  exact ⟨⟨m, ls⟩, _, rfl, r1, i0, i1⟩
theorem open_System (hv : Value.okWide Try.prog w r base 32 v) (h : DataW.Trod enc Try.prog w 0 sp held 32 v d p) (hw : Wt Try.prog 32 d) : ∃ s, RSy (hp w) v s ∧ s.In := by
  obtain ⟨cs, n, rfl, hn, _⟩ := arg_struct Try.underlying32 hv h
  obtain ⟨s, u, rfl, h1, h2⟩ := o_System hw hn
  exact ⟨s, ⟨u, rfl, h1⟩, h2⟩
theorem open_ints (hv : Value.okWide Try.prog w r base 22 v) (h : DataW.Trod enc Try.prog w 0 sp held 22 v d p) (hw : Wt Try.prog 22 d) : ∃ l, RI (hp w) v l ∧ IsIn l := by
  obtain ⟨n, hn⟩ := arg_slice Try.underlying22 hv h
  obtain ⟨v, ls, h1, h2, h3⟩ := o_ints hw hn
  cases h1
  exact ⟨ls, h2, h3⟩
end
end Go.Proofs.Ytiiokdeehlfeeaa

namespace Go.Proofs.Ytiiokdeehlfeeaa
open Go.MW Go.ChangeShapes Go.WideShapes
set_option maxRecDepth 100000
theorem c_uses : Try.prog.cellsOf 38 = 1 := by kernel_rfl
theorem c_Use : Try.prog.cellsOf 154 = 2 := by kernel_rfl
theorem b_Use : Try.prog.bytesOf 154 = 16 := by kernel_rfl
theorem c_Proof : Try.prog.cellsOf 40 = 2 := by kernel_rfl
theorem fold_uses : ∀ {ls : List Prb}, ls.map Prb.c = (ls.map fun p => (⟨p.u, p.t⟩ : Use)).map Use.c := by
  intro ls; rw [List.map_map]; rfl
section
variable {H : Type} {enc : TypeId × Value → H} {w : World} {sp : Nat → Bool} {held : Bool} {n : Nat} {cs : List Value} {y : DataW H × List MemPlace} {v : Value} {d : DataW H} {p : List MemPlace} {r : Reach} {base : Nat}
theorem o_uses (hw : Wt Try.prog 38 y.1) (h : DataW.trod enc Try.prog w 0 sp held n 38 cs = some y) : ∃ v us, cs = [v] ∧ RU (hp w) v us ∧ us.length ≤ 8796093021952 := by
  obtain ⟨v, zs, h1, h2, h9, h3⟩ := trod_RS (k := 2) Try.underlying38 Try.underlying154 rfl (by decide) (by
    intro i f hf
    match i with
    | 0 | 1 => cases hf; exact ⟨rfl, Try.underlying3, c_int⟩
    | i + 2 => simp at hf) c_Use hw h
  obtain ⟨ls, h4, h5⟩ := twos h3
  rw [b_Use, reach_eq] at h9
  have h6 : zs.length = ls.length := by have := congrArg List.length h4; simpa using this
  exact ⟨v, ls.map fun p => ⟨p.u, p.t⟩, h1, by unfold RU; rw [← fold_uses, ← h4]; exact h2, by rw [List.length_map]; omega⟩
theorem o_Proof (hw : Wt Try.prog 40 y.1) (h : DataW.trod enc Try.prog w 0 sp held n 40 cs = some y) : ∃ (m : Int) (us : List Use) (u : Value), cs = [I m, u] ∧ RU (hp w) u us ∧ I64 m ∧ us.length ≤ 8796093021952 := by
  obtain ⟨ys, m, _, rfl, hlen, hyl, hg⟩ := DataW.trod_struct Try.underlying40 h
  rw [c_Proof] at hlen
  obtain ⟨c0, c1, rfl⟩ := len2 hlen
  obtain ⟨_, h0, k0⟩ := fld hg hyl 0 rfl rfl rfl c_int Try.underlying40 hw
  obtain ⟨_, h1, k1⟩ := fld hg hyl 1 rfl rfl rfl c_uses Try.underlying40 hw
  obtain ⟨m, e0, i0⟩ := trod_i Try.underlying3 h0
  obtain ⟨u, us, e1, r1, i1⟩ := o_uses k1 h1
  cases e0; cases e1
  exact ⟨m, us, _, rfl, r1, i0, i1⟩
end
end Go.Proofs.Ytiiokdeehlfeeaa

namespace Go.Proofs.Ytiiokdeehlfeeaa
open Go.MW Go.ChangeShapes Go.WideShapes Go.ChangeAt Go.RowKit
set_option maxRecDepth 100000 in
theorem open_I {H : Type} {enc : TypeId × Value → H} {w : World} {sp : Nat → Bool} {held : Bool} {v : Value} {d : DataW H} {p : List MemPlace} {r : Reach} {base : Nat}
    (hv : Value.okWide Try.prog w r base 3 v) (h : DataW.Trod enc Try.prog w 0 sp held 3 v d p) : ∃ a, v = I a ∧ I64 a := by
  obtain ⟨a, rfl, rfl, rfl, wa⟩ := open_int Try.underlying3 hv h
  exact ⟨a, rfl, wf64 wa⟩
end Go.Proofs.Ytiiokdeehlfeeaa

namespace Go.Proofs.Ytiiokdeehlfeeaa
open Go.MW Go.ChangeShapes Go.WideShapes
set_option maxRecDepth 100000
theorem c_rows4 : Try.prog.cellsOf 83 = 1 := by kernel_rfl
theorem c_4 : Try.prog.cellsOf 95 = 4 := by kernel_rfl
theorem b_4 : Try.prog.bytesOf 95 = 32 := by kernel_rfl
theorem c_Raw02 : Try.prog.cellsOf 85 = 2 := by kernel_rfl
theorem c_Proof02 : Try.prog.cellsOf 120 = 3 := by kernel_rfl
section
variable {H : Type} {enc : TypeId × Value → H} {w : World} {sp : Nat → Bool} {held : Bool} {n : Nat} {cs : List Value} {y : DataW H × List MemPlace} {v : Value} {d : DataW H} {p : List MemPlace} {r : Reach} {base : Nat}
theorem o_rows4 (hw : Wt Try.prog 83 y.1) (h : DataW.trod enc Try.prog w 0 sp held n 83 cs = some y) : ∃ (v : Value) (ls : List Lim), cs = [v] ∧ RL (hp w) v ls ∧ ls.length ≤ 4398046510976 := by
  obtain ⟨v, zs, h1, h2, h9, h3⟩ := trod_RA (k := 4) Try.underlying83 Try.underlying95 Try.underlying3 c_int (by decide) c_4 hw h
  obtain ⟨ls, h4, h5⟩ := fours h3
  rw [b_4, reach_eq] at h9
  have h6 : zs.length = ls.length := by have := congrArg List.length h4; simpa using this
  exact ⟨v, ls, h1, by unfold RL; rw [← h4]; exact h2, by omega⟩
theorem open_Raw02 (hv : Value.okWide Try.prog w r base 85 v) (h : DataW.Trod enc Try.prog w 0 sp held 85 v d p) (hw : Wt Try.prog 85 d) : ∃ s : Syst, RSy (hp w) v s ∧ s.lims.length ≤ 4398046510976 := by
  obtain ⟨cs, n, rfl, hn, _⟩ := arg_struct Try.underlying85 hv h
  obtain ⟨ys, m, _, e, hlen, hyl, hg⟩ := DataW.trod_struct Try.underlying85 hn
  cases e
  rw [c_Raw02] at hlen
  obtain ⟨c0, c1, rfl⟩ := len2 hlen
  obtain ⟨_, h0, k0⟩ := fld hg hyl 0 rfl rfl rfl c_int Try.underlying85 hw
  obtain ⟨_, h1, k1⟩ := fld hg hyl 1 rfl rfl rfl c_rows4 Try.underlying85 hw
  obtain ⟨m, e0, i0⟩ := trod_i Try.underlying3 h0
  obtain ⟨u, ls, e1, r1, i1⟩ := o_rows4 k1 h1
  cases e0; cases e1
  exact ⟨⟨m, ls⟩, ⟨_, rfl, r1⟩, i1⟩
theorem open_Limit (hv : Value.okWide Try.prog w r base 100 v) (h : DataW.Trod enc Try.prog w 0 sp held 100 v d p) (_ : Wt Try.prog 100 d) : ∃ l : Lim, v = .agg l.c.toArray ∧ l.In := by
  obtain ⟨cs, n, rfl, hn, _⟩ := arg_struct Try.underlying100 hv h
  obtain ⟨xs, h1, rfl, h3⟩ := trod_ints Try.underlying100 (by
    intro i f hf
    match i with
    | 0 | 1 | 2 | 3 => cases hf; exact ⟨rfl, Try.underlying3, c_int⟩
    | i + 4 => simp at hf) c_Limit hn
  obtain ⟨a, b, c, d, rfl⟩ := len4 h1
  exact ⟨⟨a, b, c, d⟩, rfl, h3 a (by simp), h3 b (by simp), h3 c (by simp), h3 d (by simp)⟩
theorem open_Proof (hv : Value.okWide Try.prog w r base 40 v) (h : DataW.Trod enc Try.prog w 0 sp held 40 v d p) (hw : Wt Try.prog 40 d) : ∃ q : Int × List Use, RPf (hp w) v q.1 q.2 ∧ I64 q.1 ∧ q.2.length ≤ 8796093021952 := by
  obtain ⟨cs, n, rfl, hn, _⟩ := arg_struct Try.underlying40 hv h
  obtain ⟨m, us, u, rfl, r1, i1, i2⟩ := o_Proof hw hn
  exact ⟨(m, us), ⟨_, rfl, r1⟩, i1, i2⟩
end
end Go.Proofs.Ytiiokdeehlfeeaa

namespace Go.Proofs.Ytiiokdeehlfeeaa
open Go.MW Go.ChangeShapes Go.WideShapes
set_option maxRecDepth 100000
theorem c_2ints : Try.prog.cellsOf 126 = 2 := by kernel_rfl
section
variable {H : Type} {enc : TypeId × Value → H} {w : World} {sp : Nat → Bool} {held : Bool} {n : Nat} {cs : List Value} {y : DataW H × List MemPlace} {v : Value} {d : DataW H} {p : List MemPlace} {r : Reach} {base : Nat}
theorem open_Proof02 (hv : Value.okWide Try.prog w r base 120 v) (h : DataW.Trod enc Try.prog w 0 sp held 120 v d p) (hw : Wt Try.prog 120 d) :
    ∃ q : (Int × List Use) × List Int, (∃ u vb, v = .agg #[I q.1.1, u, vb] ∧ RU (hp w) u q.1.2 ∧ RI (hp w) vb q.2) ∧ I64 q.1.1 ∧ q.1.2.length ≤ 8796093021952 ∧ IsIn q.2 := by
  obtain ⟨cs, n, rfl, hn, _⟩ := arg_struct Try.underlying120 hv h
  obtain ⟨ys, m, _, e, hlen, hyl, hg⟩ := DataW.trod_struct Try.underlying120 hn
  cases e
  rw [c_Proof02] at hlen
  obtain ⟨c0, c1, c2, rfl⟩ := len3 hlen
  obtain ⟨_, h0, k0⟩ := fld hg hyl 0 rfl rfl rfl c_Proof Try.underlying120 hw
  obtain ⟨_, h1, k1⟩ := fld hg hyl 1 rfl rfl rfl c_ints Try.underlying120 hw
  obtain ⟨m, us, u, e0, r0, i0, i1⟩ := o_Proof k0 h0
  obtain ⟨vb, xs, e1, r1, i2⟩ := o_ints k1 h1
  cases e0; cases e1
  exact ⟨((m, us), xs), ⟨_, _, rfl, r0, r1⟩, i0, i1, i2⟩
theorem open_ints2 (hv : Value.okWide Try.prog w r base 126 v) (h : DataW.Trod enc Try.prog w 0 sp held 126 v d p) (hw : Wt Try.prog 126 d) :
    ∃ q : List Int × List Int, (∃ va vb, v = .agg #[va, vb] ∧ RI (hp w) va q.1 ∧ RI (hp w) vb q.2) ∧ IsIn q.1 ∧ IsIn q.2 := by
  obtain ⟨cs, n, rfl, hn⟩ := arg_arr Try.underlying126 hv h
  obtain ⟨ys, m, _, e, hlen, hyl, hg⟩ := DataW.trod_array Try.underlying126 hn
  cases e
  rw [c_2ints] at hlen
  obtain ⟨c0, c1, rfl⟩ := len2 hlen
  have h0 := hg 0 (by omega)
  have h1 := hg 1 (by omega)
  rw [c_ints] at h0 h1
  have y0 : ys[0]? = some ys[0] := List.getElem?_eq_getElem (by omega)
  have y1 : ys[1]? = some ys[1] := List.getElem?_eq_getElem (by omega)
  rw [y0] at h0
  rw [y1] at h1
  obtain ⟨va, xs, e0, r0, i0⟩ := o_ints (hw.item Try.underlying126 (List.mem_map.2 ⟨_, List.getElem_mem _, rfl⟩)) h0
  obtain ⟨vb, zs, e1, r1, i1⟩ := o_ints (hw.item Try.underlying126 (List.mem_map.2 ⟨_, List.getElem_mem _, rfl⟩)) h1
  cases e0; cases e1
  exact ⟨(xs, zs), ⟨_, _, rfl, r0, r1⟩, i0, i1⟩
end
end Go.Proofs.Ytiiokdeehlfeeaa

namespace Go.Proofs.Ytiiokdeehlfeeaa
theorem cl_make : Try.prog.make = some .cut := by kernel_rfl
theorem cl_enter : Try.prog.mayEnter = true := by kernel_rfl
theorem cl_lifts : Try.prog.liftsFinal = false := by kernel_rfl
theorem cl_keys : Try.prog.plainKeys = true := by kernel_rfl
theorem cl_laid : laidOutB Try.prog = true := by kernel_rfl
theorem cl_maps : mapsRowed Try.prog = true := by kernel_rfl
theorem cl_heard : Try.prog.stopsHeard = true := by kernel_rfl
theorem cl_stops : Try.prog.stops = [] := by kernel_rfl
theorem cl_knobs : Try.prog.stopKnobs = [] := by kernel_rfl
theorem band {a b : Bool} (h : a = true) (k : b = true) : (a && b) = true := by rw [h, k]; rfl
theorem beqT {α : Type} [BEq α] [LawfulBEq α] {a b : α} (h : a = b) : (a == b) = true := by rw [h]; exact beq_self_eq_true _
theorem cl_own : ownKnob Try.prog.godebug = none := by kernel_rfl
end Go.Proofs.Ytiiokdeehlfeeaa

namespace Go.Proofs.Ytiiokdeehlfeeaa
open Go.MW
theorem mix : Try.prog.follows .mixedOrders = true := by kernel_rfl
theorem fa_api_System_0 : FA Try.prog 32 0 0 := by
  have h := faOf (k := 0) Try.runUnderlying32 rfl Try.sizeOf3
  exact h
theorem fa_api_System_1 : FA Try.prog 32 1 1 := by
  have h := faOf (k := 1) Try.runUnderlying32 rfl Try.sizeOf30
  exact h
theorem fa_api_Proof_0 : FA Try.prog 40 0 0 := by
  have h := faOf (k := 0) Try.runUnderlying40 rfl Try.sizeOf3
  exact h
theorem fa_api_Proof_1 : FA Try.prog 40 1 1 := by
  have h := faOf (k := 1) Try.runUnderlying40 rfl Try.sizeOf38
  exact h
theorem fa_moorsomlaw02_Raw_0 : FA Try.prog 85 0 0 := by
  have h := faOf (k := 0) Try.runUnderlying85 rfl Try.sizeOf3
  exact h
theorem fa_moorsomlaw02_Raw_1 : FA Try.prog 85 1 1 := by
  have h := faOf (k := 1) Try.runUnderlying85 rfl Try.sizeOf83
  exact h
theorem fa_api_Limit_0 : FA Try.prog 100 0 0 := by
  have h := faOf (k := 0) Try.runUnderlying100 rfl Try.sizeOf3
  exact h
theorem fa_api_Limit_1 : FA Try.prog 100 1 1 := by
  have h := faOf (k := 1) Try.runUnderlying100 rfl Try.sizeOf3
  exact h
theorem fa_api_Limit_2 : FA Try.prog 100 2 2 := by
  have h := faOf (k := 2) Try.runUnderlying100 rfl Try.sizeOf3
  exact h
theorem fa_api_Limit_3 : FA Try.prog 100 3 3 := by
  have h := faOf (k := 3) Try.runUnderlying100 rfl Try.sizeOf3
  exact h
theorem fa_moorsomlaw02_Proof_0 : FA Try.prog 120 0 0 := by
  have h := faOf (k := 0) Try.runUnderlying120 rfl Try.sizeOf40
  exact h
theorem fa_moorsomlaw02_Proof_1 : FA Try.prog 120 1 2 := by
  have h := faOf (k := 1) Try.runUnderlying120 rfl Try.sizeOf22
  exact h
theorem fa_api_Use_0 : FA Try.prog 154 0 0 := by
  have h := faOf (k := 0) Try.runUnderlying154 rfl Try.sizeOf3
  exact h
theorem fa_api_Use_1 : FA Try.prog 154 1 1 := by
  have h := faOf (k := 1) Try.runUnderlying154 rfl Try.sizeOf3
  exact h
theorem fa_bound_step_0 : FA Try.prog 205 0 0 := by
  have h := faOf (k := 0) Try.runUnderlying205 rfl Try.sizeOf3
  exact h
theorem fa_bound_step_1 : FA Try.prog 205 1 1 := by
  have h := faOf (k := 1) Try.runUnderlying205 rfl Try.sizeOf3
  exact h
theorem fa_bound_step_2 : FA Try.prog 205 2 2 := by
  have h := faOf (k := 2) Try.runUnderlying205 rfl Try.sizeOf3
  exact h
theorem fa_bound_step_3 : FA Try.prog 205 3 3 := by
  have h := faOf (k := 3) Try.runUnderlying205 rfl Try.sizeOf3
  exact h
theorem fa_bound_told_2 : FA Try.prog 209 2 2 := by
  have h := faOf (k := 2) Try.runUnderlying209 rfl Try.sizeOf41
  exact h
theorem fa_bound_flow_0 : FA Try.prog 227 0 0 := by
  have h := faOf (k := 0) Try.runUnderlying227 rfl Try.sizeOf32
  exact h
theorem fa_bound_flow_1 : FA Try.prog 227 1 2 := by
  have h := faOf (k := 1) Try.runUnderlying227 rfl Try.sizeOf22
  exact h
theorem fa_bound_flow_2 : FA Try.prog 227 2 3 := by
  have h := faOf (k := 2) Try.runUnderlying227 rfl Try.sizeOf22
  exact h
theorem bld_api_System : BldT Try.prog 32 [(0, 1), (1, 1)] [.int .i64 0, .slice none 0 0] := bldOf Try.zeroValue32 rfl Try.runUnderlying32 (by simp [Try.sizeOf3, Try.sizeOf30])
theorem bld_api_Proof : BldT Try.prog 40 [(0, 1), (1, 1)] [.int .i64 0, .slice none 0 0] := bldOf Try.zeroValue40 rfl Try.runUnderlying40 (by simp [Try.sizeOf3, Try.sizeOf38])
theorem bld_api_Limit : BldT Try.prog 100 [(0, 1), (1, 1), (2, 1), (3, 1)] [.int .i64 0, .int .i64 0, .int .i64 0, .int .i64 0] := bldOf Try.zeroValue100 rfl Try.runUnderlying100 (by simp [Try.sizeOf3])
theorem bld_api_Use : BldT Try.prog 154 [(0, 1), (1, 1)] [.int .i64 0, .int .i64 0] := bldOf Try.zeroValue154 rfl Try.runUnderlying154 (by simp [Try.sizeOf3])
theorem bld_bound_step : BldT Try.prog 205 [(0, 1), (1, 1), (2, 1), (3, 1)] [.int .i64 0, .int .i64 0, .int .i64 0, .int .i64 0] := bldOf Try.zeroValue205 rfl Try.runUnderlying205 (by simp [Try.sizeOf3])
theorem bld_bound_told : BldT Try.prog 209 [(0, 1), (1, 1), (2, 1)] [.int .i64 0, .int .i64 0, .int .i64 0] := bldOf Try.zeroValue209 rfl Try.runUnderlying209 (by simp [Try.sizeOf3, Try.sizeOf41])
theorem bld_bound_flow : BldT Try.prog 227 [(0, 2), (2, 1), (3, 1)] [.int .i64 0, .slice none 0 0, .slice none 0 0, .slice none 0 0] := bldOf Try.zeroValue227 rfl Try.runUnderlying227 (by simp [Try.sizeOf22, Try.sizeOf32])
theorem bls_sl_int_0 : BldS Try.prog 22 0 1 [] := blsOf Try.runUnderlying22 Try.sizeOf3 Try.zeroValue3 (by decide) (by kernel_rfl)
theorem bls_sl_int_1 : BldS Try.prog 22 1 1 [.int .i64 0] := blsOf Try.runUnderlying22 Try.sizeOf3 Try.zeroValue3 (by decide) (by kernel_rfl)
theorem bls_sl_int_2 : BldS Try.prog 22 2 1 [.int .i64 0, .int .i64 0] := blsOf Try.runUnderlying22 Try.sizeOf3 Try.zeroValue3 (by decide) (by kernel_rfl)
theorem bls_sl_int_3 : BldS Try.prog 22 3 1 [.int .i64 0, .int .i64 0, .int .i64 0] := blsOf Try.runUnderlying22 Try.sizeOf3 Try.zeroValue3 (by decide) (by kernel_rfl)
theorem bls_sl_int_4 : BldS Try.prog 22 4 1 [.int .i64 0, .int .i64 0, .int .i64 0, .int .i64 0] := blsOf Try.runUnderlying22 Try.sizeOf3 Try.zeroValue3 (by decide) (by kernel_rfl)
theorem bls_sl_api_Limit_0 : BldS Try.prog 30 0 4 [] := blsOf Try.runUnderlying30 Try.sizeOf100 Try.zeroValue100 (by decide) (by kernel_rfl)
theorem bls_sl_api_Limit_1 : BldS Try.prog 30 1 4 [.int .i64 0, .int .i64 0, .int .i64 0, .int .i64 0] := blsOf Try.runUnderlying30 Try.sizeOf100 Try.zeroValue100 (by decide) (by kernel_rfl)
theorem bls_sl_api_Limit_7 : BldS Try.prog 30 7 4 [.int .i64 0, .int .i64 0, .int .i64 0, .int .i64 0, .int .i64 0, .int .i64 0, .int .i64 0, .int .i64 0, .int .i64 0, .int .i64 0, .int .i64 0, .int .i64 0, .int .i64 0, .int .i64 0, .int .i64 0, .int .i64 0, .int .i64 0, .int .i64 0, .int .i64 0, .int .i64 0, .int .i64 0, .int .i64 0, .int .i64 0, .int .i64 0, .int .i64 0, .int .i64 0, .int .i64 0, .int .i64 0] := blsOf Try.runUnderlying30 Try.sizeOf100 Try.zeroValue100 (by decide) (by kernel_rfl)
theorem bls_sl_api_Use_1 : BldS Try.prog 38 1 2 [.int .i64 0, .int .i64 0] := blsOf Try.runUnderlying38 Try.sizeOf154 Try.zeroValue154 (by decide) (by kernel_rfl)
theorem bls_sl_bound_step_1 : BldS Try.prog 198 1 4 [.int .i64 0, .int .i64 0, .int .i64 0, .int .i64 0] := blsOf Try.runUnderlying198 Try.sizeOf205 Try.zeroValue205 (by decide) (by kernel_rfl)
theorem app_sl_int_int : AppT Try.prog 22 22 3 1 8 := ⟨Try.runUnderlying22, Try.runUnderlying22, Try.sizeOf3, ⟨_, Try.typeInfo3, rfl, by decide⟩, ⟨_, Try.zeroValue3, rfl⟩⟩
theorem app_sl_api_Limit_api_Limit : AppT Try.prog 30 30 100 4 32 := ⟨Try.runUnderlying30, Try.runUnderlying30, Try.sizeOf100, ⟨_, Try.typeInfo100, rfl, by decide⟩, ⟨_, Try.zeroValue100, rfl⟩⟩
theorem app_sl_api_Use_api_Use : AppT Try.prog 38 38 154 2 16 := ⟨Try.runUnderlying38, Try.runUnderlying38, Try.sizeOf154, ⟨_, Try.typeInfo154, rfl, by decide⟩, ⟨_, Try.zeroValue154, rfl⟩⟩
theorem app_sl_bound_step_bound_step : AppT Try.prog 198 198 205 4 32 := ⟨Try.runUnderlying198, Try.runUnderlying198, Try.sizeOf205, ⟨_, Try.typeInfo205, rfl, by decide⟩, ⟨_, Try.zeroValue205, rfl⟩⟩
end Go.Proofs.Ytiiokdeehlfeeaa

namespace Go.Proofs.Ytiiokdeehlfeeaa
open Go.MW
theorem bound_within_spec {H : Heap} {w : World} {σ : List Ent} {a0 a1 a2 : Int} (hs : St H w σ) : Cl Try.prog 160 [I a0, I a1, I a2] w fun v w' => v = .bool (decide (a1 ≤ a0 ∧ a0 ≤ a2)) ∧ St H w' σ := by
  refine Cl.of Try.func160 rfl Try.ntmps160 (by simp) (args_cons (k := 0) rfl (args_cons (k := 1) rfl (args_cons (k := 2) rfl (args0)))) ?_
  refine .regSeq (.z zg (.nil (.regSeq (.z zm (.z zm (.z zleq (.z zm ?_)))))))
  refine .bifD (t' := 10) rfl (fun hb10 => ?_) (fun hb10 => ?_)
  · refine .gT rfl rfl ?_
    refine .z zm ?_
    refine .gT rfl rfl ?_
    refine .z zm ?_
    refine .gT rfl rfl ?_
    refine .z zleq (.z zpT (.z zg (.nil ?_)))
    refine .ret (Fin.ret1 Try.results160 rfl ?_)
    exact ⟨by simp [*], hs.out⟩
  · refine .gFs 3 3 true rfl rfl rfl ?_
    refine .z zpF (.z zg (.nil ?_))
    refine .ret (Fin.ret1 Try.results160 rfl ?_)
    exact ⟨by simp [*], hs.out⟩
theorem bound_isLimit_spec {H : Heap} {w : World} {σ : List Ent} {many : Int} {l : Lim} (hs : St H w σ) : Cl Try.prog 142 [I many, .agg l.c.toArray] w fun v w' => v = .bool (l.ok many) ∧ St H w' σ := by
  refine Cl.of Try.func142 rfl Try.ntmps142 (by simp) (args_cons (k := 0) rfl (args_cons (k := 1) rfl (args0))) ?_
  refine .regSeq ?_
  refine .o (.box hs rfl rfl ?_); intro b3 w hs
  refine .z zg (.nil (.regSeq (.z (zfa fa_api_Limit_0) (.y hs (zld Try.isAgg3) (.z zm ?_)))))
  refine .o (.call Try.call160 rfl (bound_within_spec hs) ?_); rintro _ w ⟨rfl, hs⟩
  refine .z zm ?_
  refine .bif (t' := 9) rfl (fun hb9 => ?_) (fun hb9 => ?_)
  · refine .gT rfl rfl ?_
    refine .z (zfa fa_api_Limit_1) ?_
    refine .gT rfl rfl ?_
    refine .y hs (zld Try.isAgg3) ?_
    refine .gT rfl rfl ?_
    refine .z zm ?_
    refine .gT rfl rfl ?_
    refine .o (.call Try.call160 rfl (bound_within_spec hs) ?_); rintro _ w ⟨rfl, hs⟩
    refine .z zpT (.z zm ?_)
    refine .bif (t' := 15) rfl (fun hb15 => ?_) (fun hb15 => ?_)
    · refine .gT rfl rfl ?_
      refine .z (zfa fa_api_Limit_0) ?_
      refine .gT rfl rfl ?_
      refine .y hs (zld Try.isAgg3) ?_
      refine .gT rfl rfl ?_
      refine .z (zfa fa_api_Limit_1) ?_
      refine .gT rfl rfl ?_
      refine .y hs (zld Try.isAgg3) ?_
      refine .gT rfl rfl ?_
      refine .z zneq (.z zpT (.z zm ?_))
      refine .bifN (t' := 22) rfl (fun hb22 => ?_) (fun hb22 => ?_)
      · refine .gT rfl rfl ?_
        refine .z (zfa fa_api_Limit_2) ?_
        refine .gT rfl rfl ?_
        refine .y hs (zld Try.isAgg3) ?_
        refine .gT rfl rfl ?_
        refine .o (.call Try.call160 rfl (bound_within_spec hs) ?_); rintro _ w ⟨rfl, hs⟩
        refine .z zpT (.z zm ?_)
        refine .bif (t' := 27) rfl (fun hb27 => ?_) (fun hb27 => ?_)
        · refine .gT rfl rfl ?_
          refine .z (zfa fa_api_Limit_3) ?_
          refine .gT rfl rfl ?_
          refine .y hs (zld Try.isAgg3) ?_
          refine .gT rfl rfl ?_
          refine .o (.call Try.call160 rfl (bound_within_spec hs) ?_); rintro _ w ⟨rfl, hs⟩
          refine .z zpT (.z zg (.nil ?_))
          refine .ret (Fin.ret1 Try.results142 rfl ?_)
          exact ⟨by simp [Lim.ok, *], hs.out⟩
        · refine .gFs 3 22 true rfl rfl rfl ?_
          refine .z zpF (.z zg (.nil ?_))
          refine .ret (Fin.ret1 Try.results142 rfl ?_)
          exact ⟨by simp [Lim.ok, *], hs.out⟩
      · refine .gFs 3 17 true rfl rfl rfl ?_
        refine .z zpF (.z zm ?_)
        refine .gFs 3 22 true rfl rfl rfl ?_
        refine .z zpF (.z zg (.nil ?_))
        refine .ret (Fin.ret1 Try.results142 rfl ?_)
        exact ⟨by simp [Lim.ok, *], hs.out⟩
    · refine .gFs 5 10 true rfl rfl rfl ?_
      refine .z zpF (.z zm ?_)
      refine .gFs 3 17 true rfl rfl rfl ?_
      refine .z zpF (.z zm ?_)
      refine .gFs 3 22 true rfl rfl rfl ?_
      refine .z zpF (.z zg (.nil ?_))
      refine .ret (Fin.ret1 Try.results142 rfl ?_)
      exact ⟨by simp [Lim.ok, *], hs.out⟩
  · refine .gFs 4 4 true rfl rfl rfl ?_
    refine .z zpF (.z zm ?_)
    refine .gFs 5 10 true rfl rfl rfl ?_
    refine .z zpF (.z zm ?_)
    refine .gFs 3 17 true rfl rfl rfl ?_
    refine .z zpF (.z zm ?_)
    refine .gFs 3 22 true rfl rfl rfl ?_
    refine .z zpF (.z zg (.nil ?_))
    refine .ret (Fin.ret1 Try.results142 rfl ?_)
    exact ⟨by simp [Lim.ok, *], hs.out⟩
theorem IndexFunc_Lim {H : Heap} {w : World} {σ : List Ent} {v : Value} {ls : List Lim} {g : Nat} {cap : List Value} {p : Lim → Bool} (hs : St H w σ) (hr : RL H v ls)
    (hc : ∀ args w, (callFunc g args).run Try.prog w = .ok (.enter g args) w) (hp : ∀ w l, St H w σ → Cl Try.prog g ([.agg l.c.toArray] ++ cap) w fun u w' => u = .bool (p l) ∧ St H w' σ) :
    Cl Try.prog 201 [v, .func (.func g) #[] cap.toArray] w fun u w' => u = I (match ls.findIdx? p with | some k => (k : Int) | none => -1) ∧ St H w' σ := by
  obtain ⟨a, c, rfl⟩ := RS.shape hr
  have hl := (RS.len hr).2.2
  refine Cl.of Try.func201 rfl Try.ntmps201 (by simp) (args_cons (k := 0) rfl (args_cons (k := 1) rfl (args0))) ?_
  refine .regSeq (.z zg (.nil (.seq (.regSeq (.z zm ?_)))))
  refine .q hs (q_lenR hr rfl Try.runUnderlying30) ?_
  refine .z zm (.nil ?_)
  refine .for (N := (ls.map Lim.c).length) (J := fun k fr w => fr = [(1, .func (.func g) #[] cap.toArray), (0, .slice a (ls.map Lim.c).length c)] ∧ St H w σ ∧ ∀ j < k, ∀ l, ls[j]? = some l → p l = false) (by omega) ?_ ?_ ?_
  · exact .mk ⟨rfl, hs, fun j hj => by omega⟩
  · rintro k fr w hk ⟨rfl, hs, hno⟩
    obtain ⟨l, hl⟩ := nth (l := ls) (by simpa using hk)
    refine .block (.regSeq (.z zm (.z zg (.nil (.regSeq (.z zm (.z zm (.z zm ?_))))))))
    refine .ixX hs hr rfl rfl Try.runUnderlying30 Try.sizeOf100 hl rfl ?_; intro b14 o14 hc14
    refine .y hs (zls [_, _, _, _] Try.isAgg100 Try.sizeOf100) ?_
    refine .o (.callG (first := []) rfl rfl hc (hp _ _ hs) ?_); rintro _ w ⟨rfl, hs⟩
    refine .nil ?_
    refine (.cond rfl (fun hc16 => ?_) (fun hc16 => ?_))
    · refine .regSeq (.z zm (.z zg (.nil ?_)))
      refine .ret (rB (rT (rB (rT (Fin.ret1 Try.results201 rfl ?_)))))
      exact ⟨by rw [findIdx_hit hl hc16 hno], hs⟩
    · refine .skip ?_
      refine nB (nT ?_)
      exact .mk ⟨rfl, hs, upto_succ hno hl hc16⟩
  · rintro fr w ⟨rfl, hs, hno⟩
    refine nT ?_
    refine .regSeq (.z zg (.nil ?_))
    refine .ret (Fin.ret1 Try.results201 rfl ?_)
    exact ⟨by rw [findIdx_miss (by simpa using hno)], hs⟩
theorem ContainsFunc_Lim {H : Heap} {w : World} {σ : List Ent} {v : Value} {ls : List Lim} {g : Nat} {cap : List Value} {p : Lim → Bool} (hs : St H w σ) (hr : RL H v ls)
    (hc : ∀ args w, (callFunc g args).run Try.prog w = .ok (.enter g args) w) (hp : ∀ w l, St H w σ → Cl Try.prog g ([.agg l.c.toArray] ++ cap) w fun u w' => u = .bool (p l) ∧ St H w' σ) :
    Cl Try.prog 161 [v, .func (.func g) #[] cap.toArray] w fun u w' => u = .bool (ls.any p) ∧ St H w' σ := by
  refine Cl.of Try.func161 rfl Try.ntmps161 (by simp) (args_cons (k := 0) rfl (args_cons (k := 1) rfl (args0))) ?_
  refine .regSeq (.z zg (.nil (.regSeq (.z zm (.z zm ?_)))))
  refine .o (.call Try.call201 rfl (IndexFunc_Lim hs hr hc hp) ?_); rintro _ w ⟨rfl, hs⟩
  refine .z zgeq (.z zg (.nil ?_))
  refine .ret (Fin.ret1 Try.results161 rfl ?_)
  exact ⟨by rw [any_findIdx]; cases ls.findIdx? p <;> simp <;> omega, hs⟩
theorem bound_Check_1 {H : Heap} {w : World} {σ : List Ent} {b : Nat} {many : Int} {v : Value} {l : Lim} (hs : St H w σ) (hm : Mem σ (.blk b [I many, v])) : Cl Try.prog 162 [.agg l.c.toArray, .pointer (some ⟨b, 0, none⟩)] w fun v w' => v = .bool (!l.ok many) ∧ St H w' σ := by
  refine Cl.of Try.func162 rfl Try.ntmps162 (by simp) (args_cons (k := 0) rfl (args_cons (k := 1) rfl (args0))) ?_
  refine .regSeq ?_
  refine .o (.box hs rfl rfl ?_); intro b2 w hs
  refine .z zg (.nil (.regSeq (.z (zfa fa_api_System_0) ?_)))
  refine .q hs (q_load rfl Try.isAgg3 (.there hm) rfl) ?_
  refine .q hs (q_loads (vs := l.c) rfl Try.isAgg100 Try.sizeOf100) ?_
  refine .o (.call Try.call142 rfl (bound_isLimit_spec hs) ?_); rintro _ w ⟨rfl, hs⟩
  refine .z znot (.z zg (.nil ?_))
  refine .ret (Fin.ret1 Try.results162 rfl ?_)
  exact ⟨rfl, hs.out⟩
theorem bound_Check_spec {H : Heap} {w : World} {σ : List Ent} {v : Value} {s : Syst} (hs : St H w σ) (hr : RSy H v s) : Cl Try.prog 72 [v] w fun v w' => v = I s.check ∧ St H w' σ := by
  obtain ⟨u, rfl, hr⟩ := hr
  obtain ⟨a, c, rfl⟩ := RS.shape hr
  refine Cl.of Try.func72 rfl Try.ntmps72 (by simp) (args_cons (k := 0) rfl (args0)) ?_
  refine .regSeq ?_
  refine .o (.box hs rfl rfl ?_); intro b1 w hs
  refine .z zg (.nil (.seq (.block (.regSeq (.z (zfa fa_api_System_0) (.y hs (zld Try.isAgg3) ?_))))))
  refine .o (.call Try.call160 rfl (bound_within_spec hs) ?_); rintro _ w ⟨rfl, hs⟩
  refine .z znot (.z zg (.nil ?_))
  refine (.cond rfl (fun hc3 => ?_) (fun hc3 => ?_))
  · refine .regSeq (.z zg (.nil ?_))
    refine .ret (rB (rT (Fin.ret1 Try.results72 rfl ?_)))
    exact ⟨congrArg I (by unfold Syst.check; (repeat' split) <;> simp_all <;> omega), hs.out⟩
  · refine .regSeq (.z (zfa fa_api_System_1) (.y hs (zld Try.isAgg30) ?_))
    refine .q hs (q_lenR hr rfl Try.runUnderlying30) ?_
    refine .z zgtr (.z zg (.nil ?_))
    refine (.condD rfl (fun hc8 => ?_) (fun hc8 => ?_))
    · refine .regSeq (.z zg (.nil ?_))
      refine .ret (rB (rT (Fin.ret1 Try.results72 rfl ?_)))
      exact ⟨congrArg I (by unfold Syst.check; (repeat' split) <;> simp_all <;> omega), hs.out⟩
    · refine .regSeq (.z (zfa fa_api_System_1) (.y hs (zld Try.isAgg30) ?_))
      refine .q hs (q_makeFunc (f := []) (c := [_]) rfl rfl) ?_
      refine .o (.call Try.call161 rfl (ContainsFunc_Lim (p := fun l => !l.ok s.many) hs hr Try.call162 (fun w l hs => bound_Check_1 hs .here)) ?_); rintro _ w ⟨rfl, hs⟩
      refine .z zg (.nil ?_)
      refine (.cond rfl (fun hc13 => ?_) (fun hc13 => ?_))
      · refine .regSeq (.z zg (.nil ?_))
        refine .ret (rB (rT (Fin.ret1 Try.results72 rfl ?_)))
        exact ⟨congrArg I (by unfold Syst.check; (repeat' split) <;> simp_all <;> omega), hs.out⟩
      · refine .skip ?_
        refine nB (nT ?_)
        refine .regSeq (.z zg (.nil ?_))
        refine .ret (Fin.ret1 Try.results72 rfl ?_)
        exact ⟨congrArg I (by unfold Syst.check; (repeat' split) <;> simp_all <;> omega), hs.out⟩
end Go.Proofs.Ytiiokdeehlfeeaa

namespace Go.Proofs.Ytiiokdeehlfeeaa
open Go.MW
theorem bound_steps_1_iter {H : Heap} {b : Nat} {s : Syst} {u : Value} (hok : s.Ok) (hb : Row H b [I s.many, u]) (hr : RL H u s.lims) : ItA Try.prog 202 [.pointer (some ⟨b, 0, none⟩)] H s.arcs := by
  intro l II Ix _ _ hy H0 σb0 σf w hle hI0 hs
  obtain ⟨a, c, rfl⟩ := RS.shape hr
  have hb1 : cellAt H0 b 1 = some (.slice a (s.lims.map Lim.c).length c) := cellAt.mono (by rw [hb.cell]; rfl) hle
  have hlen := hok.len
  refine Cl.of Try.func202 rfl Try.ntmps202 (by simp) (args_cons (k := 0) rfl (args_cons (k := 1) rfl (args0))) ?_
  refine .regSeq (.z (zfa fa_api_System_1) (.y hs (zld Try.isAgg30) ?_))
  refine .q hs (q_lenR (hr.mono hle) rfl Try.runUnderlying30) ?_
  refine .z zm (.nil ?_)
  refine .for (N := (s.lims.map Lim.c).length) (J := fun k fr w => fr = [(6, .slice a (s.lims.map Lim.c).length c), (0, .func (.yield l) #[] #[])] ∧ ∃ H1 σb, HLe H H1 ∧ HLe H0 H1 ∧ II k H1 σb ∧ St H1 w (σb ++ σf)) (by simp; omega) ?_ ?_ ?_
  · exact .mk ⟨rfl, H0, σb0, hle, HLe.refl _, hI0, hs⟩
  · rintro k fr w hk ⟨rfl, H1, σb, hle1, hle0, hI, hs⟩
    obtain ⟨x, hx⟩ := nth (l := s.lims) (by simpa using hk)
    obtain ⟨hA, hB, _⟩ := hok.arc (List.mem_of_getElem? hx) k
    refine .block (.regSeq (.z zm ?_))
    refine .ixX hs (hr.mono hle1) rfl rfl Try.runUnderlying30 Try.sizeOf100 hx rfl ?_; intro b11 o11 hc11
    refine .q hs (q_loadsR (vs := x.c) rfl Try.isAgg100 Try.sizeOf100 hc11) ?_
    refine .o (.alloc hs Try.zeroValue100 rfl ?_); intro b4 w hs
    refine .z zg ?_
    refine .o (.stores (vs := x.c) hs rfl rfl Try.sizeOf100 ?_); intro w hs
    refine .nil (.regSeq (.z zm (.z (zfa fa_api_Limit_0) (.y hs (zld Try.isAgg3) (.z (zfa fa_api_Limit_1) (.y hs (zld Try.isAgg3) (.z (zfa fa_api_Limit_2) (.y hs (zld Try.isAgg3) (.z zm ?_)))))))))
    refine .z (zbd [_, _, _, _] bld_bound_step) ?_
    have hk' : k < (s.arcs.map fun x => [Value.agg x.v.toArray]).length := by simp [Syst.arcs, arcsOf_length]; simpa using hk
    have hxk : (s.arcs.map fun x => [Value.agg x.v.toArray])[k] = [.agg (x.arc k).v.toArray] := by
      have := arcsOf_get hx
      rw [List.getElem_map]; rw [List.getElem?_eq_some_iff] at this; obtain ⟨h1, h2⟩ := this; simp only [Syst.arcs]; rw [h2]
    have hyd := hy k hk' H1 σb σf w hle1 hI hs.tail
    rw [hxk] at hyd
    refine .o (.yield (vs := [.agg (x.arc k).v.toArray]) rfl (by simp [Arc.v, hA, hB]; rfl) hyd ?_); rintro v22 w ⟨H2, σ2, g1, hs, g3⟩
    obtain ⟨bb, rfl, gT, gF⟩ := yd_bool g3
    refine .z znot (.nil ?_)
    refine (.cond rfl (fun hc23 => ?_) (fun hc23 => ?_))
    · refine .ret (rB (rT (rB (Fin.ret0 Try.results202 ?_))))
      exact ⟨H2, σ2, hle0.trans g1, hs, .inr (gF (by simpa using hc23))⟩
    · refine .skip ?_
      refine nB (nT ?_)
      exact .mk ⟨rfl, H2, σ2, hle1.trans g1, hle0.trans g1, gT (by simpa using hc23), hs⟩
  · rintro fr w ⟨rfl, H1, σb, hle1, hle0, hI, hs⟩
    exact Fin.end0 Try.results202 ⟨H1, σb, hle0, hs, .inl (by simpa [Syst.arcs, arcsOf_length] using hI)⟩
theorem bound_steps_spec {H : Heap} {w : World} {σ : List Ent} {v : Value} {s : Syst} (hs : St H w σ) (hok : s.Ok) (hr : RSy H v s) :
    Cl Try.prog 174 [v] w fun v w' => ∃ H1 b, HLe H H1 ∧ v = .func (.func 202) #[] #[.pointer (some ⟨b, 0, none⟩)] ∧ ItA Try.prog 202 [.pointer (some ⟨b, 0, none⟩)] H1 s.arcs ∧ St H1 w' σ := by
  obtain ⟨u, rfl, hr⟩ := hr
  refine Cl.of Try.func174 rfl Try.ntmps174 (by simp) (args_cons (k := 0) rfl (args0)) ?_
  refine .regSeq ?_
  refine .o (.box hs rfl rfl ?_); intro b1 w hs
  refine .z zg (.nil (.regSeq ?_))
  refine .q hs (q_makeFunc (f := []) (c := [_]) rfl rfl) ?_
  refine .z zg (.nil ?_)
  refine .ret (Fin.ret1 Try.results174 rfl ?_)
  obtain ⟨H1, g1, g2, hs⟩ := hs.publish .here
  exact ⟨H1, b1, g1, rfl, bound_steps_1_iter hok g2 (hr.mono g1), hs⟩
theorem bound_nearest_spec {H : Heap} {w : World} {σ : List Ent} {N gf : Nat} {ar : List Arc} {cap : List Value} (hs : St H w σ) (hN : N ≤ 64) (hok : ArcsOk ar (N + 1)) (hit : ItA Try.prog gf cap H ar) (hc : ∀ args w, (callFunc gf args).run Try.prog w = .ok (.enter gf args) w) :
    Cl Try.prog 173 [I N, .func (.func gf) #[] cap.toArray] w fun v w' => ∃ H1 bc bb s ov vo, HLe H H1 ∧ v = .tuple #[.slice (some ⟨bc, 0, none⟩) (N + 1) (N + 1), .slice (some ⟨bb, 0, none⟩) (N + 1) (N + 1), vo] ∧ OvR H1 vo ov ∧ NearR (N + 1) ar s ov ∧ St H1 w' (.blk bc (Is s.cost) :: .blk bb (Arcs s.by_) :: σ) := by
  refine Cl.of Try.func173 rfl Try.ntmps173 (by simp) (args_cons (k := 0) rfl (args_cons (k := 1) rfl (args0))) ?_
  refine .regSeq ?_
  refine .o (.alloc hs Try.zeroValue22 rfl ?_); intro b4 w hs
  refine .o (.alloc hs Try.zeroValue198 rfl ?_); intro b5 w hs
  refine .o (.alloc hs Try.zeroValue199 rfl ?_); intro b6 w hs
  refine .nil ?_
  refine .cut (fun fs w => ∃ bc bb, FSub fs ⟨70, [], [(1, .func (.func gf) #[] cap.toArray), (0, I N), (4, .pointer (some ⟨b4, 0, none⟩)), (5, .pointer (some ⟨b5, 0, none⟩)), (6, .pointer (some ⟨b6, 0, none⟩))]⟩ ∧ St H w (.blk b4 [.slice (some ⟨bc, 0, none⟩) (N + 1) (N + 1)] :: .blk b5 [.slice (some ⟨bb, 0, none⟩) (N + 1) (N + 1)] :: .blk b6 [.pointer none] :: .blk bc (Is (List.replicate (N + 1) 0)) :: .blk bb (Arcs (mkBy (N + 1) 0)) :: σ)) ?_ ?_
  · refine .draw mix rfl hs ?_; intro w hs
    refine .z 0 rfl zm ?_; refine .z 1 rfl zadd ?_; refine .z 3 rfl zm ?_; refine .z 4 rfl zadd ?_
    refine .e2 (i := 2) (j := 5) (by kernel_rfl) rfl rfl rfl rfl .none .none hs ?_ ?_
    · refine .makeI (N + 1) hs rfl rfl Try.runUnderlying22 Try.typeInfo3 rfl Try.sizeOf3 Try.zeroValue3 (by omega) ?_; intro b11 w hs
      refine .go ?_
      refine .e2 (i := 5) (j := 6) (by kernel_rfl) rfl rfl rfl rfl .none .none hs ?_ ?_
      · refine .makeA (N + 1) hs rfl rfl Try.runUnderlying198 Try.typeInfo205 rfl Try.sizeOf205 Try.zeroValue205 (by omega) ?_; intro b14 w hs
        refine .go ?_
        refine .e1 (i := 6) (by kernel_rfl) rfl rfl .none hs ?_
        refine .store hs rfl rfl Try.sizeOf22 ?_; intro w hs
        refine .go ?_
        refine .e1 (i := 7) (by kernel_rfl) rfl rfl .none hs ?_
        refine .store hs rfl rfl Try.sizeOf198 ?_; intro w hs
        refine .go ?_
        refine .done (by kernel_rfl) hs ?_
        exact nT ⟨b11, b14, by repeat (first | exact .nil rfl rfl | refine .cons rfl ?_), hs.sub (by repeat (first | exact Sub.refl _ | constructor | apply Sub.weaken))⟩
      · refine .store hs rfl rfl Try.sizeOf22 ?_; intro w hs
        refine .go ?_
        refine .e1 (i := 5) (by kernel_rfl) rfl rfl .none hs ?_
        refine .makeA (N + 1) hs rfl rfl Try.runUnderlying198 Try.typeInfo205 rfl Try.sizeOf205 Try.zeroValue205 (by omega) ?_; intro b14 w hs
        refine .go ?_
        refine .e1 (i := 7) (by kernel_rfl) rfl rfl .none hs ?_
        refine .store hs rfl rfl Try.sizeOf198 ?_; intro w hs
        refine .go ?_
        refine .done (by kernel_rfl) hs ?_
        exact nT ⟨b11, b14, by repeat (first | exact .nil rfl rfl | refine .cons rfl ?_), hs.sub (by repeat (first | exact Sub.refl _ | constructor | apply Sub.weaken))⟩
    · refine .makeA (N + 1) hs rfl rfl Try.runUnderlying198 Try.typeInfo205 rfl Try.sizeOf205 Try.zeroValue205 (by omega) ?_; intro b14 w hs
      refine .go ?_
      refine .e1 (i := 2) (by kernel_rfl) rfl rfl .none hs ?_
      refine .makeI (N + 1) hs rfl rfl Try.runUnderlying22 Try.typeInfo3 rfl Try.sizeOf3 Try.zeroValue3 (by omega) ?_; intro b11 w hs
      refine .go ?_
      refine .e1 (i := 6) (by kernel_rfl) rfl rfl .none hs ?_
      refine .store hs rfl rfl Try.sizeOf22 ?_; intro w hs
      refine .go ?_
      refine .e1 (i := 7) (by kernel_rfl) rfl rfl .none hs ?_
      refine .store hs rfl rfl Try.sizeOf198 ?_; intro w hs
      refine .go ?_
      refine .done (by kernel_rfl) hs ?_
      exact nT ⟨b11, b14, by repeat (first | exact .nil rfl rfl | refine .cons rfl ?_), hs.sub (by repeat (first | exact Sub.refl _ | constructor | apply Sub.weaken))⟩
  · rintro s w ⟨bc, bb, hfs, hs⟩
    refine WE.sub ?_ hfs
    refine .seq (.regSeq (.y hs (zld Try.isAgg198) (.z (zlen Try.runUnderlying198) (.z zm (.nil ?_)))))
    refine .for (N := N + 1) (J := fun k fr w => fr = [(1, .func (.func gf) #[] cap.toArray), (0, I N), (4, .pointer (some ⟨b4, 0, none⟩)), (5, .pointer (some ⟨b5, 0, none⟩)), (6, .pointer (some ⟨b6, 0, none⟩))] ∧ St H w (.blk b4 [.slice (some ⟨bc, 0, none⟩) (N + 1) (N + 1)] :: .blk b5 [.slice (some ⟨bb, 0, none⟩) (N + 1) (N + 1)] :: .blk b6 [.pointer none] :: .blk bc (Is (List.replicate (N + 1) 0)) :: .blk bb (Arcs (mkBy (N + 1) k)) :: σ)) (by omega) ?_ ?_ ?_
    · exact .mk ⟨rfl, hs⟩
    · rintro k fr w hk ⟨rfl, hs⟩
      have hkl : k < (mkBy (N + 1) k).length := by rw [mkBy_length (by omega)]; exact hk
      refine .block (.regSeq (.z zm (.z zg (.nil (.region (.y hs (zld Try.isAgg198) (.z zm ?_)))))))
      first | (refine .ixw hs Try.runUnderlying198 Try.sizeOf205 ?_; intro b22 o22 hc22) | refine .z (zixm Try.runUnderlying198 Try.sizeOf205) ?_
      refine .z (zfa fa_bound_step_3) ?_
      refine .o (.store hs rfl rfl Try.sizeOf3 ?_ (by repeat constructor) (blt_Arcs hkl (by omega)) ((Arcs_set3 hkl _).trans (congrArg Arcs (mkBy_set hk)))); intro w hs
      refine .nil ?_
      refine nB (nT ?_)
      exact .mk ⟨rfl, hs⟩
    · rintro fr w ⟨rfl, hs⟩
      refine nT ?_
      refine .seq (.regSeq (.z zm (.z zadd (.z zm (.nil ?_)))))
      refine .forD (N := N + 2) (J := fun r ds fr w => fr = [(1, .func (.func gf) #[] cap.toArray), (0, I N), (4, .pointer (some ⟨b4, 0, none⟩)), (5, .pointer (some ⟨b5, 0, none⟩)), (6, .pointer (some ⟨b6, 0, none⟩))] ∧ ∃ Ds H1 s vo, ds = marks Ds ∧ HLe H H1 ∧ NInv (N + 1) ar r 0 none s ∧ (r = 0 ∨ ∃ x, OvR H1 vo (some x) ∧ NInv (N + 1) ar (r - 1) ar.length (some x) s) ∧ St H1 w (.blk b4 [.slice (some ⟨bc, 0, none⟩) (N + 1) (N + 1)] :: .blk b5 [.slice (some ⟨bb, 0, none⟩) (N + 1) (N + 1)] :: .blk b6 [vo] :: .blk bc (Is s.cost) :: .blk bb (Arcs s.by_) :: (mes Ds ++ σ))) (by omega) ?_ ?_ ?_
      · exact .mk (ds := []) ⟨rfl, [], H, ⟨List.replicate (N + 1) 0, List.replicate (N + 1) ⟨0, 0, 0, -1⟩⟩, _, rfl, HLe.refl _, NInv.init (by omega), .inl rfl, by rw [mkBy_full] at hs; exact hs⟩
      · rintro r ds fr w hr ⟨rfl, Ds, H1, s, vo, rfl, hle1, hN0, -, hs⟩
        refine .block (.regSeq ?_)
        refine .o (.store hs rfl rfl Try.sizeOf199 ?_); intro w hs
        refine .nil (.seq (.regSeq (.z zm (.nil (.block ?_)))))
        refine .rangeFunc (gf := gf) (cap := cap) (xs := ar.map fun x => [.agg x.v.toArray]) (σb := [.blk b4 [.slice (some ⟨bc, 0, none⟩) (N + 1) (N + 1)], .blk b5 [.slice (some ⟨bb, 0, none⟩) (N + 1) (N + 1)], .blk b6 [.pointer none], .blk bc (Is s.cost), .blk bb (Arcs s.by_)]) (σf := mes Ds ++ σ) hs trivial rfl (hit.mono hle1) hc (by simp) rfl
          (I := fun k H' σb => ∃ s ov vo, σb = [.blk b4 [.slice (some ⟨bc, 0, none⟩) (N + 1) (N + 1)], .blk b5 [.slice (some ⟨bb, 0, none⟩) (N + 1) (N + 1)], .blk b6 [vo], .blk bc (Is s.cost), .blk bb (Arcs s.by_)] ∧ OvR H' vo ov ∧ NInv (N + 1) ar r k ov s) (Ix := fun _ _ _ => False) (by rintro k _ _ σ g1 ⟨s, ov, vo, g2, g3, g4⟩; exact ⟨s, ov, vo, g2, g3.mono g1, g4⟩) (fun _ _ _ _ _ h => h)
          ⟨s, none, _, rfl, rfl, hN0⟩ ?_ ?_ (fun D c H' σb w _ h _ => h.elim)
        · rintro l k hk H2 σb2 σf2 w hle2 ⟨s, ov, vo, rfl, hov, hN⟩ hs ⟨rr, hrr⟩
          obtain ⟨x, hx⟩ := nth (l := ar) (by simpa using hk)
          obtain ⟨c1, c2, c3, c4, c5, c6⟩ := hok.2 x (List.mem_of_getElem? hx)
          have hxk : (ar.map fun x => [Value.agg x.v.toArray])[k] = [.agg x.v.toArray] := by rw [List.getElem_map]; rw [List.getElem?_eq_some_iff] at hx; obtain ⟨h1, h2⟩ := hx; rw [h2]
          rw [hxk]
          have hkl : k < ar.length := by simpa using hk
          have hal := hok.1
          have hlc := hN.lc
          have hlb := hN.lb
          have lo1 := hN.lo x.f c1
          have hi1 := hN.hi x.f c1
          refine .region ?_
          refine .o (.alloc hs Try.zeroValue205 rfl ?_); intro b8 w hs
          refine .o (.stores (vs := x.v) hs rfl rfl Try.sizeOf205 ?_); intro w hs
          refine .nil ?_
          refine nT ?_
          refine ⟨H2, [.blk b8 x.v, .blk b4 [.slice (some ⟨bc, 0, none⟩) (N + 1) (N + 1)], .blk b5 [.slice (some ⟨bb, 0, none⟩) (N + 1) (N + 1)], .blk b6 [vo], .blk bc (Is s.cost), .blk bb (Arcs s.by_)], HLe.refl _, hs, ?_⟩; rintro w σf2 - hs
          refine .block ?_
          refine .seq (.draw mix rfl hs ?_); intro w hs
          refine .y 0 rfl hs Try.isAgg22 ?_; refine .z 1 rfl (zfa fa_bound_step_0) ?_; refine .y 2 rfl hs Try.isAgg3 ?_
          first | (refine .ixv 3 rfl hs Try.runUnderlying22 Try.sizeOf3 ?_; intro b34 o34 hc34) | refine .z 3 rfl (zix Try.runUnderlying22 Try.sizeOf3) ?_
          refine .y 4 rfl hs Try.isAgg3 ?_; refine .z 5 rfl (zfa fa_bound_step_2) ?_; refine .y 6 rfl hs Try.isAgg3 ?_; refine .z 7 rfl zadd ?_; refine .y 8 rfl hs Try.isAgg22 ?_; refine .z 9 rfl (zfa fa_bound_step_1) ?_; refine .y 10 rfl hs Try.isAgg3 ?_
          first | (refine .ixv 11 rfl hs Try.runUnderlying22 Try.sizeOf3 ?_; intro b42 o42 hc42) | refine .z 11 rfl (zix Try.runUnderlying22 Try.sizeOf3) ?_
          refine .y 12 rfl hs Try.isAgg3 ?_; refine .z 13 rfl zlss ?_; refine .done (by kernel_rfl) hs ?_
          refine (.condD rfl (fun hc44 => ?_) (fun hc44 => ?_))
          · refine .seq (.draw mix rfl hs ?_); intro w hs
            refine .y 0 rfl hs Try.isAgg22 ?_; refine .z 1 rfl (zfa fa_bound_step_1) ?_; refine .y 2 rfl hs Try.isAgg3 ?_; refine .y 3 rfl hs Try.isAgg198 ?_; refine .z 4 rfl (zfa fa_bound_step_1) ?_; refine .y 5 rfl hs Try.isAgg3 ?_; refine .y 6 rfl hs Try.isAgg22 ?_; refine .z 7 rfl (zfa fa_bound_step_0) ?_; refine .y 8 rfl hs Try.isAgg3 ?_
            first | (refine .ixv 9 rfl hs Try.runUnderlying22 Try.sizeOf3 ?_; intro b54 o54 hc54) | refine .z 9 rfl (zix Try.runUnderlying22 Try.sizeOf3) ?_
            refine .y 10 rfl hs Try.isAgg3 ?_; refine .z 11 rfl (zfa fa_bound_step_2) ?_; refine .y 12 rfl hs Try.isAgg3 ?_; refine .z 13 rfl zadd ?_
            refine .loads (i := 14) (vs := x.v) hs rfl (by kernel_rfl) .none rfl Try.isAgg205 Try.sizeOf205 ?_
            first | (refine .ixv 15 rfl hs Try.runUnderlying22 Try.sizeOf3 ?_; intro b60 o60 hc60) | refine .z 15 rfl (zix Try.runUnderlying22 Try.sizeOf3) ?_
            refine .e1 (i := 16) (by kernel_rfl) rfl rfl .none hs ?_
            refine .store hs rfl rfl Try.sizeOf3 ?_; intro w hs
            refine .go ?_
            first | (refine .ixw 17 rfl hs Try.runUnderlying198 Try.sizeOf205 ?_; intro b61 o61 hc61) | refine .z 17 rfl (zixm Try.runUnderlying198 Try.sizeOf205) ?_
            refine .e1 (i := 18) (by kernel_rfl) rfl rfl .none hs ?_
            refine .stores (vs := x.v) hs rfl rfl Try.sizeOf205 ?_; intro w hs
            refine .go ?_
            refine .done (by kernel_rfl) hs ?_
            refine .region ?_
            refine .o (.store hs rfl rfl Try.sizeOf199 ?_); intro w hs
            refine .nil ?_
            refine nB ?_
            obtain ⟨H3, g1, g2, hs⟩ := hs.publish .here
            exact ⟨H3, _, g1, hs, s.rlx x, some x, _, rfl, ⟨b8, rfl, g2⟩, hN.relax hok hx hc44⟩
          · refine .skip ?_
            refine nB ?_
            exact ⟨H2, _, HLe.refl _, hs.tail, s, ov, vo, rfl, hov, hN.skip hok hx (by unfold BS.can; omega)⟩
        · rintro D H2 σb2 w hle2 ⟨s, ov, vo, rfl, hov, hN⟩ hs
          obtain ⟨a', rfl, ha'⟩ := hov.ptr
          replace hs : St H2 w (.blk b4 [.slice (some ⟨bc, 0, none⟩) (N + 1) (N + 1)] :: .blk b5 [.slice (some ⟨bb, 0, none⟩) (N + 1) (N + 1)] :: .blk b6 [.pointer a'] :: .blk bc (Is s.cost) :: .blk bb (Arcs s.by_) :: (mes (D :: Ds) ++ σ)) := St.deep (σ1 := [_, _, _, _, _]) hs
          have hN : NInv (N + 1) ar r ar.length ov s := by simpa using hN
          refine nB (nT ?_)
          refine .regSeq (.y hs (zld Try.isAgg199) ?_)
          refine .q hs (q_eqPN rfl rfl Try.runUnderlying199) ?_
          refine .nil ?_
          refine (.cond rfl (fun hc63 => ?_) (fun hc63 => ?_))
          · refine .seq (.draw mix rfl hs ?_); intro w hs
            refine .y 0 rfl hs Try.isAgg22 ?_; refine .y 1 rfl hs Try.isAgg198 ?_
            refine .e1 (i := 2) (by kernel_rfl) rfl rfl .none hs ?_
            refine .store hs rfl rfl Try.sizeOf22 ?_; intro w hs
            refine .go ?_
            refine .e1 (i := 3) (by kernel_rfl) rfl rfl .none hs ?_
            refine .store hs rfl rfl Try.sizeOf198 ?_; intro w hs
            refine .go ?_
            refine .e1 (i := 4) (by kernel_rfl) rfl rfl .none hs ?_
            refine .store hs rfl rfl Try.sizeOf199 ?_; intro w hs
            refine .go ?_
            refine .done (by kernel_rfl) hs ?_
            refine .ret (rB (rT (rB (rT (?_)))))
            obtain ⟨rfl, rfl⟩ := OvR.no ha' hc63
            refine Fin.retD (D :: Ds) [_, _, _, _, _] hs fun w hs => ⟨_, results3 Try.results173 (rcell hs rfl Try.isAgg22) (rcell hs rfl Try.isAgg198) (rcell hs rfl Try.isAgg199), H2, bc, bb, s, none, _, hle1.trans hle2, rfl, hov, ⟨r, hN, fun h => (h rfl).elim⟩, hs.sub (by repeat (first | exact Sub.refl _ | constructor | apply Sub.weaken))⟩
          · refine .skip ?_
            refine nB (nT ?_)
            obtain ⟨x, rfl⟩ := OvR.yes ha' hc63
            exact .mk (ds := marks (D :: Ds)) ⟨rfl, D :: Ds, H2, s, _, rfl, hle1.trans hle2, hN.next hok, .inr ⟨x, hov, hN⟩, hs⟩
      · rintro ds fr w ⟨rfl, Ds, H1, s, vo, rfl, hle1, hN0, hor, hs⟩
        obtain ⟨x, hov, hN⟩ : ∃ x, OvR H1 vo (some x) ∧ NInv (N + 1) ar (N + 2 - 1) ar.length (some x) s := hor.resolve_left (by omega)
        obtain ⟨b3, rfl, hrow⟩ := hov
        refine nT ?_
        refine .seq (.draw mix rfl hs ?_); intro w hs
        refine .y 0 rfl hs Try.isAgg22 ?_; refine .y 1 rfl hs Try.isAgg198 ?_; refine .y 2 rfl hs Try.isAgg199 ?_
        refine .e1 (i := 3) (by kernel_rfl) rfl rfl .none hs ?_
        refine .store hs rfl rfl Try.sizeOf22 ?_; intro w hs
        refine .go ?_
        refine .e1 (i := 4) (by kernel_rfl) rfl rfl .none hs ?_
        refine .store hs rfl rfl Try.sizeOf198 ?_; intro w hs
        refine .go ?_
        refine .e1 (i := 5) (by kernel_rfl) rfl rfl .none hs ?_
        refine .store hs rfl rfl Try.sizeOf199 ?_; intro w hs
        refine .go ?_
        refine .done (by kernel_rfl) hs ?_
        refine .ret ?_
        refine Fin.retD Ds [_, _, _, _, _] hs fun w hs => ⟨_, results3 Try.results173 (rcell hs rfl Try.isAgg22) (rcell hs rfl Try.isAgg198) (rcell hs rfl Try.isAgg199), H1, bc, bb, s, some x, _, hle1, rfl, ⟨b3, rfl, hrow⟩, ⟨N + 1, hN, fun _ => rfl⟩, hs.sub (by repeat (first | exact Sub.refl _ | constructor | apply Sub.weaken))⟩
theorem bound_isSound_spec {H : Heap} {w : World} {σ : List Ent} {v : Value} {s : Syst} (hs : St H w σ) (hok : s.Ok) (hr : RSy H v s) :
    Cl Try.prog 149 [v] w fun v w' => ∃ H1 b, HLe H H1 ∧ v = .bool b ∧ (b = true ↔ s.Sound) ∧ St H1 w' σ := by
  obtain ⟨u, rfl, hr⟩ := hr
  obtain ⟨N, hN⟩ := Int.eq_ofNat_of_zero_le hok.m0
  have hN1 := hok.m1
  have hn : s.n = N + 1 := by simp [Syst.n, hN]
  have hoka := hok.arcs
  rw [hn] at hoka
  rw [hN]
  refine Cl.of Try.func149 rfl Try.ntmps149 (by simp) (args_cons (k := 0) rfl (args0)) ?_
  refine .regSeq ?_
  refine .o (.box hs rfl rfl ?_); intro b1 w hs
  refine .z zg (.nil ?_)
  refine .seq (.draw mix rfl hs ?_); intro w hs
  refine .z 0 rfl (zfa fa_api_System_0) ?_; refine .y 1 rfl hs Try.isAgg3 ?_; refine .ys 2 rfl hs [_, _] Try.isAgg32 Try.sizeOf32 ?_
  refine .e1 (i := 3) (by kernel_rfl) rfl rfl .none hs ?_
  refine .call Try.call174 rfl (bound_steps_spec (s := s) hs hok ⟨u, by rw [hN], hr⟩) ?_; rintro _ w ⟨H1, b10, hle1, rfl, hit, hs⟩
  refine .go ?_
  refine .e1 (i := 4) (by kernel_rfl) rfl rfl .none hs ?_
  refine .call Try.call173 rfl (bound_nearest_spec hs (by omega) hoka hit Try.call202) ?_; rintro _ w ⟨H2, bc, bb, st, ov, vo, hle2, rfl, hov, hnr, hs⟩
  obtain ⟨a', rfl, ha'⟩ := hov.ptr
  refine .go ?_
  refine .z 5 rfl zm ?_; refine .z 6 rfl zex ?_; refine .z 7 rfl zex ?_; refine .z 8 rfl zex ?_; refine .z 9 rfl zg ?_; refine .z 10 rfl zg ?_; refine .z 11 rfl zg ?_; refine .done (by kernel_rfl) hs ?_
  refine .regSeq (.z zm ?_)
  refine .q hs (q_eqPN rfl rfl Try.runUnderlying199) ?_
  refine .z zg (.nil ?_)
  refine .ret (Fin.ret1 Try.results149 rfl ?_)
  refine ⟨H2, _, hle1.trans hle2, rfl, ?_, hs.out⟩
  obtain ⟨r, hN2, hr2⟩ := hnr
  cases ov with
  | none =>
    rw [ha']
    exact ⟨fun _ => ⟨_, (hN2.sol hoka (by omega)).1⟩, fun _ => rfl⟩
  | some x =>
    rw [ha']
    exact ⟨fun h => (by cases h), fun h => (hN2.none hoka (by omega) (by have := hr2 (by simp); omega) h).elim⟩
end Go.Proofs.Ytiiokdeehlfeeaa

namespace Go.Proofs.Ytiiokdeehlfeeaa
open Go.MW
theorem math_bits_Mul64_one {H : Heap} {w : World} {σ : List Ent} {c : Int} (hs : St H w σ) (hc : 0 ≤ c ∧ c < 4294967296) : Cl Try.prog 215 [.int .u64 1, .int .u64 c] w fun v w' => v = .tuple #[.int .u64 0, .int .u64 c] ∧ St H w' σ := by
  refine Cl.of Try.func215 rfl Try.ntmps215 (by simp) (args_cons (k := 0) rfl (args_cons (k := 1) rfl (args0))) ?_
  refine .regSeq (.z zg (.z zg (.nil (.regSeq (.z zm ?_)))))
  first | refine .q hs (q_low rfl rfl ⟨by omega, by omega⟩) ?_ | refine .q hs (q_bits rfl rfl) ?_
  refine .z zg (.nil (.regSeq (.z zm ?_)))
  first | refine .q hs (q_high rfl rfl ⟨by omega, by omega⟩) ?_ | refine .q hs (q_shr rfl rfl (by decide)) ?_
  refine .z zg (.nil (.regSeq (.z zm ?_)))
  first | refine .q hs (q_low rfl rfl ⟨by omega, by omega⟩) ?_ | refine .q hs (q_bits rfl rfl) ?_
  refine .z zg (.nil (.regSeq (.z zm ?_)))
  first | refine .q hs (q_high rfl rfl ⟨by omega, by omega⟩) ?_ | refine .q hs (q_shr rfl rfl (by decide)) ?_
  refine .z zg (.nil (.regSeq (.z zm (.z zm (.z zmul (.z zg (.nil (.regSeq (.z zm ?_)))))))))
  refine .z zm (.z zmul (.z zm ?_))
  first | refine .q hs (q_high rfl rfl ⟨by omega, by omega⟩) ?_ | refine .q hs (q_shr rfl rfl (by decide)) ?_
  refine .z zadd (.z zg (.nil (.regSeq (.z zm ?_))))
  first | refine .q hs (q_low rfl rfl ⟨by omega, by omega⟩) ?_ | refine .q hs (q_bits rfl rfl) ?_
  refine .z zg (.nil (.regSeq (.z zm ?_)))
  first | refine .q hs (q_high rfl rfl ⟨by omega, by omega⟩) ?_ | refine .q hs (q_shr rfl rfl (by decide)) ?_
  refine .z zg (.nil (.regSeq (.z zm (.z zm (.z zm (.z zmul (.z zadd (.z zg (.nil ?_)))))))))
  refine .regSeq (.z zm (.z zm (.z zmul (.z zm (.z zadd (.z zm ?_))))))
  first | refine .q hs (q_high rfl rfl ⟨by omega, by omega⟩) ?_ | refine .q hs (q_shr rfl rfl (by decide)) ?_
  refine .z zadd (.z zg (.nil (.regSeq (.z zm (.z zm (.z zmul (.z zg (.nil ?_))))))))
  refine .ret (Fin.ret2 Try.results215 rfl rfl ?_)
  exact ⟨by simp, hs⟩
theorem math_bits_Mul_one {H : Heap} {w : World} {σ : List Ent} {c : Int} (hs : St H w σ) (hc : 0 ≤ c ∧ c < 4294967296) : Cl Try.prog 205 [.int .u64 1, .int .u64 c] w fun v w' => v = .tuple #[.int .u64 0, .int .u64 c] ∧ St H w' σ := by
  refine Cl.of Try.func205 rfl Try.ntmps205 (by simp) (args_cons (k := 0) rfl (args_cons (k := 1) rfl (args0))) ?_
  refine .regSeq (.z zg (.z zg (.nil ?_)))
  refine .seq (.condF rfl rfl ?_)
  refine .skip ?_
  refine nT ?_
  refine .regSeq (.z zm (.z zm ?_))
  refine .o (.call Try.call215 rfl (math_bits_Mul64_one hs hc) ?_); rintro _ w ⟨rfl, hs⟩
  refine .z zm (.z zex (.z zex (.z zg (.z zg (.nil (.regSeq (.z zm (.z zm (.z zg ?_)))))))))
  refine .z zg (.nil ?_)
  refine .ret (Fin.ret2 Try.results205 rfl rfl ?_)
  exact ⟨rfl, hs⟩
theorem fill_step {c k : Nat} {z : Int} : let n := min k (c - k); (List.replicate k z ++ List.replicate (c - k) 0).take k ++ List.replicate n z ++ (List.replicate k z ++ List.replicate (c - k) 0).drop (k + n) = List.replicate (k + n) z ++ List.replicate (c - (k + n)) (0 : Int) := by
  intro n
  have hn : n ≤ c - k := Nat.min_le_right _ _
  have e0 : (List.replicate k z).length = k := by simp
  rw [List.take_left' e0]
  have e1 : (List.replicate k z ++ List.replicate (c - k) 0).drop (k + n) = List.replicate (c - (k + n)) (0 : Int) := by
    rw [show k + n = (List.replicate k z).length + n by simp, List.drop_append]
    simp
    omega
  rw [e1, List.replicate_append_replicate]
theorem slices_Repeat_int {H : Heap} {w : World} {σ : List Ent} {z : Int} {bx c : Nat} (hs : St H w σ) (hm : Mem σ (.blk bx (Is [z]))) (h1 : 1 ≤ c) (h2 : c ≤ 1000000) : Cl Try.prog 192 [.slice (some ⟨bx, 0, none⟩) 1 1, I c] w fun v w' => ∃ b, v = .slice (some ⟨b, 0, none⟩) c c ∧ St H w' (.blk b (Is (List.replicate c z)) :: σ) := by
  refine Cl.of Try.func192 rfl Try.ntmps192 (by simp) (args_cons (k := 0) rfl (args_cons (k := 1) rfl (args0))) ?_
  refine .regSeq (.z zg (.nil (.seq (.regSeq (.z zm (.z zlss (.nil ?_)))))))
  refine (.condD rfl (fun hc10 => ?_) (fun hc10 => ?_))
  · omega
  · refine .skip ?_
    refine nT ?_
    refine .regSeq (.z zm (.z (zlen Try.runUnderlying22) ?_))
    first | refine .q hs (q_convI rfl Try.runUnderlying3 Try.runUnderlying221 ⟨by omega, by omega⟩) ?_ | refine .q hs (q_convU rfl Try.runUnderlying3 Try.runUnderlying221 ⟨by omega, by omega⟩) ?_ | refine .q hs (q_conv rfl Try.runUnderlying3 Try.runUnderlying221) ?_
    refine .z zm ?_
    first | refine .q hs (q_convI rfl Try.runUnderlying3 Try.runUnderlying221 ⟨by omega, by omega⟩) ?_ | refine .q hs (q_convU rfl Try.runUnderlying3 Try.runUnderlying221 ⟨by omega, by omega⟩) ?_ | refine .q hs (q_conv rfl Try.runUnderlying3 Try.runUnderlying221) ?_
    refine .o (.call Try.call205 rfl (math_bits_Mul_one (c := c) hs (by omega)) ?_); rintro _ w ⟨rfl, hs⟩
    refine .z zm (.z zex (.z zex (.z zg (.z zg (.nil (.seq (.regSeq (.z zm (.z zgtr ?_)))))))))
    refine .z zm ?_
    refine .bifD (t' := 23) rfl (fun hb23 => ?_) (fun hb23 => ?_)
    · refine .gFs 2 2 false rfl rfl rfl ?_
      refine .z zpT (.nil ?_)
      refine (.condT rfl rfl ?_)
      first | omega | (simp at hc26; omega)
    · refine .gT rfl rfl ?_
      refine .z zm ?_
      refine .gT rfl rfl ?_
      refine .z zgtr (.z zpF (.nil ?_))
      refine (.condD rfl (fun hc26 => ?_) (fun hc26 => ?_))
      · first | omega | (simp at hc26; omega)
      · refine .skip ?_
        refine nT ?_
        refine .regSeq (.z zm ?_)
        first | refine .q hs (q_convI rfl Try.runUnderlying221 Try.runUnderlying3 ⟨by omega, by omega⟩) ?_ | refine .q hs (q_convU rfl Try.runUnderlying221 Try.runUnderlying3 ⟨by omega, by omega⟩) ?_ | refine .q hs (q_conv rfl Try.runUnderlying221 Try.runUnderlying3) ?_
        refine .o (.makeI c hs rfl rfl Try.runUnderlying22 Try.typeInfo3 rfl Try.sizeOf3 Try.zeroValue3 (by omega) ?_); intro b30 w hs
        refine .z zg (.nil (.regSeq (.z zm (.z zm ?_))))
        refine .o (.copyI (k := 1) (xs := List.replicate c 0) (zs := [z]) hs rfl rfl ⟨_, _, rfl⟩ Try.runUnderlying22 Try.sizeOf3 (by omega) rfl (first_own (xs := [z]) (.there hm) rfl rfl) (by simp; omega) ?_); intro w hs
        refine .z zg (.nil (.seq (.block ?_)))
        refine .loop (fun k : Nat => ⟨48, [], [(8, I k), (7, .slice (some ⟨b30, 0, none⟩) c c)]⟩) (fun k w => (1 ≤ k ∧ k ≤ c) ∧ St H w (.blk b30 (Is (List.replicate k z ++ List.replicate (c - k) 0)) :: σ)) (fun k => c - k) 1 (by repeat (first | exact .nil rfl rfl | refine .cons rfl ?_)) ⟨⟨by omega, by omega⟩, by
            have e : List.take 0 (List.replicate c (0 : Int)) ++ [z] ++ List.drop (0 + 1) (List.replicate c 0) = List.replicate 1 z ++ List.replicate (c - 1) 0 := by simp
            rw [e] at hs; exact hs⟩ ?_
        rintro k w ⟨⟨k1, k2⟩, hs⟩
        refine .seq (.regSeq (.z zm (.z zm (.z (zlen Try.runUnderlying22) (.z zlss (.nil ?_))))))
        refine (.condD rfl (fun hc37 => ?_) (fun hc37 => ?_))
        · refine .skip ?_
          refine nT ?_
          refine .block ?_
          refine .draw mix rfl hs ?_; intro w hs
          refine .z 0 rfl zm ?_; refine .z 1 rfl zm ?_; refine .z 2 rfl zm ?_
          refine .p (i := 3) rfl (by kernel_rfl) .none (q_sliceLI (k := k) rfl rfl Try.runUnderlying22 Try.sizeOf3 (by omega) (by omega)) ?_
          refine .z 4 rfl zm ?_; refine .z 5 rfl zm ?_
          refine .p (i := 6) rfl (by kernel_rfl) .none (q_sliceHI (k := k) rfl rfl Try.runUnderlying22 Try.sizeOf3 (by omega)) ?_
          refine .e1 (i := 7) (by kernel_rfl) rfl rfl .none hs ?_
          refine .copyI (k := min k (c - k)) (xs := List.replicate k z ++ List.replicate (c - k) 0) (zs := List.replicate (min k (c - k)) z) hs rfl rfl ⟨_, _, rfl⟩ Try.runUnderlying22 Try.sizeOf3 rfl (by simp) (first_own (xs := List.replicate k z ++ List.replicate (c - k) 0) .here (by rw [List.drop_zero, List.take_append_of_le_length (by simp; omega)]; simp) (by simp)) (by simp; omega) ?_; intro w hs
          refine .go ?_
          refine .z 8 rfl zadd ?_; refine .z 9 rfl zg ?_; refine .done (by kernel_rfl) hs ?_
          refine nB (nT ?_)
          exact ⟨k + min k (c - k), by repeat (first | exact .nil rfl rfl | refine .cons rfl ?_), ⟨⟨by omega, by omega⟩, by
              have e := fill_step (z := z) (c := c) (k := k)
              simp only [Nat.mul_one, Nat.zero_add] at hs
              rw [e] at hs; exact hs⟩, by omega⟩
        · refine .exit ?_
          refine xT (xT (xB (nT ?_)))
          refine .regSeq (.z zm (.z zg (.nil ?_)))
          refine .ret (Fin.ret1 Try.results192 rfl ?_)
          obtain rfl : k = c := by omega
          exact ⟨b30, rfl, by simpa using hs⟩
theorem slices_Clone_intN {H : Heap} {w : World} {σ : List Ent} {v : Value} {xs : List Int} (hs : St H w σ) (hr : RI H v xs) (hx : xs.length ≤ 17592186044416) : Cl Try.prog 128 [v] w fun u w' => ∃ en, (nnil v = true → nnil u = true) ∧ OwnS 1 u (Is xs) en ∧ St H w' (en :: σ) := by
  obtain ⟨a, c, rfl⟩ := RI.shape hr
  have hl := (RI.len hr).2.2
  refine Cl.of Try.func128 rfl Try.ntmps128 (by simp) (args_cons (k := 0) rfl (args0)) ?_
  refine .regSeq (.z zg (.nil (.seq (.regSeq (.z zm ?_)))))
  refine .q hs (q_eqSN rfl rfl Try.runUnderlying22) ?_
  refine .nil ?_
  refine (.cond rfl (fun hc4 => ?_) (fun hc4 => ?_))
  · refine .regSeq (.z zg (.nil ?_))
    refine .ret (rT (Fin.ret1 Try.results128 rfl ?_))
    obtain rfl : a = none := by simpa using hc4
    obtain rfl := hr.nilOf
    exact ⟨.nul, fun h => h, .nil 1 none, hs.nul⟩
  · refine .skip ?_
    refine nT ?_
    refine .regSeq ?_
    refine .o (.buildSlice (cells := []) hs bls_sl_int_0 rfl rfl ?_); intro b5 w hs
    refine .z zm ?_
    refine .o (.appendN (xs := []) (ys := Is xs) hs app_sl_int_int rfl rfl (.full rfl) (.ints hr) (by simp [Value.oneCell']) (fun l h => by simp at h; omega) ?_); intro v7 en7 w hnn hO hs
    refine .z zg (.nil ?_)
    refine .ret (Fin.ret1 Try.results128 rfl ?_)
    exact ⟨en7, fun _ => hnn rfl, hO, hs⟩
theorem slices_Clone_int {H : Heap} {w : World} {σ : List Ent} {v : Value} {xs : List Int} (hs : St H w σ) (hr : RI H v xs) (hx : xs.length ≤ 17592186044416) : Cl Try.prog 128 [v] w fun v w' => ∃ en, OwnS 1 v (Is xs) en ∧ St H w' (en :: σ) :=
  (slices_Clone_intN hs hr hx).mono fun _ _ ⟨en, _, h⟩ => ⟨en, h⟩
theorem slices_Reverse_step {H : Heap} {w : World} {σ : List Ent} {v : Value} {l : List Arc} {en : Ent} (hs : St H w (en :: σ)) (ho : OwnS 4 v (Arcs l) en) (hl : l.length ≤ 1000000) :
    Cl Try.prog 216 [v] w fun _ w' => ∃ en', OwnS 4 v (Arcs l.reverse) en' ∧ St H w' (en' :: σ) := by
  rcases ho with ⟨a, rfl, h2, rfl⟩ | ⟨b, len, cap, sp, rfl, rfl, h2, h3, h4⟩
  · obtain rfl : l = [] := by
      have := congrArg List.length h2
      rw [Arcs_length] at this
      exact List.length_eq_zero_iff.1 (by simp at this; omega)
    have hs := hs.tail
    refine Cl.of Try.func216 rfl Try.ntmps216 (by simp) (args_cons (k := 0) rfl (args0)) ?_
    refine .regSeq (.z zm (.z (zlen Try.runUnderlying198) (.z zsub (.z zg (.z zg (.nil (.block ?_)))))))
    refine .loop (fun _ : Unit => ⟨28, [], [(2, I 0), (3, I (-1))]⟩) (fun _ w => St H w σ) (fun _ => 0) () (by repeat (first | exact .nil rfl rfl | refine .cons rfl ?_)) hs ?_
    rintro _ w hs
    refine .seq (.regSeq (.z zm (.z zm (.z zlss (.nil ?_)))))
    refine (.condD rfl (fun hc9 => ?_) (fun hc9 => ?_))
    · omega
    · refine .exit ?_
      refine xT (xT (xB ?_))
      exact Fin.end0 Try.results216 ⟨.nul, .nil 4 a, hs.nul⟩
  obtain rfl : len = l.length := by rw [Arcs_length] at h2; omega
  refine Cl.of Try.func216 rfl Try.ntmps216 (by simp) (args_cons (k := 0) rfl (args0)) ?_
  refine .regSeq (.z zm (.z (zlen Try.runUnderlying198) (.z zsub (.z zg (.z zg (.nil (.block ?_)))))))
  refine .loop (fun p : Nat × List Arc => ⟨28, [], [(2, I p.1), (3, I ((l.length : Int) - 1 - p.1)), (0, .slice (some ⟨b, 0, none⟩) l.length cap)]⟩) (fun p w => (2 * p.1 ≤ l.length + 1 ∧ Turned l p.2 p.1) ∧ St H w (.blk b (Arcs p.2 ++ sp) :: σ)) (fun p => l.length - p.1) (0, l) (.cons rfl (.consI rfl (by simp) (.cons rfl (.nil rfl rfl)))) ⟨⟨by simp, .start l⟩, hs⟩ ?_
  rintro ⟨i, L⟩ w ⟨⟨h5, h6⟩, hs⟩
  dsimp only at h5 h6 hs ⊢
  have hL := h6.1
  refine .seq (.regSeq (.z zm (.z zm (.z zlss (.nil ?_)))))
  refine (.condD rfl (fun hc9 => ?_) (fun hc9 => ?_))
  · refine .skip ?_
    refine nT ?_
    refine .seq (.block ?_)
    refine .draw mix rfl hs ?_; intro w hs
    refine .z 0 rfl zm ?_; refine .z 1 rfl zm ?_; refine .z 2 rfl zm ?_; refine .z 3 rfl zm ?_; refine .z 4 rfl zm ?_; refine .z 5 rfl zm ?_
    refine .p (i := 6) rfl (by kernel_rfl) .none (q_ixOm (k := l.length - 1 - i) rfl rfl Try.runUnderlying198 Try.sizeOf205 (by omega) (by omega)) ?_
    refine .loads (i := 7) (vs := (ga L (l.length - 1 - i)).v) hs rfl (by kernel_rfl) .none rfl Try.isAgg205 Try.sizeOf205 ?_ (hv := Arcs_sub_sp (by omega) sp)
    refine .z 8 rfl zm ?_; refine .z 9 rfl zm ?_
    first | (refine .ixw 10 rfl hs Try.runUnderlying198 Try.sizeOf205 ?_; intro b24 o24 hc24) | refine .z 10 rfl (zixm Try.runUnderlying198 Try.sizeOf205) ?_
    refine .loads (i := 11) (vs := (ga L i).v) hs rfl (by kernel_rfl) .none rfl Try.isAgg205 Try.sizeOf205 ?_ (hv := Arcs_sub_sp (by omega) sp)
    first | (refine .ixw 12 rfl hs Try.runUnderlying198 Try.sizeOf205 ?_; intro b26 o26 hc26) | refine .z 12 rfl (zixm Try.runUnderlying198 Try.sizeOf205) ?_
    refine .e1 (i := 13) (by kernel_rfl) rfl rfl .none hs ?_
    refine .stores (vs := (ga L (l.length - 1 - i)).v) hs rfl rfl Try.sizeOf205 ?_ (by repeat constructor) (ble_Arcs_sp (by omega) sp) (setL_Arcs_sp (by omega) _ sp); intro w hs
    refine .go ?_
    refine .p (i := 14) rfl (by kernel_rfl) .none (q_ixOm (k := l.length - 1 - i) rfl rfl Try.runUnderlying198 Try.sizeOf205 (by omega) (by omega)) ?_
    refine .e1 (i := 15) (by kernel_rfl) rfl rfl .none hs ?_
    refine .stores (vs := (ga L i).v) hs rfl rfl Try.sizeOf205 ?_ (by repeat constructor) (ble_Arcs_sp (by simp; omega) sp) (setL_Arcs_sp (by simp; omega) _ sp); intro w hs
    refine .go ?_
    refine .done (by kernel_rfl) hs ?_
    refine nB (nT ?_)
    refine .region (.z zm (.z zadd (.z zm (.z zsub (.z zg (.z zg (.nil ?_)))))))
    refine nT ?_
    exact ⟨(i + 1, _), .cons rfl (.consI rfl (by push_cast; omega) (.cons rfl (.nil rfl rfl))), ⟨⟨by dsimp only; omega, h6.step (by omega)⟩, hs⟩, by dsimp only; omega⟩
  · refine .exit ?_
    refine xT (xT (xB ?_))
    rw [h6.done (by omega)] at hs
    exact Fin.end0 Try.results216 ⟨_, .inr ⟨b, l.length, cap, sp, rfl, rfl, by rw [Arcs_length]; simp, by rw [← h3]; simp [Arcs_length], h4⟩, hs⟩
end Go.Proofs.Ytiiokdeehlfeeaa

namespace Go.Proofs.Ytiiokdeehlfeeaa
open Go.MW
theorem bound_flow_rest_1_iter {H : Heap} {b1 bf bt bl cl : Nat} {s : Syst} {ts lf : List Int} {vl : Value} {sp : List Value} (hok : s.Ok) (hb : Row H b1 [.pointer (some ⟨bf, 0, none⟩)]) (hF : FlowH H bf s ts lf vl bt bl cl sp) (hlt : ts.length = s.lims.length) :
    ItA Try.prog 211 [.pointer (some ⟨b1, 0, none⟩)] H (resid s.arcs ts) := by
  intro l II Ix hmI hmX hy H0 σb0 σf w hle hI0 hs
  have hb0 : cellAt H0 b1 0 = some (.pointer (some ⟨bf, 0, none⟩)) := (hb.mono hle).at 0
  have hF0 := hF.mono hle
  have hsys := hF0.f.cells 0 [I s.many, vl]
  have hlen : s.arcs.length = ts.length := by simp [Syst.arcs, arcsOf_length, hlt]
  refine Cl.of Try.func211 rfl Try.ntmps211 (by simp) (args_cons (k := 0) rfl (args_cons (k := 1) rfl (args0))) ?_
  refine .regSeq ?_
  refine .o (.box hs rfl rfl ?_); intro b2 w hs
  refine .nil (.regSeq (.y hs (zld Try.isAgg175) (.z znc (.z (zfa fa_bound_flow_0) ?_))))
  refine .q hs (q_loadsR (vs := [I s.many, vl]) rfl Try.isAgg32 Try.sizeOf32 hsys) ?_
  refine .o (.call Try.call174 rfl (bound_steps_spec (s := s) hs hok ⟨vl, rfl, hF0.l⟩) ?_); rintro _ w ⟨H1, b8, hle1, rfl, hit, hs⟩
  refine .nil (.block ?_)
  refine .rangeFunc (gf := 202) (cap := [.pointer (some ⟨b8, 0, none⟩)]) (xs := s.arcs.map fun x : Arc => [Value.agg x.v.toArray]) (σb := .blk b2 [.func (.yield l) #[] #[]] :: σb0) (σf := σf) hs trivial rfl hit Try.call202 (by simp) rfl
    (I := fun k H' σb => ∃ σo, σb = .blk b2 [.func (.yield l) #[] #[]] :: σo ∧ HLe H0 H' ∧ II (preN s.arcs ts k) H' σo)
    (Ix := fun c H' σb => c = .ret ∧ ∃ σo, σb = .blk b2 [.func (.yield l) #[] #[]] :: σo ∧ HLe H0 H' ∧ Ix H' σo)
    (fun k _ _ σ g1 ⟨σo, g2, g3, g4⟩ => ⟨σo, g2, g3.trans g1, hmI _ _ _ _ g1 g4⟩) (fun c _ _ σ g1 ⟨g0, σo, g2, g3, g4⟩ => ⟨g0, σo, g2, g3.trans g1, hmX _ _ _ g1 g4⟩)
    ⟨σb0, rfl, hle1, by rw [preN_zero]; exact hmI _ _ _ _ hle1 hI0⟩ ?_ ?_ ?_
  · rintro l2 k hk H2 σb2 σf2 w hle2 ⟨σo, rfl, hle0, hIk⟩ hs ⟨rr, hrr⟩
    obtain ⟨x, hx⟩ := nth (l := s.arcs) (by simpa using hk)
    obtain ⟨c1, c2, c3, c4, c5, c6⟩ := hok.arcs.2 x (List.mem_of_getElem? hx)
    have hxk : (s.arcs.map fun x => [Value.agg x.v.toArray])[k] = [.agg x.v.toArray] := by rw [List.getElem_map]; rw [List.getElem?_eq_some_iff] at hx; obtain ⟨h1, h2⟩ := hx; rw [h2]
    rw [hxk]
    have hkt : k < ts.length := by rw [← hlen]; simpa using hk
    have hxl : x.l = (k : Int) := arcsOf_l hx
    obtain ⟨r1, r2, r3⟩ := resid_get (ts := ts) hx hkt
    refine .region ?_
    refine .o (.alloc hs Try.zeroValue205 rfl ?_); intro b3 w hs
    refine .o (.stores (vs := x.v) hs rfl rfl Try.sizeOf205 ?_); intro w hs
    refine .nil ?_
    refine nT ?_
    refine ⟨H2, .blk b3 x.v :: .blk b2 [.func (.yield l) #[] #[]] :: σo, HLe.refl _, hs, ?_⟩; rintro w σf2 - hs
    refine .block (.seq (.regSeq ?_))
    refine .y hs (zld Try.isAgg234) ?_
    refine .q hs (q_loads (vs := x.v) rfl Try.isAgg205 Try.sizeOf205) ?_
    have hyd := hy (preN s.arcs ts k) (by simpa using (List.getElem?_eq_some_iff.1 r1).1) H2 σo (.blk b3 x.v :: .blk b2 [.func (.yield l) #[] #[]] :: σf2) w (hle.trans hle0) hIk (St.deep (σ1 := σo) (St.deep (σ1 := .blk b3 x.v :: σo) (hs.perm (.swap _ _ _))))
    rw [map_at r1] at hyd
    refine .o (.yield (vs := [.agg x.v.toArray]) rfl rfl hyd ?_); rintro v12 w ⟨H3, σ3, hle3, hs, g3⟩
    obtain ⟨bb, rfl, gT, gF⟩ := yd_bool g3
    replace hs : St H3 w (.blk b3 x.v :: .blk b2 [.func (.yield l) #[] #[]] :: (σ3 ++ σf2)) := (St.shallow (σ1 := .blk b3 x.v :: σ3) (St.shallow (σ1 := σ3) hs)).perm (.swap _ _ _)
    refine .z znot (.nil ?_)
    refine (.cond rfl (fun hc13 => ?_) (fun hc13 => ?_))
    · refine .ret (rT (rB (?_)))
      exact ⟨H3, .blk b2 [.func (.yield l) #[] #[]] :: σ3, hle3, hs.tail, rfl, σ3, rfl, hle0.trans hle3, gF (by simpa using hc13)⟩
    · refine .skip ?_
      refine nT ?_
      refine .seq (.draw mix rfl hs ?_); intro w hs
      have hb3 : cellAt H3 b1 0 = some (.pointer (some ⟨bf, 0, none⟩)) := cellAt.mono hb0 (hle0.trans hle3)
      have hf3 : cellAt H3 bf 2 = some (.slice (some ⟨bt, 0, none⟩) ts.length ts.length) := ((hF0.mono (hle0.trans hle3)).f).at 2
      have ht3 : cellAt H3 bt k = some (I (gi ts k)) := ((hF0.mono (hle0.trans hle3)).t).at k (Is_gi hkt)
      have hI3 := gT (by simpa using hc13)
      refine .r (i := 0) hs rfl (by kernel_rfl) .none (q_loadR rfl Try.isAgg175 hb3) ?_
      refine .z 1 rfl znc ?_; refine .z 2 rfl (zfa fa_bound_flow_1) ?_; refine .y 3 rfl hs Try.isAgg22 ?_; refine .z 4 rfl (zfa fa_bound_step_3) ?_; refine .y 5 rfl hs Try.isAgg3 ?_
      refine .p (i := 6) rfl (by kernel_rfl) .none (q_ixO (k := k) rfl rfl Try.runUnderlying22 Try.sizeOf3 hxl hkt) ?_
      refine .r (i := 7) hs rfl (by kernel_rfl) .none (q_loadR rfl Try.isAgg3 ht3) ?_
      refine .z 8 rfl zgtr ?_; refine .z 9 rfl zm ?_
      refine .bifD (t' := 23) rfl (fun hb23 => ?_) (fun hb23 => ?_)
      · refine .y 10 rfl hs Try.isAgg234 ?_
        refine .z 11 rfl (zfa fa_bound_step_1) ?_; refine .y 12 rfl hs Try.isAgg3 ?_; refine .z 13 rfl (zfa fa_bound_step_0) ?_; refine .y 14 rfl hs Try.isAgg3 ?_; refine .z 15 rfl (zfa fa_bound_step_2) ?_; refine .y 16 rfl hs Try.isAgg3 ?_; refine .z 17 rfl zneg ?_; refine .z 18 rfl (zfa fa_bound_step_3) ?_; refine .y 19 rfl hs Try.isAgg3 ?_; refine .z 20 rfl (zbd [_, _, _, _] bld_bound_step) ?_
        refine .e1 (i := 21) (by kernel_rfl) rfl rfl (.some rfl rfl) hs ?_
        obtain ⟨r4, r5⟩ := r2 hb23
        have hyd := hy (preN s.arcs ts k + 1) (by simpa using (List.getElem?_eq_some_iff.1 r4).1) H3 σ3 (.blk b3 x.v :: .blk b2 [.func (.yield l) #[] #[]] :: σf2) w (hle.trans (hle0.trans hle3)) hI3 (St.deep (σ1 := σ3) (St.deep (σ1 := .blk b3 x.v :: σ3) (hs.perm (.swap _ _ _))))
        rw [map_at r4] at hyd
        refine .yield (vs := [.agg x.back.v.toArray]) rfl rfl hyd ?_; rintro v35 w ⟨H4, σ4, hle4, hs, g4⟩
        obtain ⟨bb4, rfl, gT4, gF4⟩ := yd_bool g4
        replace hs : St H4 w (.blk b3 x.v :: .blk b2 [.func (.yield l) #[] #[]] :: (σ4 ++ σf2)) := (St.shallow (σ1 := .blk b3 x.v :: σ4) (St.shallow (σ1 := σ4) hs)).perm (.swap _ _ _)
        refine .go ?_
        refine .z 22 rfl znot ?_; refine .z 23 rfl zpT ?_; refine .done (by kernel_rfl) hs ?_
        refine (.cond rfl (fun hc37 => ?_) (fun hc37 => ?_))
        · refine .ret (rB (?_))
          exact ⟨H4, .blk b2 [.func (.yield l) #[] #[]] :: σ4, hle3.trans hle4, hs.tail, rfl, σ4, rfl, hle0.trans (hle3.trans hle4), gF4 (by simpa using hc37)⟩
        · refine .skip ?_
          refine nB ?_
          exact ⟨H4, .blk b2 [.func (.yield l) #[] #[]] :: σ4, hle3.trans hle4, hs.tail, σ4, rfl, hle0.trans (hle3.trans hle4), by rw [r5]; exact gT4 (by simpa using hc37)⟩
      · refine .qF (i := 10) rfl (by kernel_rfl) rfl rfl ?_
        refine .qF (i := 11) rfl (by kernel_rfl) rfl rfl ?_
        refine .qF (i := 12) rfl (by kernel_rfl) rfl rfl ?_
        refine .qF (i := 13) rfl (by kernel_rfl) rfl rfl ?_
        refine .qF (i := 14) rfl (by kernel_rfl) rfl rfl ?_
        refine .qF (i := 15) rfl (by kernel_rfl) rfl rfl ?_
        refine .qF (i := 16) rfl (by kernel_rfl) rfl rfl ?_
        refine .qF (i := 17) rfl (by kernel_rfl) rfl rfl ?_
        refine .qF (i := 18) rfl (by kernel_rfl) rfl rfl ?_
        refine .qF (i := 19) rfl (by kernel_rfl) rfl rfl ?_
        refine .qF (i := 20) rfl (by kernel_rfl) rfl rfl ?_
        refine .qF (i := 21) rfl (by kernel_rfl) rfl rfl ?_
        refine .qF (i := 22) rfl (by kernel_rfl) rfl rfl ?_
        refine .z 23 rfl zpF ?_; refine .done (by kernel_rfl) hs ?_
        refine (.condF rfl rfl ?_)
        refine .skip ?_
        refine nB ?_
        exact ⟨H3, .blk b2 [.func (.yield l) #[] #[]] :: σ3, hle3, hs.tail, σ3, rfl, hle0.trans hle3, by rw [r3 hb23]; exact hI3⟩
  · rintro D H2 σb2 w hle2 ⟨σo, rfl, hle0, hIk⟩ hs
    refine nB ?_
    exact Fin.endD [D] [] hs.shallowD fun w hs => ⟨_, results0 Try.results211, H2, σo, hle0, hs, .inl (by simpa [preN_end hlen] using hIk)⟩
  · rintro D c H2 σb2 w hle2 ⟨rfl, σo, rfl, hle0, hx⟩ hs
    exact .ret (rB (Fin.retD [D] [] hs.shallowD fun w hs => ⟨_, results0 Try.results211, H2, σo, hle0, hs, .inr hx⟩))
theorem bound_flow_rest_spec {H : Heap} {w : World} {σ : List Ent} {bf bt bl cl : Nat} {s : Syst} {ts lf : List Int} {vl : Value} {sp : List Value} (hs : St H w σ) (hok : s.Ok) (hF : FlowH H bf s ts lf vl bt bl cl sp) (hlt : ts.length = s.lims.length) :
    Cl Try.prog 195 [.pointer (some ⟨bf, 0, none⟩)] w fun v w' => ∃ H1 b, HLe H H1 ∧ v = .func (.func 211) #[] #[.pointer (some ⟨b, 0, none⟩)] ∧ ItA Try.prog 211 [.pointer (some ⟨b, 0, none⟩)] H1 (resid s.arcs ts) ∧ St H1 w' σ := by
  refine Cl.of Try.func195 rfl Try.ntmps195 (by simp) (args_cons (k := 0) rfl (args0)) ?_
  refine .regSeq ?_
  refine .o (.box hs rfl rfl ?_); intro b1 w hs
  refine .z zg (.nil (.regSeq ?_))
  refine .q hs (q_makeFunc (f := []) (c := [_]) rfl rfl) ?_
  refine .z zg (.nil ?_)
  refine .ret (Fin.ret1 Try.results195 rfl ?_)
  obtain ⟨H1, g1, g2, hs⟩ := hs.publish .here
  exact ⟨H1, b1, g1, rfl, bound_flow_rest_1_iter hok g2 (hF.mono g1) hlt, hs⟩
theorem bound_flow_way_spec {H : Heap} {w : World} {σ : List Ent} {bf bt bl cl to : Nat} {s : Syst} {ts lf : List Int} {vl : Value} {sp : List Value} (hs : St H w σ) (hok : s.Ok) (hF : FlowH H bf s ts lf vl bt bl cl sp) (hlt : ts.length = s.lims.length) (hll : lf.length = s.n)
    (hD : ∃ p, Feas (resid s.arcs ts) p) (hto : to < s.n) (hpos : 0 < gi lf to) :
    Cl Try.prog 206 [.pointer (some ⟨bf, 0, none⟩), I to] w fun v w' => ∃ H1 p en, HLe H H1 ∧ OwnS 4 v (Arcs p) en ∧ St H1 w' (en :: σ) ∧ WayR s.n s.arcs ts lf p to := by
  obtain ⟨N, hN⟩ := Int.eq_ofNat_of_zero_le hok.m0
  have hN1 := hok.m1
  have hn : s.n = N + 1 := by simp [Syst.n, hN]
  have hoka := hok.arcs
  have hlen : s.arcs.length = ts.length := by simp [Syst.arcs, arcsOf_length, hlt]
  rw [hn] at hoka hll hto ⊢
  obtain ⟨D, hg⟩ := resid_WG (by omega) (by omega) hoka hlen hD
  have hf0 : cellAt H bf 0 = some (I (N : Int)) := by have := hF.f.at 0 (v := I s.many); rwa [hN] at this
  have hf3 : cellAt H bf 3 = some (.slice (some ⟨bl, 0, none⟩) lf.length cl) := hF.f.at 3
  refine Cl.of Try.func206 rfl Try.ntmps206 (by simp) (args_cons (k := 0) rfl (args_cons (k := 1) rfl (args0))) ?_
  refine .regSeq ?_
  refine .o (.box hs rfl rfl ?_); intro b2 w hs
  refine .z zg (.nil (.regSeq ?_))
  refine .o (.buildSlice (cells := [_]) hs bls_sl_int_1 rfl rfl ?_); intro b13 w hs
  refine .y hs (zld Try.isAgg175) (.z znc (.z (zfa fa_bound_flow_0) (.z (zfa fa_api_System_0) (.y hs (zld Try.isAgg3) (.z zadd ?_)))))
  refine .o (.call Try.call192 rfl (slices_Repeat_int (z := far) (c := N + 1) hs .here (by omega) (by omega)) ?_); rintro _ w ⟨bc, rfl, hs⟩
  refine .o (.alloc hs Try.zeroValue22 rfl ?_); intro b5 w hs
  refine .o (.store hs rfl rfl Try.sizeOf22 ?_); intro w hs
  refine .nil (.regSeq (.y hs (zld Try.isAgg175) (.z znc (.z (zfa fa_bound_flow_0) (.z (zfa fa_api_System_0) (.y hs (zld Try.isAgg3) (.z zadd ?_)))))))
  refine .o (.makeA (N + 1) hs rfl rfl Try.runUnderlying198 Try.typeInfo205 rfl Try.sizeOf205 Try.zeroValue205 (by omega) ?_); intro b27 w hs
  refine .o (.alloc hs Try.zeroValue198 rfl ?_); intro b6 w hs
  refine .o (.store hs rfl rfl Try.sizeOf198 ?_); intro w hs
  refine .nil (.seq (.regSeq (.y hs (zld Try.isAgg175) (.z znc (.z (zfa fa_bound_flow_2) (.y hs (zld Try.isAgg22) (.z (zlen Try.runUnderlying22) (.z zm (.nil ?_)))))))))
  refine .for (N := lf.length) (J := fun k fr w => fr = [(31, .slice (some ⟨bl, 0, none⟩) lf.length cl), (5, .pointer (some ⟨b5, 0, none⟩)), (6, .pointer (some ⟨b6, 0, none⟩)), (2, .pointer (some ⟨b2, 0, none⟩)), (1, I to)] ∧ ∃ st, WInit (N + 1) lf k st ∧   St H w (.blk b6 [.slice (some ⟨b27, 0, none⟩) (N + 1) (N + 1)] :: .blk b27 (Arcs st.by_) :: .blk b5 [.slice (some ⟨bc, 0, none⟩) (N + 1) (N + 1)] :: .blk bc (Is st.cost) :: .blk b2 [.pointer (some ⟨bf, 0, none⟩)] :: σ)) (by omega) ?_ ?_ ?_
  · exact .mk ⟨rfl, _, .start _ _, hs.sub (by repeat (first | exact Sub.refl _ | constructor | apply Sub.weaken))⟩
  · rintro k fr w hk ⟨rfl, st, hI, hs⟩
    have hck : cellAt H bl k = some (I (gi lf k)) := hF.d.at k (Is_get (gi_get hk) sp)
    have hlc := hI.lc
    have hlb := hI.lb
    have hkb : k < st.by_.length := by omega
    refine .block (.regSeq (.z zm ?_))
    first | (refine .ixv hs Try.runUnderlying22 Try.sizeOf3 ?_; intro b36 o36 hc36) | refine .z (zix Try.runUnderlying22 Try.sizeOf3) ?_
    refine .q hs (q_loadR rfl Try.isAgg3 hck) ?_
    refine .z zg (.z zg (.nil (.regSeq (.z zm (.z zlss (.nil ?_))))))
    refine (.condD rfl (fun hc39 => ?_) (fun hc39 => ?_))
    · refine .regSeq (.y hs (zld Try.isAgg22) (.z zm ?_))
      first | (refine .ixv hs Try.runUnderlying22 Try.sizeOf3 ?_; intro b42 o42 hc42) | refine .z (zix Try.runUnderlying22 Try.sizeOf3) ?_
      refine .o (.store hs rfl rfl Try.sizeOf3 ?_); intro w hs
      refine .nil (.region (.y hs (zld Try.isAgg198) (.z zm ?_)))
      first | (refine .ixw hs Try.runUnderlying198 Try.sizeOf205 ?_; intro b45 o45 hc45) | refine .z (zixm Try.runUnderlying198 Try.sizeOf205) ?_
      refine .z (zfa fa_bound_step_3) ?_
      refine .o (.store hs rfl rfl Try.sizeOf3 ?_ (by repeat constructor) (blt_Arcs hkb (by omega)) (Arcs_set3 hkb _)); intro w hs
      refine .nil ?_
      refine nB (nT ?_)
      exact .mk ⟨rfl, _, hI.take (by omega) hc39, hs⟩
    · refine .skip ?_
      refine nB (nT ?_)
      exact .mk ⟨rfl, _, hI.skip hc39, hs⟩
  · rintro fr w ⟨rfl, st0, hI0, hs⟩
    rw [hll] at hI0
    have hW0 := hI0.inv hg
    refine nT ?_
    refine .seq (.regSeq ?_)
    refine .o (.alloc hs Try.zeroValue4 rfl ?_); intro b9 w hs
    refine .o (.store hs rfl rfl Try.sizeOf4 ?_); intro w hs
    refine .nil (.block ?_)
    refine .loop (fun p : Nat × List Nat × Heap × BS × Bool => ⟨141, marks p.2.1, [(9, .pointer (some ⟨p.1, 0, none⟩)), (5, .pointer (some ⟨b5, 0, none⟩)), (6, .pointer (some ⟨b6, 0, none⟩)), (2, .pointer (some ⟨b2, 0, none⟩)), (1, I to)]⟩)
      (fun p w => HLe H p.2.2.1 ∧ (∃ j, WInv (N + 1) (resid s.arcs ts) (fun v => gi lf v < 0) D j p.2.2.2.2 p.2.2.2.1 ∧ (p.2.2.2.2 = false → j = (resid s.arcs ts).length)) ∧
        St p.2.2.1 w (.blk p.1 [.bool p.2.2.2.2] :: .blk b6 [.slice (some ⟨b27, 0, none⟩) (N + 1) (N + 1)] :: .blk b27 (Arcs p.2.2.2.1.by_) :: .blk b5 [.slice (some ⟨bc, 0, none⟩) (N + 1) (N + 1)] :: .blk bc (Is p.2.2.2.1.cost) :: .blk b2 [.pointer (some ⟨bf, 0, none⟩)] :: (mes p.2.1 ++ σ)))
      (fun p => 2 * WM (N + 1) D p.2.2.2.1 + (if p.2.2.2.2 = true then 1 else 0)) (b9, [], H, st0, true) (by repeat (first | exact .nil rfl rfl | refine .cons rfl ?_)) ⟨HLe.refl _, ⟨0, hW0, fun h => by cases h⟩, hs⟩ ?_
    rintro ⟨b9, Ds, H1, st, ag⟩ w ⟨hle1, ⟨j, hW, hj⟩, hs⟩
    dsimp only at hle1 hW hj hs ⊢
    have hlc := hW.lc
    have hlb := hW.lb
    refine .seq (.regSeq (.y hs (zld Try.isAgg4) (.nil ?_)))
    refine (.cond rfl (fun hc48 => ?_) (fun hc48 => ?_))
    · refine .skip ?_
      refine nT ?_
      refine .seq (.block (.regSeq ?_))
      subst hc48
      refine .o (.store hs rfl rfl Try.sizeOf4 ?_); intro w hs
      refine .nil (.regSeq (.y hs (zld Try.isAgg175) ?_))
      refine .o (.call Try.call195 rfl (bound_flow_rest_spec hs hok (hF.mono hle1) hlt) ?_); rintro _ w ⟨H2, b50, hle2, rfl, hit, hs⟩
      refine .nil (.block ?_)
      refine .rangeFunc (gf := 211) (cap := [.pointer (some ⟨b50, 0, none⟩)]) (xs := (resid s.arcs ts).map fun x : Arc => [Value.agg x.v.toArray])
        (σb := [.blk b9 [.bool false], .blk b6 [.slice (some ⟨b27, 0, none⟩) (N + 1) (N + 1)], .blk b27 (Arcs st.by_), .blk b5 [.slice (some ⟨bc, 0, none⟩) (N + 1) (N + 1)], .blk bc (Is st.cost), .blk b2 [.pointer (some ⟨bf, 0, none⟩)]]) (σf := mes Ds ++ σ) hs trivial rfl hit Try.call211 (by simp) rfl
        (I := fun k H' σb => HLe H2 H' ∧ ∃ st' ag, σb = [.blk b9 [.bool ag], .blk b6 [.slice (some ⟨b27, 0, none⟩) (N + 1) (N + 1)], .blk b27 (Arcs st'.by_), .blk b5 [.slice (some ⟨bc, 0, none⟩) (N + 1) (N + 1)], .blk bc (Is st'.cost), .blk b2 [.pointer (some ⟨bf, 0, none⟩)]] ∧
          WInv (N + 1) (resid s.arcs ts) (fun v => gi lf v < 0) D k ag st' ∧ WM (N + 1) D st' ≤ WM (N + 1) D st ∧ (ag = true → WM (N + 1) D st' < WM (N + 1) D st)) (Ix := fun _ _ _ => False)
        (by rintro k _ _ σ g1 ⟨g2, g3⟩; exact ⟨g2.trans g1, g3⟩) (fun _ _ _ _ _ h => h) ⟨HLe.refl _, st, false, rfl, hW.next, Nat.le_refl _, fun h => by cases h⟩ ?_ ?_ (fun D c H' σb w _ h _ => h.elim)
      · rintro l k hk H3 σb3 σf3 w hle3 ⟨hle23, st', ag, rfl, hW', hm1, hm2⟩ hs ⟨rr, hrr⟩
        obtain ⟨x, hx⟩ := nth (l := resid s.arcs ts) (by simpa using hk)
        obtain ⟨c1, c2, c3, c4, c5, c6⟩ := hg.ok x (List.mem_of_getElem? hx)
        rw [map_at hx]
        have hlc' := hW'.lc
        have hlb' := hW'.lb
        have lo1 := hW'.lo x.f c1
        have lo2 := hg.d1 x.f c1
        have hx3 : cellAt H3 bl x.t = some (I (gi lf x.t)) := ((hF.mono (hle1.trans (hle2.trans hle3))).d).at x.t (Is_get (gi_get (by omega)) sp)
        have hf33 : cellAt H3 bf 3 = some (.slice (some ⟨bl, 0, none⟩) lf.length cl) := cellAt.mono hf3 (hle1.trans (hle2.trans hle3))
        refine .region ?_
        refine .o (.alloc hs Try.zeroValue205 rfl ?_); intro b10 w hs
        refine .o (.stores (vs := x.v) hs rfl rfl Try.sizeOf205 ?_); intro w hs
        refine .nil ?_
        refine nT ?_
        refine ⟨H3, [.blk b10 x.v, .blk b9 [.bool ag], .blk b6 [.slice (some ⟨b27, 0, none⟩) (N + 1) (N + 1)], .blk b27 (Arcs st'.by_), .blk b5 [.slice (some ⟨bc, 0, none⟩) (N + 1) (N + 1)], .blk bc (Is st'.cost), .blk b2 [.pointer (some ⟨bf, 0, none⟩)]], HLe.refl _, hs, ?_⟩; rintro w σf4 - hs
        refine .block ?_
        refine .seq (.draw mix rfl hs ?_); intro w hs
        refine .y 0 rfl hs Try.isAgg22 ?_; refine .z 1 rfl (zfa fa_bound_step_0) ?_; refine .y 2 rfl hs Try.isAgg3 ?_
        first | (refine .ixv 3 rfl hs Try.runUnderlying22 Try.sizeOf3 ?_; intro b55 o55 hc55) | refine .z 3 rfl (zix Try.runUnderlying22 Try.sizeOf3) ?_
        refine .y 4 rfl hs Try.isAgg3 ?_; refine .z 5 rfl zlss ?_; refine .z 6 rfl zm ?_
        refine .bifD (t' := 58) rfl (fun hb58 => ?_) (fun hb58 => ?_)
        · refine .y 7 rfl hs Try.isAgg22 ?_; refine .z 8 rfl (zfa fa_bound_step_0) ?_; refine .y 9 rfl hs Try.isAgg3 ?_
          first | (refine .ixv 10 rfl hs Try.runUnderlying22 Try.sizeOf3 ?_; intro b62 o62 hc62) | refine .z 10 rfl (zix Try.runUnderlying22 Try.sizeOf3) ?_
          refine .y 11 rfl hs Try.isAgg3 ?_; refine .z 12 rfl (zfa fa_bound_step_2) ?_; refine .y 13 rfl hs Try.isAgg3 ?_; refine .z 14 rfl zadd ?_; refine .y 15 rfl hs Try.isAgg22 ?_; refine .z 16 rfl (zfa fa_bound_step_1) ?_; refine .y 17 rfl hs Try.isAgg3 ?_
          first | (refine .ixv 18 rfl hs Try.runUnderlying22 Try.sizeOf3 ?_; intro b70 o70 hc70) | refine .z 18 rfl (zix Try.runUnderlying22 Try.sizeOf3) ?_
          refine .y 19 rfl hs Try.isAgg3 ?_; refine .z 20 rfl zlss ?_; refine .z 21 rfl zpT ?_; refine .z 22 rfl zm ?_
          refine .bifD (t' := 74) rfl (fun hb74 => ?_) (fun hb74 => ?_)
          · refine .y 23 rfl hs Try.isAgg175 ?_; refine .z 24 rfl znc ?_; refine .z 25 rfl (zfa fa_bound_flow_2) ?_; refine .y 26 rfl hs Try.isAgg22 ?_; refine .z 27 rfl (zfa fa_bound_step_1) ?_; refine .y 28 rfl hs Try.isAgg3 ?_
            first | (refine .ixv 29 rfl hs Try.runUnderlying22 Try.sizeOf3 ?_; intro b81 o81 hc81) | refine .z 29 rfl (zix Try.runUnderlying22 Try.sizeOf3) ?_
            refine .y 30 rfl hs Try.isAgg3 ?_; refine .z 31 rfl zgeq ?_; refine .z 32 rfl zm ?_
            refine .bifD (t' := 84) rfl (fun hb84 => ?_) (fun hb84 => ?_)
            · refine .qF (i := 33) rfl (by kernel_rfl) rfl rfl ?_
              refine .qF (i := 34) rfl (by kernel_rfl) rfl rfl ?_
              refine .qF (i := 35) rfl (by kernel_rfl) rfl rfl ?_
              refine .qF (i := 36) rfl (by kernel_rfl) rfl rfl ?_
              refine .qF (i := 37) rfl (by kernel_rfl) rfl rfl ?_
              refine .qF (i := 38) rfl (by kernel_rfl) rfl rfl ?_
              refine .qF (i := 39) rfl (by kernel_rfl) rfl rfl ?_
              refine .qF (i := 40) rfl (by kernel_rfl) rfl rfl ?_
              refine .qF (i := 41) rfl (by kernel_rfl) rfl rfl ?_
              refine .z 42 rfl zpT ?_; refine .z 43 rfl zpT ?_; refine .done (by kernel_rfl) hs ?_
              refine (.condT rfl rfl ?_)
              refine .draw mix rfl hs ?_; intro w hs
              refine .y 0 rfl hs Try.isAgg22 ?_; refine .z 1 rfl (zfa fa_bound_step_1) ?_; refine .y 2 rfl hs Try.isAgg3 ?_; refine .y 3 rfl hs Try.isAgg198 ?_; refine .z 4 rfl (zfa fa_bound_step_1) ?_; refine .y 5 rfl hs Try.isAgg3 ?_; refine .y 6 rfl hs Try.isAgg22 ?_; refine .z 7 rfl (zfa fa_bound_step_0) ?_; refine .y 8 rfl hs Try.isAgg3 ?_
              first | (refine .ixv 9 rfl hs Try.runUnderlying22 Try.sizeOf3 ?_; intro b105 o105 hc105) | refine .z 9 rfl (zix Try.runUnderlying22 Try.sizeOf3) ?_
              refine .y 10 rfl hs Try.isAgg3 ?_; refine .z 11 rfl (zfa fa_bound_step_2) ?_; refine .y 12 rfl hs Try.isAgg3 ?_; refine .z 13 rfl zadd ?_
              refine .loads (i := 14) (vs := x.v) hs rfl (by kernel_rfl) .none rfl Try.isAgg205 Try.sizeOf205 ?_
              first | (refine .ixv 15 rfl hs Try.runUnderlying22 Try.sizeOf3 ?_; intro b111 o111 hc111) | refine .z 15 rfl (zix Try.runUnderlying22 Try.sizeOf3) ?_
              refine .e1 (i := 16) (by kernel_rfl) rfl rfl .none hs ?_
              refine .store hs rfl rfl Try.sizeOf3 ?_; intro w hs
              refine .go ?_
              first | (refine .ixw 17 rfl hs Try.runUnderlying198 Try.sizeOf205 ?_; intro b112 o112 hc112) | refine .z 17 rfl (zixm Try.runUnderlying198 Try.sizeOf205) ?_
              refine .e1 (i := 18) (by kernel_rfl) rfl rfl .none hs ?_
              refine .stores (vs := x.v) hs rfl rfl Try.sizeOf205 ?_; intro w hs
              refine .go ?_
              refine .e1 (i := 19) (by kernel_rfl) rfl rfl .none hs ?_
              refine .store hs rfl rfl Try.sizeOf4 ?_; intro w hs
              refine .go ?_
              refine .done (by kernel_rfl) hs ?_
              refine nB ?_
              have := hW'.less hg hx hb58 hb74
              exact ⟨H3, _, HLe.refl _, hs.tail, hle23, st'.rlx x, true, rfl, hW'.relax hg hx hb58 hb74, by omega, fun _ => by omega⟩
            · refine .y 33 rfl hs Try.isAgg22 ?_; refine .z 34 rfl (zfa fa_bound_step_0) ?_; refine .y 35 rfl hs Try.isAgg3 ?_
              first | (refine .ixv 36 rfl hs Try.runUnderlying22 Try.sizeOf3 ?_; intro b88 o88 hc88) | refine .z 36 rfl (zix Try.runUnderlying22 Try.sizeOf3) ?_
              refine .y 37 rfl hs Try.isAgg3 ?_; refine .z 38 rfl (zfa fa_bound_step_2) ?_; refine .y 39 rfl hs Try.isAgg3 ?_; refine .z 40 rfl zadd ?_; refine .z 41 rfl zlss ?_; refine .z 42 rfl zpF ?_; refine .z 43 rfl zpT ?_; refine .done (by kernel_rfl) hs ?_
              refine (.condD rfl (fun hc95 => ?_) (fun hc95 => ?_))
              · refine .draw mix rfl hs ?_; intro w hs
                refine .y 0 rfl hs Try.isAgg22 ?_; refine .z 1 rfl (zfa fa_bound_step_1) ?_; refine .y 2 rfl hs Try.isAgg3 ?_; refine .y 3 rfl hs Try.isAgg198 ?_; refine .z 4 rfl (zfa fa_bound_step_1) ?_; refine .y 5 rfl hs Try.isAgg3 ?_; refine .y 6 rfl hs Try.isAgg22 ?_; refine .z 7 rfl (zfa fa_bound_step_0) ?_; refine .y 8 rfl hs Try.isAgg3 ?_
                first | (refine .ixv 9 rfl hs Try.runUnderlying22 Try.sizeOf3 ?_; intro b105 o105 hc105) | refine .z 9 rfl (zix Try.runUnderlying22 Try.sizeOf3) ?_
                refine .y 10 rfl hs Try.isAgg3 ?_; refine .z 11 rfl (zfa fa_bound_step_2) ?_; refine .y 12 rfl hs Try.isAgg3 ?_; refine .z 13 rfl zadd ?_
                refine .loads (i := 14) (vs := x.v) hs rfl (by kernel_rfl) .none rfl Try.isAgg205 Try.sizeOf205 ?_
                first | (refine .ixv 15 rfl hs Try.runUnderlying22 Try.sizeOf3 ?_; intro b111 o111 hc111) | refine .z 15 rfl (zix Try.runUnderlying22 Try.sizeOf3) ?_
                refine .e1 (i := 16) (by kernel_rfl) rfl rfl .none hs ?_
                refine .store hs rfl rfl Try.sizeOf3 ?_; intro w hs
                refine .go ?_
                first | (refine .ixw 17 rfl hs Try.runUnderlying198 Try.sizeOf205 ?_; intro b112 o112 hc112) | refine .z 17 rfl (zixm Try.runUnderlying198 Try.sizeOf205) ?_
                refine .e1 (i := 18) (by kernel_rfl) rfl rfl .none hs ?_
                refine .stores (vs := x.v) hs rfl rfl Try.sizeOf205 ?_; intro w hs
                refine .go ?_
                refine .e1 (i := 19) (by kernel_rfl) rfl rfl .none hs ?_
                refine .store hs rfl rfl Try.sizeOf4 ?_; intro w hs
                refine .go ?_
                refine .done (by kernel_rfl) hs ?_
                refine nB ?_
                have := hW'.less hg hx hb58 hb74
                exact ⟨H3, _, HLe.refl _, hs.tail, hle23, st'.rlx x, true, rfl, hW'.relax hg hx hb58 hb74, by omega, fun _ => by omega⟩
              · refine .skip ?_
                refine nB ?_
                have := hW'.src x.t c2 (by omega)
                omega
          · refine .qF (i := 23) rfl (by kernel_rfl) rfl rfl ?_
            refine .qF (i := 24) rfl (by kernel_rfl) rfl rfl ?_
            refine .qF (i := 25) rfl (by kernel_rfl) rfl rfl ?_
            refine .qF (i := 26) rfl (by kernel_rfl) rfl rfl ?_
            refine .qF (i := 27) rfl (by kernel_rfl) rfl rfl ?_
            refine .qF (i := 28) rfl (by kernel_rfl) rfl rfl ?_
            refine .qF (i := 29) rfl (by kernel_rfl) rfl rfl ?_
            refine .qF (i := 30) rfl (by kernel_rfl) rfl rfl ?_
            refine .qF (i := 31) rfl (by kernel_rfl) rfl rfl ?_
            refine .qF (i := 32) rfl (by kernel_rfl) rfl rfl ?_
            refine .qF (i := 33) rfl (by kernel_rfl) rfl rfl ?_
            refine .qF (i := 34) rfl (by kernel_rfl) rfl rfl ?_
            refine .qF (i := 35) rfl (by kernel_rfl) rfl rfl ?_
            refine .qF (i := 36) rfl (by kernel_rfl) rfl rfl ?_
            refine .qF (i := 37) rfl (by kernel_rfl) rfl rfl ?_
            refine .qF (i := 38) rfl (by kernel_rfl) rfl rfl ?_
            refine .qF (i := 39) rfl (by kernel_rfl) rfl rfl ?_
            refine .qF (i := 40) rfl (by kernel_rfl) rfl rfl ?_
            refine .qF (i := 41) rfl (by kernel_rfl) rfl rfl ?_
            refine .qF (i := 42) rfl (by kernel_rfl) rfl rfl ?_
            refine .z 43 rfl zpF ?_; refine .done (by kernel_rfl) hs ?_
            refine (.condF rfl rfl ?_)
            refine .skip ?_
            refine nB ?_
            exact ⟨H3, _, HLe.refl _, hs.tail, hle23, st', ag, rfl, hW'.skip hx (fun h => hb74 h.2), hm1, hm2⟩
        · refine .qF (i := 7) rfl (by kernel_rfl) rfl rfl ?_
          refine .qF (i := 8) rfl (by kernel_rfl) rfl rfl ?_
          refine .qF (i := 9) rfl (by kernel_rfl) rfl rfl ?_
          refine .qF (i := 10) rfl (by kernel_rfl) rfl rfl ?_
          refine .qF (i := 11) rfl (by kernel_rfl) rfl rfl ?_
          refine .qF (i := 12) rfl (by kernel_rfl) rfl rfl ?_
          refine .qF (i := 13) rfl (by kernel_rfl) rfl rfl ?_
          refine .qF (i := 14) rfl (by kernel_rfl) rfl rfl ?_
          refine .qF (i := 15) rfl (by kernel_rfl) rfl rfl ?_
          refine .qF (i := 16) rfl (by kernel_rfl) rfl rfl ?_
          refine .qF (i := 17) rfl (by kernel_rfl) rfl rfl ?_
          refine .qF (i := 18) rfl (by kernel_rfl) rfl rfl ?_
          refine .qF (i := 19) rfl (by kernel_rfl) rfl rfl ?_
          refine .qF (i := 20) rfl (by kernel_rfl) rfl rfl ?_
          refine .z 21 rfl zpF ?_; refine .z 22 rfl zm ?_
          refine .qF (i := 23) rfl (by kernel_rfl) rfl rfl ?_
          refine .qF (i := 24) rfl (by kernel_rfl) rfl rfl ?_
          refine .qF (i := 25) rfl (by kernel_rfl) rfl rfl ?_
          refine .qF (i := 26) rfl (by kernel_rfl) rfl rfl ?_
          refine .qF (i := 27) rfl (by kernel_rfl) rfl rfl ?_
          refine .qF (i := 28) rfl (by kernel_rfl) rfl rfl ?_
          refine .qF (i := 29) rfl (by kernel_rfl) rfl rfl ?_
          refine .qF (i := 30) rfl (by kernel_rfl) rfl rfl ?_
          refine .qF (i := 31) rfl (by kernel_rfl) rfl rfl ?_
          refine .qF (i := 32) rfl (by kernel_rfl) rfl rfl ?_
          refine .qF (i := 33) rfl (by kernel_rfl) rfl rfl ?_
          refine .qF (i := 34) rfl (by kernel_rfl) rfl rfl ?_
          refine .qF (i := 35) rfl (by kernel_rfl) rfl rfl ?_
          refine .qF (i := 36) rfl (by kernel_rfl) rfl rfl ?_
          refine .qF (i := 37) rfl (by kernel_rfl) rfl rfl ?_
          refine .qF (i := 38) rfl (by kernel_rfl) rfl rfl ?_
          refine .qF (i := 39) rfl (by kernel_rfl) rfl rfl ?_
          refine .qF (i := 40) rfl (by kernel_rfl) rfl rfl ?_
          refine .qF (i := 41) rfl (by kernel_rfl) rfl rfl ?_
          refine .qF (i := 42) rfl (by kernel_rfl) rfl rfl ?_
          refine .z 43 rfl zpF ?_; refine .done (by kernel_rfl) hs ?_
          refine (.condF rfl rfl ?_)
          refine .skip ?_
          refine nB ?_
          exact ⟨H3, _, HLe.refl _, hs.tail, hle23, st', ag, rfl, hW'.skip hx (fun h => hb58 h.1), hm1, hm2⟩
      · rintro D3 H3 σb3 w hle3 ⟨hle23, st', ag, rfl, hW', hm1, hm2⟩ hs
        replace hs : St H3 w (.blk b9 [.bool ag] :: .blk b6 [.slice (some ⟨b27, 0, none⟩) (N + 1) (N + 1)] :: .blk b27 (Arcs st'.by_) :: .blk b5 [.slice (some ⟨bc, 0, none⟩) (N + 1) (N + 1)] :: .blk bc (Is st'.cost) :: .blk b2 [.pointer (some ⟨bf, 0, none⟩)] :: (mes (D3 :: Ds) ++ σ)) := St.deep (σ1 := [_, _, _, _, _, _]) hs
        rw [List.length_map] at hW'
        refine nB (nB (nT ?_))
        refine .regSeq (.y hs (zld Try.isAgg4) (.nil (.region ?_)))
        refine .o (.alloc hs Try.zeroValue4 rfl ?_); intro b9 w hs
        refine .o (.store hs rfl rfl Try.sizeOf4 ?_); intro w hs
        refine .nil ?_
        refine nT ?_
        exact ⟨(b9, D3 :: Ds, H3, st', ag), by repeat (first | exact .nil rfl rfl | refine .cons rfl ?_), ⟨hle1.trans (hle2.trans hle3), ⟨_, hW', fun _ => rfl⟩, hs.sub (by repeat (first | exact Sub.refl _ | constructor | apply Sub.weaken))⟩, by
            dsimp only
            cases ag with
            | false => simp; omega
            | true => have := hm2 rfl; simp; omega⟩
    · refine .exit ?_
      refine xT (xT (xB (nT ?_)))
      refine .seq (.regSeq ?_)
      subst hc48
      obtain rfl := hj rfl
      refine .y hs (zld Try.isAgg22) (.z zm ?_)
      first | (refine .ixv hs Try.runUnderlying22 Try.sizeOf3 ?_; intro b116 o116 hc116) | refine .z (zix Try.runUnderlying22 Try.sizeOf3) ?_
      refine .y hs (zld Try.isAgg3) (.z zeql (.nil ?_))
      refine (.condD rfl (fun hc118 => ?_) (fun hc118 => ?_))
      · refine .regSeq (.z zg (.nil ?_))
        refine .ret (rT (?_))
        refine Fin.retD Ds [_, _, _, _, _, _] hs fun w hs => ⟨_, results1 Try.results206 rfl, H1, [], .nul, hle1, .nil 4 none, (hs.sub (by repeat (first | exact Sub.refl _ | constructor | apply Sub.weaken))).nul, hW.none hg hc118⟩
      · refine .skip ?_
        refine nT ?_
        refine .regSeq (.z zg (.nil (.seq (.regSeq (.z zm (.z zg (.nil (.block ?_))))))))
        have hreach : gi st.cost to < far := by have := hW.top to hto; have e : far = 1152921504606846976 := rfl; omega
        obtain ⟨kk, cc, u, hbk, hroot, hkn, hk0, hcl, hway⟩ := hW.back hg hto hreach hpos
        refine .loop (fun p : Nat × Nat × Value × Ent => ⟨141, marks Ds, [(11, p.2.2.1), (12, I p.2.1), (6, .pointer (some ⟨b6, 0, none⟩))]⟩)
          (fun p w => p.1 ≤ kk ∧ (p.2.1 < N + 1 ∧ gi st.cost p.2.1 < far) ∧ OwnS 4 p.2.2.1 (Arcs (trail st.by_ to p.1)) p.2.2.2 ∧ (∃ d, Back st.by_ to p.1 d p.2.1) ∧ (∃ d, Back st.by_ p.2.1 (kk - p.1) d u) ∧
            St H1 w (p.2.2.2 :: .blk b9 [.bool false] :: .blk b6 [.slice (some ⟨b27, 0, none⟩) (N + 1) (N + 1)] :: .blk b27 (Arcs st.by_) :: .blk b5 [.slice (some ⟨bc, 0, none⟩) (N + 1) (N + 1)] :: .blk bc (Is st.cost) :: .blk b2 [.pointer (some ⟨bf, 0, none⟩)] :: (mes Ds ++ σ)))
          (fun p => kk - p.1) (0, to, .slice none 0 0, .nul) (by repeat (first | exact .nil rfl rfl | refine .cons rfl ?_)) ⟨Nat.zero_le _, ⟨hto, hreach⟩, .nil 4 none, ⟨0, .nil⟩, ⟨cc, hbk⟩, hs.nul⟩ ?_
        rintro ⟨i, v, v11, en⟩ w ⟨hik, ⟨hv1, hv2⟩, hO, ⟨d1, hb1⟩, ⟨d2, hb2⟩, hs⟩
        dsimp only at hik hv1 hv2 hO hb1 hb2 hs ⊢
        have hvb : v < st.by_.length := by omega
        refine .seq (.regSeq (.y hs (zld Try.isAgg198) (.z zm ?_)))
        first | (refine .ixw hs Try.runUnderlying198 Try.sizeOf205 ?_; intro b122 o122 hc122) | refine .z (zixm Try.runUnderlying198 Try.sizeOf205) ?_
        refine .z (zfa fa_bound_step_3) ?_
        refine .q hs (q_load rfl Try.isAgg3 (hv := (Arcs_get hvb (j := 3) (by omega)).trans rfl)) ?_
        refine .z zgeq (.nil ?_)
        refine (.condD rfl (fun hc125 => ?_) (fun hc125 => ?_))
        · refine .skip ?_
          refine nT ?_
          refine .seq (.block (.region (.z zm (.y hs (zld Try.isAgg198) (.z zm ?_)))))
          first | (refine .ixw hs Try.runUnderlying198 Try.sizeOf205 ?_; intro b134 o134 hc134) | refine .z (zixm Try.runUnderlying198 Try.sizeOf205) ?_
          refine .q hs (q_loads (vs := (ga st.by_ v).v) rfl Try.isAgg205 Try.sizeOf205 (hv := Arcs_sub hvb)) ?_
          refine .o (.buildSlice (cells := (ga st.by_ v).v) hs bls_sl_bound_step_1 rfl rfl ?_); intro b136 w hs
          refine .o (.append (ys := (ga st.by_ v).v) hs app_sl_bound_step_bound_step rfl rfl hO (.own .here rfl rfl) (by simp [Arc.v, Value.oneCell']) (fun l h => by rw [Arcs_length, trail_length] at h; omega) ?_); intro v137 en137 w hO2 hs
          refine .z zg (.nil ?_)
          refine nB (nT ?_)
          refine .region (.y hs (zld Try.isAgg198) (.z zm ?_))
          first | (refine .ixw hs Try.runUnderlying198 Try.sizeOf205 ?_; intro b128 o128 hc128) | refine .z (zixm Try.runUnderlying198 Try.sizeOf205) ?_
          refine .z (zfa fa_bound_step_0) ?_
          refine .q hs (q_load rfl Try.isAgg3 (hv := (Arcs_get hvb (j := 0) (by omega)).trans rfl)) ?_
          refine .z zg (.nil ?_)
          refine nT ?_
          obtain ⟨g1, g2⟩ := hcl v hv1 hv2 hc125
          obtain ⟨m, hm⟩ : ∃ m, kk - i = m + 1 := by
            refine ⟨kk - i - 1, ?_⟩
            rcases Nat.lt_or_ge i kk with h | h
            · omega
            · obtain e : kk - i = 0 := by omega
              rw [e] at hb2
              cases hb2
              omega
          rw [hm] at hb2
          obtain ⟨d3, hb3⟩ : ∃ d, Back st.by_ (ga st.by_ v).f m d u := by cases hb2 with | cons _ t => exact ⟨_, t⟩
          rw [← Arcs_snoc, ← trail_succ hb1] at hO2
          exact ⟨(i + 1, (ga st.by_ v).f, v137, en137), by repeat (first | exact .nil rfl rfl | refine .cons rfl ?_), ⟨by dsimp only; omega, ⟨g1, g2⟩, hO2, ⟨_, hb1.trans (.cons hc125 .nil)⟩, ⟨d3, by rw [show kk - (i + 1) = m by omega]; exact hb3⟩, hs.sub (by repeat (first | exact Sub.refl _ | constructor | apply Sub.weaken))⟩, by dsimp only; omega⟩
        · refine .exit ?_
          refine xT (xT (xB (nT ?_)))
          refine .regSeq ?_
          obtain rfl : i = kk := by
            rcases Nat.lt_or_ge i kk with h | h
            · obtain ⟨m, hm⟩ : ∃ m, kk - i = m + 1 := ⟨kk - i - 1, by omega⟩
              rw [hm] at hb2
              cases hb2 with
              | cons hl _ => omega
            · omega
          refine .z zm ?_
          refine .o (.call Try.call216 rfl (slices_Reverse_step hs hO (by rw [trail_length]; omega)) ?_); rintro v139 w ⟨en', hO', hs⟩
          refine .nil (.regSeq (.z zm (.z zg (.nil ?_))))
          refine .ret ?_
          refine Fin.retD Ds [_, _, _, _, _, _, _] hs fun w hs => ⟨_, results1 Try.results206 rfl, H1, _, en', hle1, hO', hs.sub (by repeat (first | exact Sub.refl _ | constructor | apply Sub.weaken)), hway _ rfl⟩
end Go.Proofs.Ytiiokdeehlfeeaa

namespace Go.Proofs.Ytiiokdeehlfeeaa
open Go.MW
theorem OfEs_lim {s : Syst} {x : Arc} (hok : s.Ok) (hx : OfEs s.arcs x) : ∃ (i : Nat) (l : Lim), s.lims[i]? = some l ∧ x.l = (i : Int) ∧ (l.A = (x.f : Int) ↔ fwd s.arcs x) ∧ i < s.lims.length := by
  obtain ⟨i, y, h1, h2⟩ := hx
  have hl := arcsOf_l h1
  have hlt : i < s.lims.length := by have := (List.getElem?_eq_some_iff.1 h1).1; simpa [Syst.arcs, arcsOf_length] using this
  obtain ⟨l, hl2⟩ := nth hlt
  have h3 := arcsOf_get hl2
  have h1' : (arcsOf s.lims)[i]? = some y := h1
  rw [h3] at h1'
  cases h1'
  obtain ⟨a1, a2, _⟩ := hok.arc (List.mem_of_getElem? hl2) i
  refine ⟨i, l, hl2, ?_, ?_, hlt⟩
  · rcases h2 with rfl | rfl <;> rfl
  · have hg : ga s.arcs i = l.arc i := by simp [ga, Syst.arcs, h3]
    have hxl : x.l.toNat = i := by rcases h2 with rfl | rfl <;> rfl
    unfold fwd
    rw [hxl, hg, ← a1]
    exact ⟨fun e => by exact_mod_cast e, fun e => by exact_mod_cast e⟩
theorem bound_flow_along_spec {H : Heap} {w : World} {σ : List Ent} {bf : Nat} {s : Syst} {vl vt vd : Value} {x : Arc} (hs : St H w σ) (hok : s.Ok) (hf : Row H bf [I s.many, vl, vt, vd]) (hl : RL H vl s.lims) (hx : OfEs s.arcs x) :
    Cl Try.prog 217 [.pointer (some ⟨bf, 0, none⟩), .agg x.v.toArray] w fun v w' => v = .bool (decide (fwd s.arcs x)) ∧ St H w' σ := by
  obtain ⟨i, l, hl1, hxl, hfw, hil⟩ := OfEs_lim hok hx
  have hf1 : cellAt H bf 1 = some vl := hf.at 1
  refine Cl.of Try.func217 rfl Try.ntmps217 (by simp) (args_cons (k := 0) rfl (args_cons (k := 1) rfl (args0))) ?_
  refine .regSeq ?_
  refine .o (.box hs rfl rfl ?_); intro b3 w hs
  refine .z zg (.nil ?_)
  refine .seq (.draw mix rfl hs ?_); intro w hs
  refine .z 0 rfl zm ?_; refine .z 1 rfl znc ?_; refine .z 2 rfl (zfa fa_bound_flow_0) ?_; refine .z 3 rfl (zfa fa_api_System_1) ?_; refine .y 4 rfl hs Try.isAgg30 ?_; refine .z 5 rfl (zfa fa_bound_step_3) ?_; refine .y 6 rfl hs Try.isAgg3 ?_
  refine .ixX (i := 7) hs rfl (by kernel_rfl) .none hl rfl rfl Try.runUnderlying30 Try.sizeOf100 hl1 hxl ?_; intro b12 o12 hc12
  have hA : cellAt H b12 o12 = some (I l.A) := hc12.get 0 rfl
  refine .z 8 rfl (zfa fa_api_Limit_0) ?_; refine .y 9 rfl hs Try.isAgg3 ?_; refine .z 10 rfl (zfa fa_bound_step_0) ?_; refine .y 11 rfl hs Try.isAgg3 ?_; refine .z 12 rfl zeql ?_; refine .z 13 rfl zg ?_; refine .done (by kernel_rfl) hs ?_
  refine .ret (Fin.ret1 Try.results217 rfl ?_)
  exact ⟨by simp only [decide_eq_decide.2 hfw], hs.out⟩
theorem bound_flow_send_spec {H : Heap} {w : World} {σ : List Ent} {bf bt bl cl u v : Nat} {s : Syst} {ts lf : List Int} {wt : Nat → Int} {vl vp : Value} {sp : List Value} {p : List Arc} (hs : St H w (.blk bt (Is ts) :: .blk bl (Is lf ++ sp) :: σ)) (hok : s.Ok)
    (hf : Row H bf [I s.many, vl, .slice (some ⟨bt, 0, none⟩) ts.length ts.length, .slice (some ⟨bl, 0, none⟩) lf.length cl]) (hl : RL H vl s.lims) (hp : RS H 4 vp (p.map Arc.v)) (hI : FInv s.n s.arcs wt ts lf) (hw : WayP s.arcs ts lf s.n p u v) (hpn : p ≠ []) (hpl : p.length < s.n) :
    Cl Try.prog 207 [.pointer (some ⟨bf, 0, none⟩), vp] w fun _ w' => St H w' (.blk bt (Is (pushes s.arcs (much s.arcs ts lf p u v) ts p)) :: .blk bl (Is (lfTo lf (much s.arcs ts lf p u v) u v) ++ sp) :: σ) := by
  have hN1 := hok.m1
  have hn65 : s.n ≤ 65 := by simp only [Syst.n]; have := hok.m0; omega
  have hnum : Numb s.arcs := fun i x hx => ⟨arcsOf_l hx, (hok.arcs.2 x (List.mem_of_getElem? hx)).2.2.2.2.2⟩
  have hlt := hI.lt
  have hll := hI.ll
  obtain ⟨m0, m1, m2, m3⟩ := much_pos hlt.symm hnum hw
  have hsu := hI.sg u hw.un
  have hsv := hI.sg v hw.vn
  have hun : u < lf.length := by rw [hll]; exact hw.un
  have hvn : v < lf.length := by rw [hll]; exact hw.vn
  obtain ⟨a, cap, hvp⟩ := hp.shape
  rw [List.length_map] at hvp
  subst hvp
  have hp0 : 0 < p.length := List.length_pos_iff.2 hpn
  obtain ⟨x0, hx0⟩ := nth hp0
  obtain ⟨x1, hx1⟩ := nth (l := p) (k := p.length - 1) (by omega)
  have hh := hw.ch.head hx0
  have hla := hw.ch.last hx1
  have hf2 : cellAt H bf 2 = some (.slice (some ⟨bt, 0, none⟩) ts.length ts.length) := hf.at 2
  have hf3 : cellAt H bf 3 = some (.slice (some ⟨bl, 0, none⟩) lf.length cl) := hf.at 3
  have hix : ∀ x ∈ p, OfEs s.arcs x ∧ x.l.toNat < ts.length ∧ x.l = (x.l.toNat : Int) := fun x hx => by
    obtain ⟨g1, g2, _⟩ := of_resid hlt.symm hnum (hw.mem x hx)
    obtain ⟨i, l, _, g3, _⟩ := OfEs_lim hok g1
    exact ⟨g1, g2, by rw [g3]; simp⟩
  simp only [FF] at hsu hsv
  have huv : v ≠ u := fun e => by have := hw.lu; have := hw.lv; rw [e] at *; omega
  have htt : ∀ i < ts.length, 0 ≤ gi ts i ∧ gi ts i ≤ 3600000000000 := fun i hi => by
    have h1 := hI.nn i (by omega)
    have h2 := hI.tb i (by omega)
    have h3 : 0 ≤ rem s.n lf := sumTo_nonneg fun v _ => by omega
    simp only [FF] at h2
    omega
  have hM : much s.arcs ts lf p u v = least s.arcs ts (min (-gi lf u) (gi lf v)) p := rfl
  generalize much s.arcs ts lf p u v = M at *
  have hgv : gi (lf.set u (gi lf u + M)) v = gi lf v := by rw [gi_set hun, if_neg huv]
  refine Cl.of Try.func207 rfl Try.ntmps207 (by simp) (args_cons (k := 0) rfl (args_cons (k := 1) rfl (args0))) ?_
  refine .seq (.draw mix rfl hs ?_); intro w hs
  refine .z 0 rfl zm ?_
  refine .ixX (i := 1) hs rfl (by kernel_rfl) .none hp rfl rfl Try.runUnderlying198 Try.sizeOf205 hx0 rfl ?_; intro b12 o12 hc12
  have h14 : cellAt H b12 (o12 + 0) = some (I u) := by rw [← hh]; exact hc12.get 0 rfl
  refine .z 2 rfl (zfa fa_bound_step_0) ?_; refine .y 3 rfl hs Try.isAgg3 ?_; refine .z 4 rfl zm ?_; refine .z 5 rfl zm ?_; refine .z 6 rfl (zlen Try.runUnderlying198) ?_; refine .z 7 rfl zsub ?_
  refine .ixX (i := 8) hs rfl (by kernel_rfl) .none hp rfl rfl Try.runUnderlying198 Try.sizeOf205 hx1 (by omega) ?_; intro b19 o19 hc19
  have h21 : cellAt H b19 (o19 + 1) = some (I v) := by rw [← hla]; exact hc19.get 1 rfl
  refine .z 9 rfl (zfa fa_bound_step_1) ?_; refine .y 10 rfl hs Try.isAgg3 ?_; refine .z 11 rfl zg ?_; refine .z 12 rfl zg ?_; refine .done (by kernel_rfl) hs ?_
  refine .seq (.draw mix rfl hs ?_); intro w hs
  refine .z 0 rfl zm ?_; refine .z 1 rfl znc ?_; refine .z 2 rfl (zfa fa_bound_flow_2) ?_; refine .y 3 rfl hs Try.isAgg22 ?_; refine .z 4 rfl zm ?_
  first | (refine .ixv 5 rfl hs Try.runUnderlying22 Try.sizeOf3 ?_; intro b27 o27 hc27) | refine .z 5 rfl (zix Try.runUnderlying22 Try.sizeOf3) ?_
  refine .load (i := 6) hs rfl (by kernel_rfl) .none rfl Try.isAgg3 ?_ (hv := Is_gi_sp hun sp)
  refine .z 7 rfl zneg ?_; refine .z 8 rfl zm ?_; refine .z 9 rfl znc ?_; refine .z 10 rfl (zfa fa_bound_flow_2) ?_; refine .y 11 rfl hs Try.isAgg22 ?_; refine .z 12 rfl zm ?_
  first | (refine .ixv 13 rfl hs Try.runUnderlying22 Try.sizeOf3 ?_; intro b35 o35 hc35) | refine .z 13 rfl (zix Try.runUnderlying22 Try.sizeOf3) ?_
  refine .load (i := 14) hs rfl (by kernel_rfl) .none rfl Try.isAgg3 ?_ (hv := Is_gi_sp hvn sp)
  refine .z 15 rfl zmin ?_; refine .z 16 rfl zg ?_; refine .done (by kernel_rfl) hs ?_
  refine .seq (.regSeq (.z zm (.z (zlen Try.runUnderlying198) (.z zm (.nil ?_)))))
  refine .for (N := p.length) (J := fun k fr w => fr = [(38, .slice a p.length cap), (6, I (least s.arcs ts (min (-gi lf u) (gi lf v)) (p.take k))), (0, .pointer (some ⟨bf, 0, none⟩)), (1, .slice a p.length cap), (4, I u), (5, I v)] ∧   St H w (.blk bt (Is ts) :: .blk bl (Is lf ++ sp) :: σ)) (by omega) ?_ ?_ ?_
  · exact .mk ⟨rfl, hs⟩
  · rintro k fr w hk ⟨rfl, hs⟩
    obtain ⟨x, hx⟩ := nth hk
    obtain ⟨g1, g2, g3⟩ := hix x (List.mem_of_getElem? hx)
    refine .block (.regSeq ?_)
    refine .ixX hs hp rfl rfl Try.runUnderlying198 Try.sizeOf205 hx rfl ?_; intro b42 o42 hc42
    refine .q hs (q_loadsR (vs := x.v) rfl Try.isAgg205 Try.sizeOf205 hc42) ?_
    refine .o (.alloc hs Try.zeroValue205 rfl ?_); intro b8 w hs
    refine .o (.stores (vs := x.v) hs rfl rfl Try.sizeOf205 ?_); intro w hs
    refine .nil (.regSeq (.z zm ?_))
    refine .q hs (q_loads (vs := x.v) rfl Try.isAgg205 Try.sizeOf205) ?_
    refine .o (.call Try.call217 rfl (bound_flow_along_spec hs hok hf hl g1) ?_); rintro _ w ⟨rfl, hs⟩
    refine .z znot (.nil ?_)
    refine (.cond rfl (fun hc47 => ?_) (fun hc47 => ?_))
    · refine .draw mix rfl hs ?_; intro w hs
      refine .z 0 rfl zm ?_; refine .z 1 rfl zm ?_; refine .z 2 rfl znc ?_; refine .z 3 rfl (zfa fa_bound_flow_1) ?_; refine .y 4 rfl hs Try.isAgg22 ?_; refine .z 5 rfl (zfa fa_bound_step_3) ?_; refine .y 6 rfl hs Try.isAgg3 ?_
      refine .p (i := 7) rfl (by kernel_rfl) .none (q_ixO (k := x.l.toNat) rfl rfl Try.runUnderlying22 Try.sizeOf3 g3 g2) ?_
      refine .y 8 rfl hs Try.isAgg3 ?_; refine .z 9 rfl zmin ?_; refine .z 10 rfl zg ?_; refine .done (by kernel_rfl) hs ?_
      refine nB (nT ?_)
      have e : min (least s.arcs ts (min (-gi lf u) (gi lf v)) (p.take k)) (gi ts x.l.toNat) = least s.arcs ts (min (-gi lf u) (gi lf v)) (p.take (k + 1)) := by rw [take_snoc hx, least_snoc, if_neg (by simpa using hc47)]
      exact .mk ⟨rfl, hs.tail⟩ (hs := .cons rfl (.cons rfl (.cons rfl (.consI rfl e (.cons rfl (.cons rfl (.cons rfl (.cons rfl (.nil rfl rfl)))))))))
    · refine .skip ?_
      refine nB (nT ?_)
      have e : least s.arcs ts (min (-gi lf u) (gi lf v)) (p.take k) = least s.arcs ts (min (-gi lf u) (gi lf v)) (p.take (k + 1)) := by rw [take_snoc hx, least_snoc, if_pos (by simpa using hc47)]
      exact .mk ⟨rfl, hs.tail⟩ (hs := .cons rfl (.cons rfl (.cons rfl (.consI rfl e (.cons rfl (.cons rfl (.cons rfl (.cons rfl (.nil rfl rfl)))))))))
  · rintro fr w ⟨rfl, hs⟩
    have e6 : least s.arcs ts (min (-gi lf u) (gi lf v)) (List.take p.length p) = M := by rw [List.take_length]; exact hM.symm
    rw [e6]
    refine nT ?_
    refine .seq (.regSeq (.z zm (.z (zlen Try.runUnderlying198) (.z zm (.nil ?_)))))
    refine .for (N := p.length) (J := fun k fr w => fr = [(59, .slice a p.length cap), (6, I M), (0, .pointer (some ⟨bf, 0, none⟩)), (1, .slice a p.length cap), (4, I u), (5, I v)] ∧   St H w (.blk bt (Is (pushes s.arcs M ts (p.take k))) :: .blk bl (Is lf ++ sp) :: σ)) (by omega) ?_ ?_ ?_
    · exact .mk ⟨rfl, hs⟩
    · rintro k fr w hk ⟨rfl, hs⟩
      obtain ⟨x, hx⟩ := nth hk
      obtain ⟨g1, g2, g3⟩ := hix x (List.mem_of_getElem? hx)
      have hpl2 := pushes_length s.arcs M (p.take k) ts
      have hbd := pushes_bd (es := s.arcs) (m := M) (ts := ts) (p := p.take k) (by omega) (by simp only [FF]; omega) (by rw [List.length_take]; omega) (fun y hy => (hix y (List.mem_of_mem_take hy)).2.1) x.l.toNat
      have h9 := htt _ g2
      refine .block (.regSeq ?_)
      refine .ixX hs hp rfl rfl Try.runUnderlying198 Try.sizeOf205 hx rfl ?_; intro b63 o63 hc63
      refine .q hs (q_loadsR (vs := x.v) rfl Try.isAgg205 Try.sizeOf205 hc63) ?_
      refine .o (.alloc hs Try.zeroValue205 rfl ?_); intro b10 w hs
      refine .o (.stores (vs := x.v) hs rfl rfl Try.sizeOf205 ?_); intro w hs
      refine .nil (.regSeq (.z zm ?_))
      refine .q hs (q_loads (vs := x.v) rfl Try.isAgg205 Try.sizeOf205) ?_
      refine .o (.call Try.call217 rfl (bound_flow_along_spec hs hok hf hl g1) ?_); rintro _ w ⟨rfl, hs⟩
      refine .nil ?_
      refine (.cond rfl (fun hc67 => ?_) (fun hc67 => ?_))
      · refine .draw mix rfl hs ?_; intro w hs
        refine .z 0 rfl zm ?_; refine .z 1 rfl znc ?_; refine .z 2 rfl (zfa fa_bound_flow_1) ?_; refine .y 3 rfl hs Try.isAgg22 ?_; refine .z 4 rfl (zfa fa_bound_step_3) ?_; refine .y 5 rfl hs Try.isAgg3 ?_
        refine .p (i := 6) rfl (by kernel_rfl) .none (q_ixO (k := x.l.toNat) rfl rfl Try.runUnderlying22 Try.sizeOf3 g3 g2) ?_
        refine .y 7 rfl hs Try.isAgg3 ?_; refine .z 8 rfl zm ?_; refine .z 9 rfl zadd ?_
        refine .p (i := 10) rfl (by kernel_rfl) .none (q_ixO (k := x.l.toNat) rfl rfl Try.runUnderlying22 Try.sizeOf3 g3 g2) ?_
        refine .e1 (i := 11) (by kernel_rfl) rfl rfl .none hs ?_
        refine .store hs rfl rfl Try.sizeOf3 ?_; intro w hs
        refine .go ?_
        refine .done (by kernel_rfl) hs ?_
        refine nB (nT ?_)
        have e : pushes s.arcs M ts (p.take (k + 1)) = (pushes s.arcs M ts (p.take k)).set x.l.toNat (gi (pushes s.arcs M ts (p.take k)) x.l.toNat + M) := by rw [take_snoc hx, pushes_snoc, push, if_pos (by simpa using hc67)]
        exact .mk ⟨rfl, by rw [e]; exact hs.tail⟩
      · refine .draw mix rfl hs ?_; intro w hs
        refine .z 0 rfl zm ?_; refine .z 1 rfl znc ?_; refine .z 2 rfl (zfa fa_bound_flow_1) ?_; refine .y 3 rfl hs Try.isAgg22 ?_; refine .z 4 rfl (zfa fa_bound_step_3) ?_; refine .y 5 rfl hs Try.isAgg3 ?_
        refine .p (i := 6) rfl (by kernel_rfl) .none (q_ixO (k := x.l.toNat) rfl rfl Try.runUnderlying22 Try.sizeOf3 g3 g2) ?_
        refine .y 7 rfl hs Try.isAgg3 ?_; refine .z 8 rfl zm ?_; refine .z 9 rfl zsub ?_
        refine .p (i := 10) rfl (by kernel_rfl) .none (q_ixO (k := x.l.toNat) rfl rfl Try.runUnderlying22 Try.sizeOf3 g3 g2) ?_
        refine .e1 (i := 11) (by kernel_rfl) rfl rfl .none hs ?_
        refine .store hs rfl rfl Try.sizeOf3 ?_; intro w hs
        refine .go ?_
        refine .done (by kernel_rfl) hs ?_
        refine nB (nT ?_)
        have e : pushes s.arcs M ts (p.take (k + 1)) = (pushes s.arcs M ts (p.take k)).set x.l.toNat (gi (pushes s.arcs M ts (p.take k)) x.l.toNat - M) := by rw [take_snoc hx, pushes_snoc, push, if_neg (by simpa using hc67)]
        exact .mk ⟨rfl, by rw [e]; exact hs.tail⟩
    · rintro fr w ⟨rfl, hs⟩
      rw [List.take_length] at hs
      refine nT ?_
      refine .regSeq (.z zm (.z znc (.z (zfa fa_bound_flow_2) (.y hs (zld Try.isAgg22) (.z zm ?_)))))
      first | (refine .ixv hs Try.runUnderlying22 Try.sizeOf3 ?_; intro b96 o96 hc96) | refine .z (zix Try.runUnderlying22 Try.sizeOf3) ?_
      refine .q hs (q_load rfl Try.isAgg3 (hv := Is_gi_sp hun sp)) ?_
      refine .z zm (.z zadd ?_)
      first | (refine .ixv hs Try.runUnderlying22 Try.sizeOf3 ?_; intro b100 o100 hc100) | refine .z (zix Try.runUnderlying22 Try.sizeOf3) ?_
      refine .o (.store hs rfl rfl Try.sizeOf3 ?_ (by repeat constructor) (blt_Is_sp hun sp) (Is_set_sp hun sp _)); intro w hs
      refine .nil (.region (.z zm (.z znc (.z (zfa fa_bound_flow_2) (.y hs (zld Try.isAgg22) (.z zm ?_))))))
      first | (refine .ixv hs Try.runUnderlying22 Try.sizeOf3 ?_; intro b106 o106 hc106) | refine .z (zix Try.runUnderlying22 Try.sizeOf3) ?_
      refine .q hs (q_load rfl Try.isAgg3 (hv := Is_gi_sp (by rw [List.length_set]; exact hvn) sp)) ?_
      refine .z zm (.z zsub ?_)
      first | (refine .ixv hs Try.runUnderlying22 Try.sizeOf3 ?_; intro b110 o110 hc110) | refine .z (zix Try.runUnderlying22 Try.sizeOf3) ?_
      refine .o (.store hs rfl rfl Try.sizeOf3 ?_ (by repeat constructor) (blt_Is_sp (by rw [List.length_set]; exact hvn) sp) (Is_set_sp (by rw [List.length_set]; exact hvn) sp _)); intro w hs
      refine .nil ?_
      exact Fin.end0 Try.results207 hs
end Go.Proofs.Ytiiokdeehlfeeaa

namespace Go.Proofs.Ytiiokdeehlfeeaa
open Go.MW
theorem left_step {w : List Int} {N k : Nat} (hw : w.length = N + 1) : gi (w.set 0 (-tailTo w k)) 0 - gi (w.set 0 (-tailTo w k)) (k + 1) = -tailTo w (k + 1) := by
  rw [gi_set (by omega), gi_set (by omega), if_pos rfl, if_neg (by omega)]
  simp only [tailTo, sumTo]; omega
theorem bound_sent_spec {H : Heap} {w : World} {σ : List Ent} {v vw : Value} {s : Syst} {ws : List Int} (hs : St H w σ) (hok : s.Ok) (hr : RSy H v s) (hrw : RI H vw ws) (hwl : ws.length = s.n) (hsz : SizedW ws) (hsnd : s.Sound) :
    Cl Try.prog 193 [v, vw] w fun v w' => (v = .tuple #[.pointer none, .bool false] ∧ OpenS s.arcs (wtOf ws s.n) s.n ∧ St H w' σ) ∨
      (∃ H1 bf bt bl cl ts lf vl sp, HLe H H1 ∧ v = .tuple #[.pointer (some ⟨bf, 0, none⟩), .bool true] ∧ FlowH H1 bf s ts lf vl bt bl cl sp ∧ FlowOk s.n s.arcs (wtOf ws s.n) ts ∧ St H1 w' σ) := by
  obtain ⟨vl, rfl, hr⟩ := hr
  obtain ⟨al, cpl, rfl⟩ := RL.shape hr
  obtain ⟨aw, cw, rfl⟩ := RI.shape hrw
  obtain ⟨N, hN⟩ := Int.eq_ofNat_of_zero_le hok.m0
  have hN1 := hok.m1
  have hn : s.n = N + 1 := by simp [Syst.n, hN]
  have hlim := hok.len
  have hoka := hok.arcs
  have hal : s.arcs.length = s.lims.length := by simp [Syst.arcs, arcsOf_length]
  have hnum : Numb s.arcs := fun i x hx => ⟨arcsOf_l hx, (hok.arcs.2 x (List.mem_of_getElem? hx)).2.2.2.2.2⟩
  have hin : ∀ x ∈ s.arcs, x.f < s.n ∧ x.t < s.n := fun x hx => by have := hoka.2 x hx; omega
  have hwt0 := wt_sum ws (n := s.n) (by omega)
  unfold SizedW at hsz
  rw [hwl] at hsz
  refine Cl.of Try.func193 rfl Try.ntmps193 (by simp) (args_cons (k := 0) rfl (args_cons (k := 1) rfl (args0))) ?_
  refine .regSeq ?_
  refine .o (.box hs rfl rfl ?_); intro b2 w hs
  refine .z zg (.z zg (.nil ?_))
  refine .scope ?_
  refine .cut (fun fs w => ∃ bf bt bl cl sp, FSub fs ⟨73, [], [(6, .pointer (some ⟨bf, 0, none⟩))]⟩ ∧ St H w (.blk bf [I s.many, .slice al s.lims.length cpl, .slice (some ⟨bt, 0, none⟩) s.lims.length s.lims.length, .slice (some ⟨bl, 0, none⟩) ws.length cl] :: .blk bt (Is (List.replicate s.lims.length 0)) :: .blk bl (Is ws ++ sp) :: σ)) ?_ ?_
  · refine .draw mix rfl hs ?_; intro w hs
    refine .ys 0 rfl hs [_, _] Try.isAgg32 Try.sizeOf32 ?_; refine .z 1 rfl (zfa fa_api_System_1) ?_; refine .y 2 rfl hs Try.isAgg30 ?_; refine .z 3 rfl (zlen Try.runUnderlying30) ?_; refine .z 5 rfl zm ?_
    refine .e2 (i := 4) (j := 6) (by kernel_rfl) rfl rfl rfl rfl .none .none hs ?_ ?_
    · refine .makeI s.lims.length hs rfl rfl Try.runUnderlying22 Try.typeInfo3 rfl Try.sizeOf3 Try.zeroValue3 (by omega) ?_; intro b15 w hs
      refine .go ?_
      refine .e1 (i := 6) (by kernel_rfl) rfl rfl .none hs ?_
      refine .call Try.call128 rfl (slices_Clone_int hs hrw (by omega)) ?_; rintro v17 w ⟨en17, hO, hs⟩
      obtain ⟨bl, cl, sp, rfl, rfl, hsp⟩ := hO.some (by omega)
      refine .go ?_
      refine .z 7 rfl (zbd [_, _, _, _] bld_bound_flow) ?_
      refine .e1 (i := 8) (by kernel_rfl) rfl rfl .none hs ?_
      refine .box hs rfl rfl ?_; intro b19 w hs
      refine .go ?_
      refine .z 9 rfl zg ?_; refine .done (by kernel_rfl) hs ?_
      exact nT ⟨b19, b15, bl, cl, sp, by repeat (first | exact .nil rfl rfl | refine .cons rfl ?_), hs.sub (by repeat (first | exact Sub.refl _ | constructor | apply Sub.weaken))⟩
    · refine .call Try.call128 rfl (slices_Clone_int hs hrw (by omega)) ?_; rintro v17 w ⟨en17, hO, hs⟩
      obtain ⟨bl, cl, sp, rfl, rfl, hsp⟩ := hO.some (by omega)
      refine .go ?_
      refine .e1 (i := 4) (by kernel_rfl) rfl rfl .none hs ?_
      refine .makeI s.lims.length hs rfl rfl Try.runUnderlying22 Try.typeInfo3 rfl Try.sizeOf3 Try.zeroValue3 (by omega) ?_; intro b15 w hs
      refine .go ?_
      refine .z 7 rfl (zbd [_, _, _, _] bld_bound_flow) ?_
      refine .e1 (i := 8) (by kernel_rfl) rfl rfl .none hs ?_
      refine .box hs rfl rfl ?_; intro b19 w hs
      refine .go ?_
      refine .z 9 rfl zg ?_; refine .done (by kernel_rfl) hs ?_
      exact nT ⟨b19, b15, bl, cl, sp, by repeat (first | exact .nil rfl rfl | refine .cons rfl ?_), hs.sub (by repeat (first | exact Sub.refl _ | constructor | apply Sub.weaken))⟩
  · rintro fs w ⟨bf, bt, bl, cl, sp, hfs, hs⟩
    refine WE.sub ?_ hfs
    obtain ⟨H1, hle1, hRf, hs⟩ := hs.publish .here
    have hf0 : cellAt H1 bf 0 = some (I (N : Int)) := by have := hRf.at 0 (v := I s.many); rwa [hN] at this
    have hf3 : cellAt H1 bf 3 = some (.slice (some ⟨bl, 0, none⟩) ws.length cl) := hRf.at 3
    have hrl := hr.mono hle1
    refine .regSeq (.z zm (.z znc (.z (zfa fa_bound_flow_2) (.y hs (zld Try.isAgg22) ?_))))
    refine .q hs (q_ixO (k := 0) rfl rfl Try.runUnderlying22 Try.sizeOf3 rfl (by omega)) ?_
    refine .o (.store hs rfl rfl Try.sizeOf3 ?_ (by repeat constructor) (blt_Is_sp (by omega) sp) (Is_set_sp (by omega) sp _)); intro w hs
    refine .nil (.seq (.regSeq (.z zm (.z znc (.z (zfa fa_bound_flow_0) (.z (zfa fa_api_System_0) (.y hs (zld Try.isAgg3) (.z zm (.nil ?_)))))))))
    refine .for (N := N) (J := fun k fr w => fr = [(6, .pointer (some ⟨bf, 0, none⟩))] ∧ St H1 w (.blk bt (Is (List.replicate s.lims.length 0)) :: .blk bl (Is (ws.set 0 (-tailTo ws k)) ++ sp) :: σ)) (by omega) ?_ ?_ ?_
    · exact .mk ⟨rfl, by simpa [tailTo, sumTo] using hs⟩
    · rintro k fr w hk ⟨rfl, hs⟩
      have e := left_step (w := ws) (N := N) (k := k) (by omega)
      have hb1 := tail_bound ws (k + 1)
      have hb2 : sizesTo ws (k + 1 + 1) ≤ sizesTo ws s.n := sumTo_mono (fun v => by omega) (by omega)
      simp only [FF] at hsz
      refine .block (.regSeq (.z zm (.z zg (.nil ?_))))
      refine .draw mix rfl hs ?_; intro w hs
      refine .z 0 rfl zm ?_; refine .z 1 rfl znc ?_; refine .z 2 rfl (zfa fa_bound_flow_2) ?_; refine .y 3 rfl hs Try.isAgg22 ?_
      refine .p (i := 4) rfl (by kernel_rfl) .none (q_ixO (k := 0) rfl rfl Try.runUnderlying22 Try.sizeOf3 rfl (by omega)) ?_
      refine .load (i := 5) hs rfl (by kernel_rfl) .none rfl Try.isAgg3 ?_ (hv := Is_gi_sp (by rw [List.length_set]; omega) sp)
      refine .z 6 rfl zm ?_; refine .z 7 rfl znc ?_; refine .z 8 rfl (zfa fa_bound_flow_2) ?_; refine .y 9 rfl hs Try.isAgg22 ?_; refine .z 10 rfl zm ?_; refine .z 11 rfl zadd ?_
      refine .p (i := 12) rfl (by kernel_rfl) .none (q_ixO (k := k + 1) rfl rfl Try.runUnderlying22 Try.sizeOf3 (by omega) (by omega)) ?_
      refine .load (i := 13) hs rfl (by kernel_rfl) .none rfl Try.isAgg3 ?_ (hv := Is_gi_sp (by rw [List.length_set]; omega) sp)
      refine .z 14 rfl zsub ?_
      refine .p (i := 15) rfl (by kernel_rfl) .none (q_ixO (k := 0) rfl rfl Try.runUnderlying22 Try.sizeOf3 rfl (by omega)) ?_
      refine .e1 (i := 16) (by kernel_rfl) rfl rfl .none hs ?_
      refine .store hs rfl rfl Try.sizeOf3 ?_ (by repeat constructor) (blt_Is_sp (by rw [List.length_set]; omega) sp) (Is_set_sp (by rw [List.length_set]; omega) sp _); intro w hs
      refine .go ?_
      refine .done (by kernel_rfl) hs ?_
      refine nB (nT ?_)
      rw [e, List.set_set] at hs
      exact .mk ⟨rfl, hs⟩
    · rintro fr w ⟨rfl, hs⟩
      have hI0 : FInv s.n s.arcs (wtOf ws s.n) (List.replicate s.lims.length 0) (ws.set 0 (-tailTo ws N)) := by
        rw [← hal, hn]
        rw [hn] at hsz
        refine FInv.start hsz (by rw [List.length_set]; omega) (fun v hv => ?_) hsnd
        rw [gi_set (by omega)]
        cases v with
        | zero => rw [if_pos rfl, wt_zero]
        | succ v => rw [if_neg (by omega), wt_succ]
      refine nT ?_
      refine .seq ?_
      refine .label ?_
      refine nT ?_
      refine .block ?_
      refine .loop (fun _ : Heap × List Int × List Int => ⟨73, [], [(6, .pointer (some ⟨bf, 0, none⟩))]⟩)
        (fun p w => HLe H1 p.1 ∧ FInv s.n s.arcs (wtOf ws s.n) p.2.1 p.2.2 ∧ St p.1 w (.blk bt (Is p.2.1) :: .blk bl (Is p.2.2 ++ sp) :: σ)) (fun p => (rem s.n p.2.2).toNat) (H1, List.replicate s.lims.length 0, ws.set 0 (-tailTo ws N))
        (by repeat (first | exact .nil rfl rfl | refine .cons rfl ?_)) ⟨HLe.refl _, hI0, hs⟩ ?_
      rintro ⟨H2, ts, lf⟩ w ⟨hle2, hI, hs⟩
      dsimp only at hle2 hI hs ⊢
      have hlt := hI.lt
      have hll := hI.ll
      have hRf2 : Row H2 bf [I s.many, .slice al s.lims.length cpl, .slice (some ⟨bt, 0, none⟩) ts.length ts.length, .slice (some ⟨bl, 0, none⟩) lf.length cl] := by
        rw [hlt, hal, hll, ← hwl]; exact hRf.mono hle2
      have hf32 : cellAt H2 bf 3 = some (.slice (some ⟨bl, 0, none⟩) lf.length cl) := hRf2.at 3
      refine .block (.seq (.regSeq (.z zm (.z znc (.z (zfa fa_bound_flow_2) (.y hs (zld Try.isAgg22) (.z (zlen Try.runUnderlying22) (.z zm (.nil ?_)))))))))
      refine .for (N := lf.length) (J := fun k fr w => fr = [(53, .slice (some ⟨bl, 0, none⟩) lf.length cl), (6, .pointer (some ⟨bf, 0, none⟩))] ∧ (∀ v < k, gi lf v ≤ 0) ∧ St H2 w (.blk bt (Is ts) :: .blk bl (Is lf ++ sp) :: σ)) (by omega) ?_ ?_ ?_
      · exact .mk ⟨rfl, fun v hv => by omega, hs⟩
      · rintro k fr w hk ⟨rfl, hle0, hs⟩
        refine .block (.regSeq (.z zm ?_))
        first | (refine .ixv hs Try.runUnderlying22 Try.sizeOf3 ?_; intro b58 o58 hc58) | refine .z (zix Try.runUnderlying22 Try.sizeOf3) ?_
        refine .q hs (q_load rfl Try.isAgg3 (hv := Is_gi_sp hk sp)) ?_
        refine .z zg (.z zg (.nil (.seq (.regSeq (.z zm (.z zleq (.nil ?_)))))))
        refine (.condD rfl (fun hc61 => ?_) (fun hc61 => ?_))
        · refine .exit ?_
          refine xT (xB (nT ?_))
          exact .mk ⟨rfl, fun v hv => by
              by_cases e : v = k
              · subst e; exact hc61
              · exact hle0 v (by omega), hs⟩
        · refine .skip ?_
          refine nT ?_
          refine .regSeq (.z zm (.z zm ?_))
          obtain ⟨Ha, hla, hra, hsa, -, hba⟩ := hs.lend
          obtain ⟨Hb, hlb, hrb, hsb, -, hbb⟩ := hsa.lend
          refine .o (.call Try.call206 rfl (bound_flow_way_spec (s := s) (to := k) hsb hok ⟨hRf2.mono (hla.trans hlb), hr.mono (hle1.trans (hle2.trans (hla.trans hlb))), hra.mono hlb, hrb⟩ (by omega) (by omega) hI.fe (by omega) (by omega)) ?_); rintro v64 w ⟨Hc, p, en, hlc, hO, hsc, hWR⟩
          have hs := hba (HLe.refl _) (hbb hlc hsc)
          obtain ⟨ap, lp, cp, rfl, hlp⟩ := hO.shape
          obtain rfl : lp = p.length := by rw [Arcs_length] at hlp; omega
          refine .z zg (.nil (.seq (.regSeq (.z zm (.z (zlen Try.runUnderlying198) (.z zeql (.nil ?_)))))))
          refine (.condD rfl (fun hc67 => ?_) (fun hc67 => ?_))
          · refine .regSeq (.z zg (.z zg (.nil ?_)))
            refine .ret (rT (rB (rT (rB (rT (rB (rT (rB (rS (Fin.ret2 Try.results193 rfl rfl ?_))))))))))
            rcases hWR with ⟨_, R, hS, hR, hto⟩ | ⟨hp, _⟩
            · exact .inl ⟨rfl, hI.open hin hS hR (by omega) hto (by omega), (hs.le (hle1.trans hle2)).out⟩
            · exact (hp (List.length_eq_zero_iff.1 (by omega))).elim
          · refine .skip ?_
            refine nT ?_
            refine .regSeq (.z zm (.z zm ?_))
            obtain ⟨hp, hpl, u, hw⟩ := hWR.resolve_left fun h => by rw [h.1] at hc67; exact hc67 rfl
            obtain ⟨H3, hle3, hRS, hs⟩ := OwnS.publish (cs := p.map Arc.v) hO (fun c hc => by simp only [List.mem_map] at hc; obtain ⟨x, _, rfl⟩ := hc; rfl) (by omega) (by rw [List.length_map]; omega) hs (by repeat constructor)
            refine .o (.call Try.call207 rfl (bound_flow_send_spec hs hok (hRf2.mono hle3) (hr.mono (hle1.trans (hle2.trans hle3))) hRS hI hw hp hpl) ?_); rintro v70 w hs
            refine .nil ?_
            refine .exit ?_
            refine xN (xT (xN (xT (xB (nT ?_)))))
            obtain ⟨q1, q2⟩ := hI.send hnum hw (by omega)
            have q3 : 0 ≤ rem s.n (lfTo lf (much s.arcs ts lf p u k) u k) := sumTo_nonneg fun v _ => by omega
            exact ⟨(H3, pushes s.arcs (much s.arcs ts lf p u k) ts p, lfTo lf (much s.arcs ts lf p u k) u k), by repeat (first | exact .nil rfl rfl | refine .cons rfl ?_), ⟨hle2.trans hle3, q1, hs⟩, by dsimp only; omega⟩
      · rintro fr w ⟨rfl, hle0, hs⟩
        refine nT ?_
        refine .regSeq (.z zm (.z zg (.z zg (.nil ?_))))
        refine .ret (rB (rT (rB (rS (Fin.ret2 Try.results193 rfl rfl ?_)))))
        obtain ⟨H3, l3, r3, hs⟩ := hs.publish .here
        obtain ⟨H4, l4, r4, hs⟩ := hs.publish .here
        exact .inr ⟨H4, bf, bt, bl, cl, ts, lf, _, sp, hle1.trans (hle2.trans (l3.trans l4)), rfl, ⟨hRf2.mono (l3.trans l4), hr.mono (hle1.trans (hle2.trans (l3.trans l4))), r3.mono l4, r4⟩, hI.ok hin hwt0 (fun v hv => hle0 v (by omega)), hs⟩
end Go.Proofs.Ytiiokdeehlfeeaa

namespace Go.Proofs.Ytiiokdeehlfeeaa
open Go.MW
theorem bound_isSized_spec {H : Heap} {w : World} {σ : List Ent} {v : Value} {ws : List Int} (hs : St H w σ) (hr : RI H v ws) : Cl Try.prog 168 [v] w fun v w' => ∃ b, v = .bool b ∧ (b = true ↔ SizedW ws) ∧ St H w' σ := by
  obtain ⟨a, c, rfl⟩ := RI.shape hr
  have hl := (RI.len hr).2.2
  refine Cl.of Try.func168 rfl Try.ntmps168 (by simp) (args_cons (k := 0) rfl (args0)) ?_
  refine .regSeq (.z zg (.nil (.regSeq (.z zg (.nil (.seq (.regSeq (.z zm (.z (zlen Try.runUnderlying22) ?_)))))))))
  refine .z zm (.nil ?_)
  refine .for (N := ws.length) (J := fun k fr w => fr = [(6, .slice a ws.length c), (3, I (3600000000000 - sizesTo ws k))] ∧ sizesTo ws k ≤ 3600000000000 ∧ St H w σ) (by omega) ?_ ?_ ?_
  · exact .mk ⟨rfl, by simp [sizesTo, sumTo], hs⟩
  · rintro k fr w hk ⟨rfl, hle, hs⟩
    have hx := gi_get hk
    have h0 : 0 ≤ sizesTo ws k := sumTo_nonneg fun v _ => by omega
    have h1 : sizesTo ws (k + 1) = sizesTo ws k + max (gi ws k) (-gi ws k) := rfl
    refine .block (.regSeq ?_)
    first | (refine .ixv hs Try.runUnderlying22 Try.sizeOf3 ?_; intro b10 o10 hc10) | refine .z (zix Try.runUnderlying22 Try.sizeOf3) ?_
    refine .y hs (zld Try.isAgg3) (.z zg (.nil (.seq (.regSeq (.z zm (.z zm (.z zneg (.z zlss (.z zm ?_)))))))))
    refine .bifD (t' := 16) rfl (fun hb16 => ?_) (fun hb16 => ?_)
    · refine .gFs 3 4 false rfl rfl rfl ?_
      refine .z zpT (.nil ?_)
      refine (.condT rfl rfl ?_)
      refine .regSeq (.z zg (.nil ?_))
      refine .ret (rT (rB (rT (rB (rT (Fin.ret1 Try.results168 rfl ?_))))))
      exact ⟨false, rfl, ⟨fun h => (by cases h), fun h => (sizes_over (k := k + 1) hk (by simp only [FF]; omega) h).elim⟩, hs⟩
    · refine .gT rfl rfl ?_
      refine .z zm ?_
      refine .gT rfl rfl ?_
      refine .z zm ?_
      refine .gT rfl rfl ?_
      refine .z zgtr (.z zpF (.nil ?_))
      refine (.condD rfl (fun hc20 => ?_) (fun hc20 => ?_))
      · refine .regSeq (.z zg (.nil ?_))
        refine .ret (rT (rB (rT (rB (rT (Fin.ret1 Try.results168 rfl ?_))))))
        exact ⟨false, rfl, ⟨fun h => (by cases h), fun h => (sizes_over (k := k + 1) hk (by simp only [FF]; omega) h).elim⟩, hs⟩
      · refine .skip ?_
        refine nT ?_
        refine .region (.z zm (.z zm (.z zm (.z zneg (.z zmax (.z zsub (.z zg (.nil ?_))))))))
        refine nB (nT ?_)
        exact .mk ⟨rfl, by omega, hs⟩ (hs := .cons rfl (.cons rfl (.cons rfl (.consI rfl (by omega) (.nil rfl rfl)))))
  · rintro fr w ⟨rfl, hle, hs⟩
    refine nT ?_
    refine .regSeq (.z zg (.nil ?_))
    refine .ret (Fin.ret1 Try.results168 rfl ?_)
    exact ⟨true, rfl, ⟨fun _ => hle, fun _ => rfl⟩, hs⟩
theorem bound_checkWeights_spec {H : Heap} {w : World} {σ : List Ent} {v vw : Value} {s : Syst} {ws : List Int} (hs : St H w σ) (hr : RSy H v s) (hrw : RI H vw ws) : Cl Try.prog 176 [v, vw] w fun v w' => v = I (askErr s ws) ∧ St H w' σ := by
  obtain ⟨vl, rfl, hr⟩ := hr
  obtain ⟨al, cpl, rfl⟩ := RL.shape hr
  obtain ⟨aw, cw, rfl⟩ := RI.shape hrw
  have hlw := (RI.len hrw).2.2
  have hn : s.check = 0 → 0 ≤ s.many ∧ s.many ≤ 64 ∧ (s.n : Int) = s.many + 1 := fun h => by
    have h1 := s.ok_iff.1 h
    have := h1.m0
    have := h1.m1
    simp only [Syst.n]; omega
  refine Cl.of Try.func176 rfl Try.ntmps176 (by simp) (args_cons (k := 0) rfl (args_cons (k := 1) rfl (args0))) ?_
  refine .regSeq ?_
  refine .o (.box hs rfl rfl ?_); intro b2 w hs
  refine .z zg (.nil (.seq (.regSeq (.y hs (zls [_, _] Try.isAgg32 Try.sizeOf32) ?_))))
  refine .o (.call Try.call72 rfl (bound_Check_spec (s := s) hs ⟨_, rfl, hr⟩) ?_); rintro _ w ⟨rfl, hs⟩
  refine .z zg (.nil (.regSeq (.z zm (.z zneq (.nil ?_)))))
  refine (.condN rfl (fun hc9 => ?_) (fun hc9 => ?_))
  · refine .regSeq (.z zm (.z zg (.nil ?_)))
    refine .ret (rT (Fin.ret1 Try.results176 rfl ?_))
    exact ⟨by unfold askErr; rw [if_pos hc9], hs.tail⟩
  · refine .skip ?_
    refine nT ?_
    refine .seq (.regSeq (.z zm ?_))
    obtain ⟨n0, n1, n2⟩ := hn hc9
    refine .z (zlen Try.runUnderlying22) (.z (zfa fa_api_System_0) (.y hs (zld Try.isAgg3) (.z zadd (.z zneq (.z zm ?_)))))
    refine .bifN (t' := 17) rfl (fun hb17 => ?_) (fun hb17 => ?_)
    · refine .gFs 3 6 false rfl rfl rfl ?_
      refine .z zpT (.nil ?_)
      refine (.condT rfl rfl ?_)
      refine .regSeq (.z zg (.nil ?_))
      refine .ret (rT (Fin.ret1 Try.results176 rfl ?_))
      exact ⟨by unfold askErr; rw [if_neg (by omega), if_neg (by omega)], hs.tail⟩
    · refine .gT rfl rfl ?_
      refine .z zm ?_
      refine .gT rfl rfl ?_
      refine .o (.call Try.call168 rfl (bound_isSized_spec hs hrw) ?_); rintro _ w ⟨bz, rfl, hbz, hs⟩
      refine .gT rfl rfl ?_
      refine .z znot (.z zpF (.nil ?_))
      refine (.cond rfl (fun hc21 => ?_) (fun hc21 => ?_))
      · refine .regSeq (.z zg (.nil ?_))
        refine .ret (rT (Fin.ret1 Try.results176 rfl ?_))
        exact ⟨by unfold askErr; rw [if_neg (by omega), if_neg (fun h => by rw [hbz.2 h.2] at hc21; cases hc21)], hs.tail⟩
      · refine .skip ?_
        refine nT ?_
        refine .regSeq (.z zg (.nil ?_))
        refine .ret (Fin.ret1 Try.results176 rfl ?_)
        exact ⟨by unfold askErr; rw [if_neg (by omega), if_pos ⟨by omega, hbz.1 (by simpa using hc21)⟩], hs.tail⟩
theorem bound_asked_spec {H : Heap} {w : World} {σ : List Ent} {v vw : Value} {s : Syst} {ws : List Int} (hs : St H w σ) (hr : RSy H v s) (hrw : RI H vw ws) :
    Cl Try.prog 140 [v, vw] w fun v w' => ∃ H1 e pf, HLe H H1 ∧ v = .tuple #[pf, I e] ∧ AskR s ws e ∧ St H1 w' σ ∧ (e ≠ 0 → pf = .pointer none) ∧
      (e = 0 → ∃ bf bt bl cl ts lf vl sp, pf = .pointer (some ⟨bf, 0, none⟩) ∧ FlowH H1 bf s ts lf vl bt bl cl sp ∧ FlowOk s.n s.arcs (wtOf ws s.n) ts ∧ s.Ok ∧ sizesTo ws s.n ≤ FF) := by
  obtain ⟨vl, rfl, hr⟩ := hr
  refine Cl.of Try.func140 rfl Try.ntmps140 (by simp) (args_cons (k := 0) rfl (args_cons (k := 1) rfl (args0))) ?_
  refine .regSeq ?_
  refine .o (.box hs rfl rfl ?_); intro b2 w hs
  refine .z zg (.z zg (.nil (.seq (.regSeq (.y hs (zls [_, _] Try.isAgg32 Try.sizeOf32) (.z zm ?_))))))
  refine .o (.call Try.call176 rfl (bound_checkWeights_spec (s := s) hs ⟨_, rfl, hr⟩ hrw) ?_); rintro _ w ⟨rfl, hs⟩
  refine .z zg (.nil (.regSeq (.z zm (.z zneq (.nil ?_)))))
  refine (.condN rfl (fun hc13 => ?_) (fun hc13 => ?_))
  · refine .regSeq (.z zm (.z zg (.z zg (.nil ?_))))
    refine .ret (rT (Fin.ret2 Try.results140 rfl rfl ?_))
    exact ⟨H, _, _, HLe.refl _, rfl, .bad hc13, hs.tail, fun _ => rfl, fun h => (hc13 h).elim⟩
  · refine .skip ?_
    refine nT ?_
    refine .seq (.regSeq (.y hs (zls [_, _] Try.isAgg32 Try.sizeOf32) ?_))
    obtain ⟨hok, hwl, hsz⟩ := askErr_ok hc13
    refine .o (.call Try.call149 rfl (bound_isSound_spec (s := s) hs hok ⟨_, rfl, hr⟩) ?_); rintro _ w ⟨H1, b, hle1, rfl, hb, hs⟩
    refine .z znot (.nil ?_)
    refine (.cond rfl (fun hc17 => ?_) (fun hc17 => ?_))
    · refine .regSeq (.z zg (.z zg (.nil ?_)))
      refine .ret (rT (Fin.ret2 Try.results140 rfl rfl ?_))
      exact ⟨H1, _, _, hle1, rfl, .clash hc13 (fun h => by rw [hb.2 h] at hc17; cases hc17), hs.tail, fun _ => rfl, fun h => by cases h⟩
    · refine .skip ?_
      refine nT ?_
      refine .regSeq (.y hs (zls [_, _] Try.isAgg32 Try.sizeOf32) (.z zm ?_))
      have hsnd : s.Sound := hb.1 (by simpa using hc17)
      refine .o (.call Try.call193 rfl (bound_sent_spec (s := s) hs hok ⟨_, rfl, hr.mono hle1⟩ (hrw.mono hle1) hwl hsz hsnd) ?_); rintro v21 w hcase
      obtain ⟨pf, bb, H2, hle2, rfl, hs, hT, hF⟩ : ∃ pf bb H2, HLe H1 H2 ∧ v21 = .tuple #[pf, .bool bb] ∧ St H2 w (.blk b2 [I s.many, vl] :: σ) ∧ (bb = false → pf = .pointer none ∧ OpenS s.arcs (wtOf ws s.n) s.n) ∧
          (bb = true → ∃ bf bt bl cl ts lf vl sp, pf = .pointer (some ⟨bf, 0, none⟩) ∧ FlowH H2 bf s ts lf vl bt bl cl sp ∧ FlowOk s.n s.arcs (wtOf ws s.n) ts) := by
        rcases hcase with ⟨rfl, h1, h2⟩ | ⟨H2, bf, bt, bl, cl, ts, lf, vl, sp, h1, rfl, h2, h3, h4⟩
        · exact ⟨_, false, H1, HLe.refl _, rfl, h2, fun _ => ⟨rfl, h1⟩, fun h => by cases h⟩
        · exact ⟨_, true, H2, h1, rfl, h4, fun h => (by cases h), fun _ => ⟨bf, bt, bl, cl, ts, lf, vl, sp, rfl, h2, h3⟩⟩
      refine .z zm (.z zex (.z zex (.z zg (.z zg (.nil (.seq (.regSeq (.z zm (.z znot ?_)))))))))
      refine .nil ?_
      refine (.cond rfl (fun hc25 => ?_) (fun hc25 => ?_))
      · refine .regSeq (.z zg (.z zg (.nil ?_)))
        refine .ret (rT (Fin.ret2 Try.results140 rfl rfl ?_))
        exact ⟨H2, _, _, hle1.trans hle2, rfl, .opn hc13 hsnd (hT (by simpa using hc25)).2, hs.tail, fun _ => rfl, fun h => by cases h⟩
      · refine .skip ?_
        refine nT ?_
        refine .regSeq (.z zm (.z zg (.z zg (.nil ?_))))
        refine .ret (Fin.ret2 Try.results140 rfl rfl ?_)
        obtain ⟨bf, bt, bl, cl, ts, lf, vl, sp, rfl, h2, h3⟩ := hF (by simpa using hc25)
        have hn0 : 0 < s.n := by simp [Syst.n]
        have hn1 : s.n ≤ 65 := by have := hok.m0; have := hok.m1; simp only [Syst.n]; omega
        have hsz' : sizesTo ws s.n ≤ FF := by unfold SizedW at hsz; rwa [hwl] at hsz
        exact ⟨H2, _, _, hle1.trans hle2, rfl, .ok hc13 hsnd (h3.value hn0 hn1 hok.arcs hsz').2.1, hs.tail, fun h => (h rfl).elim, fun _ => ⟨bf, bt, bl, cl, ts, lf, vl, sp, rfl, h2, h3, hok, hsz'⟩⟩
theorem bound_flow_bound_spec {H : Heap} {w : World} {σ : List Ent} {bf bt bl cl : Nat} {s : Syst} {ts lf ws : List Int} {vl : Value} {sp : List Value} (hs : St H w σ) (hok : s.Ok) (hF : FlowH H bf s ts lf vl bt bl cl sp) (hFo : FlowOk s.n s.arcs (wtOf ws s.n) ts) (hsz : sizesTo ws s.n ≤ FF) :
    Cl Try.prog 141 [.pointer (some ⟨bf, 0, none⟩)] w fun v w' => v = I (dot s.arcs ts (·.c)) ∧ OptS s.arcs (s.wt ws) s.n (dot s.arcs ts (·.c)) ∧ dot s.arcs ts (·.c) ≤ BB ∧ -BB ≤ dot s.arcs ts (·.c) ∧ St H w' σ := by
  obtain ⟨hFf, hFl, hFt, hFd⟩ := hF
  obtain ⟨al, cpl, rfl⟩ := RL.shape hFl
  have hlim := hok.len
  have hal : s.arcs.length = s.lims.length := by simp [Syst.arcs, arcsOf_length]
  have hlt := hFo.lt
  have hn0 : 0 < s.n := by simp [Syst.n]
  have hn1 : s.n ≤ 65 := by have := hok.m0; have := hok.m1; simp only [Syst.n]; omega
  have hv := hFo.value hn0 hn1 hok.arcs hsz
  have hd := dot_dotTo (es := s.arcs) hlt
  have hf1 : cellAt H bf 1 = some (.slice al s.lims.length cpl) := hFf.at 1
  have hf2 : cellAt H bf 2 = some (.slice (some ⟨bt, 0, none⟩) ts.length ts.length) := hFf.at 2
  refine Cl.of Try.func141 rfl Try.ntmps141 (by simp) (args_cons (k := 0) rfl (args0)) ?_
  refine .regSeq (.z zg (.nil (.regSeq (.z zg (.nil (.seq (.regSeq (.z zm (.z znc ?_)))))))))
  refine .z (zfa fa_bound_flow_0) (.z (zfa fa_api_System_1) (.y hs (zld Try.isAgg30) (.z (zlen Try.runUnderlying30) (.z zm (.nil ?_)))))
  refine .for (N := s.lims.length) (J := fun k fr w => fr = [(10, .slice al s.lims.length cpl), (3, I (IntKind.i64.wrap (dotTo s.arcs ts k))), (0, .pointer (some ⟨bf, 0, none⟩))] ∧ St H w σ) (by omega) ?_ ?_ ?_
  · exact .mk ⟨rfl, hs⟩ (hs := .cons rfl (.cons rfl (.cons rfl (.consI rfl (by simp [dotTo, sumTo, i64wrap_eq]) (.cons rfl (.nil rfl rfl))))))
  · rintro k fr w hk ⟨rfl, hs⟩
    obtain ⟨l, hl⟩ := nth hk
    have hg : (ga s.arcs k).c = l.M := by simp [ga, Syst.arcs, arcsOf_get hl, Lim.arc]
    have hlm := hok.lim l (List.mem_of_getElem? hl)
    have hkt : k < ts.length := by omega
    have htb := hFo.nn k (by omega)
    have hct : cellAt H bt k = some (I (gi ts k)) := hFt.at k (Is_gi hkt)
    have hmul : gi ts k * l.M ≤ 72000000000000000 ∧ -72000000000000000 ≤ gi ts k * l.M := by
      simp only [FF] at htb
      have g1 : gi ts k * l.M ≤ gi ts k * 20000 := Int.mul_le_mul_of_nonneg_left hlm.2.2.2.1.2 htb.1
      have g2 : gi ts k * (-20000) ≤ gi ts k * l.M := Int.mul_le_mul_of_nonneg_left hlm.2.2.2.1.1 htb.1
      omega
    refine .block (.regSeq (.z zm ?_))
    refine .ixX hs hFl rfl rfl Try.runUnderlying30 Try.sizeOf100 hl rfl ?_; intro b15 o15 hc15
    refine .q hs (q_loadsR (vs := l.c) rfl Try.isAgg100 Try.sizeOf100 hc15) ?_
    refine .o (.alloc hs Try.zeroValue100 rfl ?_); intro b5 w hs
    refine .z zg ?_
    refine .o (.stores (vs := l.c) hs rfl rfl Try.sizeOf100 ?_); intro w hs
    refine .nil ?_
    refine .draw mix rfl hs ?_; intro w hs
    refine .z 0 rfl zm ?_; refine .z 1 rfl zm ?_; refine .z 2 rfl znc ?_; refine .z 3 rfl (zfa fa_bound_flow_1) ?_; refine .y 4 rfl hs Try.isAgg22 ?_; refine .z 5 rfl zm ?_
    refine .p (i := 6) rfl (by kernel_rfl) .none (q_ixO (k := k) rfl rfl Try.runUnderlying22 Try.sizeOf3 rfl hkt) ?_
    refine .r (i := 7) hs rfl (by kernel_rfl) .none (q_loadR rfl Try.isAgg3 hct) ?_
    refine .z 8 rfl (zfa fa_api_Limit_2) ?_; refine .y 9 rfl hs Try.isAgg3 ?_; refine .z 10 rfl zmul ?_
    refine .p (i := 11) rfl (by kernel_rfl) .none (q_add rfl rfl) ?_
    refine .z 12 rfl zg ?_; refine .done (by kernel_rfl) hs ?_
    refine nB (nT ?_)
    exact .mk ⟨rfl, hs.tail⟩ (hs := .cons rfl (.cons rfl (.cons rfl (.consI rfl (by rw [i64wrap_add]; simp only [dotTo, sumTo, hg]) (.cons rfl (.nil rfl rfl))))))
  · rintro fr w ⟨rfl, hs⟩
    rw [← hal, ← hd, i64wrap (by have := hv.2.2; simp only [BB] at this; omega)]
    refine nT ?_
    refine .regSeq (.z zm (.z zg (.nil ?_)))
    refine .ret (Fin.ret1 Try.results141 rfl ?_)
    exact ⟨rfl, hv.1, hv.2.2.1, hv.2.2.2, hs⟩
theorem bound_Most_spec {H : Heap} {w : World} {σ : List Ent} {v vw : Value} {s : Syst} {ws : List Int} (hs : St H w σ) (hr : RSy H v s) (hrw : RI H vw ws) :
    Cl Try.prog 56 [v, vw] w fun v w' => ∃ H1 n e, HLe H H1 ∧ v = .tuple #[I n, I e] ∧ MostR s ws n e ∧ St H1 w' σ := by
  obtain ⟨vl, rfl, hr⟩ := hr
  refine Cl.of Try.func56 rfl Try.ntmps56 (by simp) (args_cons (k := 0) rfl (args_cons (k := 1) rfl (args0))) ?_
  refine .regSeq ?_
  refine .o (.box hs rfl rfl ?_); intro b2 w hs
  refine .z zg (.z zg (.nil (.regSeq (.y hs (zls [_, _] Try.isAgg32 Try.sizeOf32) (.z zm ?_)))))
  refine .o (.call Try.call140 rfl (bound_asked_spec (s := s) hs ⟨_, rfl, hr⟩ hrw) ?_); rintro _ w ⟨H1, e, pf, hle1, rfl, hA, hs, hne, heq⟩
  refine .z zm (.z zex (.z zex (.z zg (.z zg (.nil (.seq (.regSeq (.z zm (.z zneq ?_)))))))))
  refine .nil ?_
  refine (.condN rfl (fun hc15 => ?_) (fun hc15 => ?_))
  · refine .regSeq (.z zm (.z zg (.z zg (.nil ?_))))
    refine .ret (rT (Fin.ret2 Try.results56 rfl rfl ?_))
    exact ⟨H1, _, _, hle1, rfl, ⟨hA, fun _ => rfl, fun h => (hc15 h).elim⟩, hs.tail⟩
  · refine .skip ?_
    refine nT ?_
    refine .regSeq (.z zm ?_)
    subst hc15
    obtain ⟨bf, bt, bl, cl, ts, lf, vl, sp, rfl, hF, hFo, hok, hsz⟩ := heq rfl
    refine .o (.call Try.call141 rfl (bound_flow_bound_spec hs hok hF hFo hsz) ?_); rintro _ w ⟨rfl, h1, h2, h3, hs⟩
    refine .z zg (.z zg (.nil ?_))
    refine .ret (Fin.ret2 Try.results56 rfl rfl ?_)
    exact ⟨H1, _, _, hle1, rfl, ⟨hA, fun h => (h rfl).elim, fun _ => ⟨h1, h2, h3⟩⟩, hs.tail⟩
theorem bound_turned_spec {H : Heap} {w : World} {σ : List Ent} {vw : Value} {ws : List Int} (hs : St H w σ) (hrw : RI H vw ws) (hlw : ws.length ≤ 1000000) (hb : ∀ k, -9223372036854775807 ≤ gi ws k ∧ gi ws k ≤ 9223372036854775807) :
    Cl Try.prog 146 [vw] w fun v w' => ∃ H1, HLe H H1 ∧ RI H1 v (negW ws) ∧ St H1 w' σ := by
  obtain ⟨aw, cw, rfl⟩ := RI.shape hrw
  refine Cl.of Try.func146 rfl Try.ntmps146 (by simp) (args_cons (k := 0) rfl (args0)) ?_
  refine .regSeq (.z zg (.nil (.regSeq (.z zm (.z (zlen Try.runUnderlying22) ?_)))))
  refine .o (.makeI ws.length hs rfl rfl Try.runUnderlying22 Try.typeInfo3 rfl Try.sizeOf3 Try.zeroValue3 (by omega) ?_); intro b8 w hs
  refine .z zg (.nil (.seq (.regSeq (.z zm (.z (zlen Try.runUnderlying22) (.z zm (.nil ?_)))))))
  refine .for (N := ws.length) (J := fun k fr w => fr = [(9, .slice aw ws.length cw), (3, .slice (some ⟨b8, 0, none⟩) ws.length ws.length)] ∧ ∃ L, (L.length = ws.length ∧ ∀ v < ws.length, gi L v = if v < k then -gi ws v else 0) ∧ St H w (.blk b8 (Is L) :: σ)) (by omega) ?_ ?_ ?_
  · exact .mk ⟨rfl, _, ⟨by simp, fun v hv => by rw [gi_replicate _ _ hv, if_neg (by omega)]⟩, hs⟩
  · rintro k fr w hk ⟨rfl, L, ⟨hL1, hL2⟩, hs⟩
    have hx := gi_get hk
    have hbk := hb k
    refine .block (.regSeq (.z zm ?_))
    first | (refine .ixv hs Try.runUnderlying22 Try.sizeOf3 ?_; intro b14 o14 hc14) | refine .z (zix Try.runUnderlying22 Try.sizeOf3) ?_
    refine .y hs (zld Try.isAgg3) (.z zg (.z zg (.nil (.region (.z zm (.z zm (.z zm (.z zneg ?_))))))))
    first | (refine .ixv hs Try.runUnderlying22 Try.sizeOf3 ?_; intro b20 o20 hc20) | refine .z (zix Try.runUnderlying22 Try.sizeOf3) ?_
    refine .o (.store hs rfl rfl Try.sizeOf3 ?_); intro w hs
    refine .nil ?_
    refine nB (nT ?_)
    refine .mk ⟨rfl, _, ⟨by rw [List.length_set]; exact hL1, fun v hv => ?_⟩, hs⟩
    rw [gi_set (by omega)]
    by_cases e : v = k
    · subst e; rw [if_pos rfl, if_pos (by omega)]
    · rw [if_neg e, hL2 v hv]; congr 1; apply propext; omega
  · rintro fr w ⟨rfl, L, ⟨hL1, hL2⟩, hs⟩
    obtain rfl : L = negW ws := ext_gi (by simp [hL1, negW]) (fun k hk => by rw [hL2 k (by omega), if_pos (by omega), gi_neg])
    refine nT ?_
    refine .regSeq (.z zm (.z zg (.nil ?_)))
    refine .ret (Fin.ret1 Try.results146 rfl ?_)
    obtain ⟨H1, g1, g2, hs⟩ := hs.publish .here
    refine ⟨H1, g1, ?_, hs⟩
    rw [← hL1]
    exact Row.RI (spare := []) (by simpa using g2) _ (Nat.le_refl _) (by omega)
theorem bound_Range_spec {H : Heap} {w : World} {σ : List Ent} {v vw : Value} {s : Syst} {ws : List Int} (hs : St H w σ) (hr : RSy H v s) (hrw : RI H vw ws) :
    Cl Try.prog 60 [v, vw] w fun v w' => ∃ H1 lo hi e, HLe H H1 ∧ v = .tuple #[I lo, I hi, I e] ∧ RangeR s ws lo hi e ∧ St H1 w' σ := by
  obtain ⟨vl, rfl, hr⟩ := hr
  refine Cl.of Try.func60 rfl Try.ntmps60 (by simp) (args_cons (k := 0) rfl (args_cons (k := 1) rfl (args0))) ?_
  refine .regSeq ?_
  refine .o (.box hs rfl rfl ?_); intro b2 w hs
  refine .z zg (.z zg (.z zg (.nil (.regSeq (.y hs (zls [_, _] Try.isAgg32 Try.sizeOf32) (.z zm ?_))))))
  refine .o (.call Try.call140 rfl (bound_asked_spec (s := s) hs ⟨_, rfl, hr⟩ hrw) ?_); rintro _ w ⟨H1, e, pf, hle1, rfl, hA, hs, hne, heq⟩
  refine .z zm (.z zex (.z zex (.z zg (.z zg (.nil (.seq (.regSeq (.z zm (.z zneq ?_)))))))))
  refine .nil ?_
  refine (.condN rfl (fun hc16 => ?_) (fun hc16 => ?_))
  · refine .regSeq (.z zm (.z zg (.z zg (.z zg (.nil ?_)))))
    refine .ret (rT (Fin.ret3 Try.results60 rfl rfl rfl ?_))
    exact ⟨H1, _, _, _, hle1, rfl, .first ⟨hA, fun _ => rfl, fun h => (hc16 h).elim⟩ hc16, hs.tail⟩
  · refine .skip ?_
    refine nT ?_
    refine .seq (.draw mix rfl hs ?_); intro w hs
    refine .ys 0 rfl hs [_, _] Try.isAgg32 Try.sizeOf32 ?_; refine .z 1 rfl zm ?_
    refine .e1 (i := 2) (by kernel_rfl) rfl rfl .none hs ?_
    subst hc16
    obtain ⟨bf, bt, bl, cl, ts, lf, vl', sp, rfl, hF, hFo, hok, hsz⟩ := heq rfl
    have hwl := (askErr_ok hA.zero.1).2.1
    have hbw : ∀ k, -9223372036854775807 ≤ gi ws k ∧ gi ws k ≤ 9223372036854775807 := fun k => by
      simp only [FF] at hsz
      by_cases hk : k < s.n
      · have := sizes_at ws hk; omega
      · have : gi ws k = 0 := by simp [gi, List.getElem?_eq_none (show ws.length ≤ k by omega)]
        omega
    refine .call Try.call146 rfl (bound_turned_spec hs (hrw.mono hle1) (by have := hok.m1; simp only [Syst.n] at hwl; omega) hbw) ?_; rintro v21 w ⟨H2, hle2, hr21, hs⟩
    refine .go ?_
    refine .e1 (i := 3) (by kernel_rfl) rfl rfl .none hs ?_
    refine .call Try.call140 rfl (bound_asked_spec (s := s) hs ⟨_, rfl, hr.mono (hle1.trans hle2)⟩ hr21) ?_; rintro _ w ⟨H3, e2, pg, hle3, rfl, hA2, hs, hne2, heq2⟩
    refine .go ?_
    refine .z 4 rfl zm ?_; refine .z 5 rfl zex ?_; refine .z 6 rfl zex ?_; refine .z 7 rfl zg ?_; refine .z 8 rfl zg ?_; refine .done (by kernel_rfl) hs ?_
    refine .seq (.regSeq (.z zm (.z zneq (.nil ?_))))
    refine (.condN rfl (fun hc26 => ?_) (fun hc26 => ?_))
    · refine .regSeq (.z zm (.z zg (.z zg (.z zg (.nil ?_)))))
      refine .ret (rT (Fin.ret3 Try.results60 rfl rfl rfl ?_))
      obtain ⟨q1, q2, q3, q4⟩ := hFo.value (by simp [Syst.n]) (by have := hok.m0; have := hok.m1; simp only [Syst.n]; omega) hok.arcs hsz
      exact ⟨H3, _, _, _, hle1.trans (hle2.trans hle3), rfl, .second ⟨hA, fun h => (h rfl).elim, fun _ => ⟨q1, q3, q4⟩⟩ ⟨hA2, fun _ => rfl, fun h => (hc26 h).elim⟩ hc26, hs.tail⟩
    · refine .skip ?_
      refine nT ?_
      refine .regSeq (.z zm ?_)
      subst hc26
      obtain ⟨bf2, bt2, bl2, cl2, ts2, lf2, vl2, sp2, rfl, hF2, hFo2, hok2, hsz2⟩ := heq2 rfl
      refine .o (.call Try.call141 rfl (bound_flow_bound_spec hs hok hF2 hFo2 hsz2) ?_); rintro _ w ⟨rfl, a1, a2, a3, hs⟩
      simp only [BB] at a2 a3
      refine .z zneg (.z zm ?_)
      refine .o (.call Try.call141 rfl (bound_flow_bound_spec hs hok (hF.mono (hle2.trans hle3)) hFo hsz) ?_); rintro _ w ⟨rfl, c1, c2, c3, hs⟩
      refine .z zg (.z zg (.z zg (.nil ?_)))
      refine .ret (Fin.ret3 Try.results60 rfl rfl rfl ?_)
      exact ⟨H3, _, _, _, hle1.trans (hle2.trans hle3), rfl, .ok ⟨hA, fun h => (h rfl).elim, fun _ => ⟨c1, c2, c3⟩⟩ ⟨hA2, fun h => (h rfl).elim, fun _ => ⟨a1, by simp only [BB]; omega, by simp only [BB]; omega⟩⟩, hs.tail⟩
end Go.Proofs.Ytiiokdeehlfeeaa

namespace Go.Proofs.Ytiiokdeehlfeeaa
open Go.MW
theorem bound_flow_proof_spec {H : Heap} {w : World} {σ : List Ent} {bf bt bl cl : Nat} {s : Syst} {ts lf ws : List Int} {vl : Value} {sp : List Value} (hs : St H w σ) (hok : s.Ok) (hF : FlowH H bf s ts lf vl bt bl cl sp) (hFo : FlowOk s.n s.arcs (wtOf ws s.n) ts) (hsz : sizesTo ws s.n ≤ FF) :
    Cl Try.prog 148 [.pointer (some ⟨bf, 0, none⟩)] w fun v w' => ∃ H1, HLe H H1 ∧ RPf H1 v (dot s.arcs ts (·.c)) (usesTo ts ts.length) ∧ St H1 w' σ := by
  have hf2 : cellAt H bf 2 = some (.slice (some ⟨bt, 0, none⟩) ts.length ts.length) := hF.f.at 2
  have hlt := hFo.lt
  have hal : s.arcs.length = s.lims.length := by simp [Syst.arcs, arcsOf_length]
  have hlim := hok.len
  refine Cl.of Try.func148 rfl Try.ntmps148 (by simp) (args_cons (k := 0) rfl (args0)) ?_
  refine .regSeq ?_
  refine .o (.alloc hs Try.zeroValue40 rfl ?_); intro b2 w hs
  refine .nil (.regSeq (.z zm ?_))
  refine .o (.call Try.call141 rfl (bound_flow_bound_spec hs hok hF hFo hsz) ?_); rintro _ w ⟨rfl, c1, c2, c3, hs⟩
  refine .z (zbd [_, _] bld_api_Proof) ?_
  refine .o (.alloc hs Try.zeroValue40 rfl ?_); intro b3 w hs
  refine .o (.stores (vs := [_, _]) hs rfl rfl Try.sizeOf40 ?_); intro w hs
  refine .nil (.seq (.regSeq (.z zm (.z znc (.z (zfa fa_bound_flow_1) (.y hs (zld Try.isAgg22) (.z (zlen Try.runUnderlying22) (.z zm (.nil ?_)))))))))
  refine .for (N := ts.length) (J := fun k fr w => fr = [(12, .slice (some ⟨bt, 0, none⟩) ts.length ts.length), (3, .pointer (some ⟨b3, 0, none⟩)), (2, .pointer (some ⟨b2, 0, none⟩))] ∧   ∃ vu en, OwnS 2 vu (Uses (usesTo ts k)) en ∧ St H w (.blk b3 [I (dot s.arcs ts (·.c)), vu] :: .blk b2 [I 0, .slice none 0 0] :: en :: σ)) (by omega) ?_ ?_ ?_
  · exact .mk ⟨rfl, _, .nul, .nil 2 none, (hs.nul).sub (by repeat (first | exact Sub.refl _ | constructor | apply Sub.weaken))⟩
  · rintro k fr w hk ⟨rfl, vu, en, hO, hs⟩
    have hct : cellAt H bt k = some (I (gi ts k)) := hF.t.at k (Is_gi hk)
    refine .block (.regSeq (.z zm ?_))
    first | (refine .ixv hs Try.runUnderlying22 Try.sizeOf3 ?_; intro b17 o17 hc17) | refine .z (zix Try.runUnderlying22 Try.sizeOf3) ?_
    refine .q hs (q_loadR rfl Try.isAgg3 hct) ?_
    refine .z zg (.z zg (.nil (.regSeq (.z zm (.z zgtr (.nil ?_))))))
    refine (.condD rfl (fun hc20 => ?_) (fun hc20 => ?_))
    · refine .region (.z (zfa fa_api_Proof_1) (.y hs (zld Try.isAgg38) (.z zm (.z zm (.z (zbd [_, _] bld_api_Use) ?_)))))
      refine .o (.buildSlice (cells := [I k, I (gi ts k)]) hs bls_sl_api_Use_1 rfl rfl ?_); intro b26 w hs
      refine .o (.append (ys := [I k, I (gi ts k)]) hs app_sl_api_Use_api_Use rfl rfl hO (.own .here rfl rfl) (by simp [Value.oneCell']) (fun l h => by rw [Uses_length] at h; have := usesTo_length ts k; omega) ?_); intro v27 en27 w hO2 hs
      obtain ⟨a27, l27, c27, rfl, h27⟩ := hO2.shape
      refine .z (zfa fa_api_Proof_1) ?_
      refine .o (.store hs rfl rfl Try.sizeOf38 ?_); intro w hs
      refine .nil ?_
      refine nB (nT ?_)
      have e : Uses (usesTo ts k) ++ [I k, I (gi ts k)] = Uses (usesTo ts (k + 1)) := by rw [usesTo, if_pos hc20, Uses_append]; rfl
      rw [e] at hO2
      exact .mk ⟨rfl, _, _, hO2, hs.sub (by repeat (first | exact Sub.refl _ | constructor | apply Sub.weaken))⟩
    · refine .skip ?_
      refine nB (nT ?_)
      have e : usesTo ts (k + 1) = usesTo ts k := by rw [usesTo, if_neg hc20]; simp
      exact .mk ⟨rfl, vu, en, by rw [e]; exact hO, hs⟩
  · rintro fr w ⟨rfl, vu, en, hO, hs⟩
    obtain ⟨au, lu, cu, rfl, hlu⟩ := hO.shape
    refine nT ?_
    refine .regSeq (.y hs (zls [_, _] Try.isAgg40 Try.sizeOf40) ?_)
    refine .o (.stores (vs := [_, _]) hs rfl rfl Try.sizeOf40 ?_); intro w hs
    refine .nil ?_
    refine .ret ?_
    obtain ⟨H1, g1, g2, hs⟩ := OwnS.publish (cs := (usesTo ts ts.length).map Use.c) hO (fun c hc => by simp only [List.mem_map] at hc; obtain ⟨x, _, rfl⟩ := hc; rfl) (by omega) (by rw [List.length_map]; have := usesTo_length ts ts.length; omega) hs (by repeat constructor)
    exact Fin.retD [] [] hs fun w hs => ⟨_, results1 Try.results148 (rcells (vs := [_, _]) hs rfl Try.isAgg40 Try.sizeOf40), H1, g1, ⟨_, rfl, g2⟩, hs.out⟩
theorem bound_flow_point_spec {H : Heap} {w : World} {σ : List Ent} {bf bt bl cl : Nat} {s : Syst} {ts lf ws : List Int} {vl : Value} {sp : List Value} (hs : St H w σ) (hok : s.Ok) (hF : FlowH H bf s ts lf vl bt bl cl sp) (hFo : FlowOk s.n s.arcs (wtOf ws s.n) ts) (hsz : sizesTo ws s.n ≤ FF) :
    Cl Try.prog 147 [.pointer (some ⟨bf, 0, none⟩)] w fun v w' => ∃ H1 xs, HLe H H1 ∧ RI H1 v xs ∧ BestR s ws xs ∧ St H1 w' σ := by
  obtain ⟨N, hN⟩ := Int.eq_ofNat_of_zero_le hok.m0
  have hN1 := hok.m1
  have hn : s.n = N + 1 := by simp [Syst.n, hN]
  have hlt := hFo.lt
  have hal : s.arcs.length = s.lims.length := by simp [Syst.arcs, arcsOf_length]
  have hlim := hok.len
  have hf0 : cellAt H bf 0 = some (I (N : Int)) := by have := hF.f.at 0 (v := I s.many); rwa [hN] at this
  have hoka := resid_arcs hok.arcs hlt.symm (by omega)
  rw [hn] at hoka
  refine Cl.of Try.func147 rfl Try.ntmps147 (by simp) (args_cons (k := 0) rfl (args0)) ?_
  refine .regSeq (.z zg (.nil ?_))
  refine .seq (.draw mix rfl hs ?_); intro w hs
  refine .z 0 rfl zm ?_; refine .z 1 rfl znc ?_; refine .z 2 rfl (zfa fa_bound_flow_0) ?_; refine .z 3 rfl (zfa fa_api_System_0) ?_; refine .y 4 rfl hs Try.isAgg3 ?_; refine .z 5 rfl zm ?_
  refine .e1 (i := 6) (by kernel_rfl) rfl rfl .none hs ?_
  refine .call Try.call195 rfl (bound_flow_rest_spec hs hok hF (by omega)) ?_; rintro _ w ⟨H1, b15, hle1, rfl, hit, hs⟩
  refine .go ?_
  refine .e1 (i := 7) (by kernel_rfl) rfl rfl .none hs ?_
  refine .call Try.call173 rfl (bound_nearest_spec hs (by omega) hoka hit Try.call211) ?_; rintro _ w ⟨H2, bc, bb, st, ov, vo, hle2, rfl, hov, ⟨r, hNI, hr⟩, hs⟩
  have hovn : ov = none := by
    cases ov with
    | none => rfl
    | some x => exact (hNI.none hoka (by omega) (by have := hr (by simp); omega) hFo.fe).elim
  subst hovn
  obtain ⟨hfe, hbd⟩ := hNI.sol hoka (by omega)
  have hlc := hNI.lc
  have hb0 := hbd 0 (by omega)
  refine .go ?_
  refine .z 8 rfl zm ?_; refine .z 9 rfl zex ?_; refine .z 10 rfl zex ?_; refine .z 11 rfl zex ?_; refine .z 12 rfl zg ?_; refine .z 13 rfl zg ?_; refine .z 14 rfl zg ?_; refine .done (by kernel_rfl) hs ?_
  refine .regSeq (.z zm ?_)
  refine .q hs (q_ixO (k := 0) rfl rfl Try.runUnderlying22 Try.sizeOf3 rfl (by omega)) ?_
  refine .y hs (zld Try.isAgg3) (.z zg (.nil (.seq (.regSeq (.z zm (.z (zlen Try.runUnderlying22) (.z zm (.nil ?_))))))))
  refine .for (N := N + 1) (J := fun k fr w => fr = [(3, .slice (some ⟨bc, 0, none⟩) (N + 1) (N + 1)), (6, I (gi st.cost 0))] ∧ ∃ L, (L.length = N + 1 ∧ ∀ v < N + 1, gi L v = if v < k then gi st.cost v - gi st.cost 0 else gi st.cost v) ∧ St H2 w (.blk bc (Is L) :: σ)) (by omega) ?_ ?_ ?_
  · exact .mk ⟨rfl, st.cost, ⟨hlc, fun v hv => by rw [if_neg (by omega)]⟩, hs.sub (by repeat (first | exact Sub.refl _ | constructor | apply Sub.weaken))⟩
  · rintro k fr w hk ⟨rfl, L, ⟨hL1, hL2⟩, hs⟩
    have hLk := hL2 k hk
    rw [if_neg (by omega)] at hLk
    have hbk := hbd k hk
    refine .block (.regSeq (.z zm (.z zg (.nil (.region (.z zm (.z zm ?_)))))))
    first | (refine .ixv hs Try.runUnderlying22 Try.sizeOf3 ?_; intro b30 o30 hc30) | refine .z (zix Try.runUnderlying22 Try.sizeOf3) ?_
    refine .y hs (zld Try.isAgg3) (.z zm (.z zsub ?_))
    first | (refine .ixv hs Try.runUnderlying22 Try.sizeOf3 ?_; intro b34 o34 hc34) | refine .z (zix Try.runUnderlying22 Try.sizeOf3) ?_
    refine .o (.store hs rfl rfl Try.sizeOf3 ?_); intro w hs
    refine .nil ?_
    refine nB (nT ?_)
    refine .mk ⟨rfl, _, ⟨by rw [List.length_set]; exact hL1, fun v hv => ?_⟩, hs⟩
    rw [gi_set (by omega)]
    by_cases e : v = k
    · subst e; rw [if_pos rfl, if_pos (by omega), hLk]
    · rw [if_neg e, hL2 v hv]; congr 1; apply propext; omega
  · rintro fr w ⟨rfl, L, ⟨hL1, hL2⟩, hs⟩
    refine nT ?_
    refine .regSeq (.z zm (.z zg (.nil ?_)))
    refine .ret (Fin.ret1 Try.results147 rfl ?_)
    obtain ⟨H3, g1, g2, hs⟩ := hs.publish .here
    have hg : ∀ v < N + 1, gi L v = gi st.cost v - gi st.cost 0 := fun v hv => by rw [hL2 v hv, if_pos hv]
    obtain ⟨p1, p2⟩ := hFo.point (by omega) hok.arcs hfe
    refine ⟨H3, L, hle1.trans (hle2.trans g1), ?_, ⟨by omega, by rw [hg 0 (by omega)]; omega, fun v hv => ?_, fun x hx => ?_, ?_⟩, hs⟩
    · have := Row.RI (spare := []) (by simpa using g2) (N + 1) (by omega) (by omega)
      rwa [hL1] at this
    · have := hbd v (by omega)
      rw [hg v (by omega)]; omega
    · have h1 := hok.arcs.2 x hx
      have h2 := p2 x hx
      rw [hg _ (by omega), hg _ (by omega)]; omega
    · have h1 := hFo.value (by omega) (by omega) hok.arcs hsz
      rw [← p1] at h1
      have e : sumTo (fun v => gi ws v * gi L v) s.n = sumTo (fun v => gi ws v * (gi st.cost v - gi st.cost 0)) s.n := sumTo_congr fun v hv => by rw [hg v (by omega)]
      rw [e]; exact h1.1
theorem bound_Best_spec {H : Heap} {w : World} {σ : List Ent} {v vw : Value} {s : Syst} {ws : List Int} (hs : St H w σ) (hr : RSy H v s) (hrw : RI H vw ws) :
    Cl Try.prog 61 [v, vw] w fun v w' => ∃ H1 vx xs e, HLe H H1 ∧ v = .tuple #[vx, I e] ∧ AskR s ws e ∧ RI H1 vx xs ∧ (e ≠ 0 → xs = []) ∧ (e = 0 → BestR s ws xs) ∧ St H1 w' σ := by
  obtain ⟨vl, rfl, hr⟩ := hr
  refine Cl.of Try.func61 rfl Try.ntmps61 (by simp) (args_cons (k := 0) rfl (args_cons (k := 1) rfl (args0))) ?_
  refine .regSeq ?_
  refine .o (.box hs rfl rfl ?_); intro b2 w hs
  refine .z zg (.z zg (.nil (.regSeq (.y hs (zls [_, _] Try.isAgg32 Try.sizeOf32) (.z zm ?_)))))
  refine .o (.call Try.call140 rfl (bound_asked_spec (s := s) hs ⟨_, rfl, hr⟩ hrw) ?_); rintro _ w ⟨H1, e, pf, hle1, rfl, hA, hs, hne, heq⟩
  refine .z zm (.z zex (.z zex (.z zg (.z zg (.nil (.seq (.regSeq (.z zm (.z zneq ?_)))))))))
  refine .nil ?_
  refine (.condN rfl (fun hc15 => ?_) (fun hc15 => ?_))
  · refine .regSeq (.z zm (.z zg (.z zg (.nil ?_))))
    refine .ret (rT (Fin.ret2 Try.results61 rfl rfl ?_))
    exact ⟨H1, _, [], _, hle1, rfl, hA, RS.nil H1 1 none 0, fun _ => rfl, fun h => (hc15 h).elim, hs.tail⟩
  · refine .skip ?_
    refine nT ?_
    refine .regSeq (.z zm ?_)
    subst hc15
    obtain ⟨bf, bt, bl, cl, ts, lf, vl, sp, rfl, hF, hFo, hok, hsz⟩ := heq rfl
    refine .o (.call Try.call147 rfl (bound_flow_point_spec hs hok hF hFo hsz) ?_); rintro v18 w ⟨H2, xs, hle2, hx, hB, hs⟩
    refine .z zg (.z zg (.nil ?_))
    refine .ret (Fin.ret2 Try.results61 rfl rfl ?_)
    exact ⟨H2, _, xs, _, hle1.trans hle2, rfl, hA, hx, fun h => (h rfl).elim, fun _ => hB, hs.tail⟩
theorem bound_Prove_spec {H : Heap} {w : World} {σ : List Ent} {v vw : Value} {s : Syst} {ws : List Int} (hs : St H w σ) (hr : RSy H v s) (hrw : RI H vw ws) :
    Cl Try.prog 62 [v, vw] w fun v w' => ∃ H1 vp n us e, HLe H H1 ∧ v = .tuple #[vp, I e] ∧ MostR s ws n e ∧ RPf H1 vp n us ∧ (e ≠ 0 → us = []) ∧ (e = 0 → s.Ok ∧ sizesTo ws s.n ≤ FF ∧ ∃ ts, FlowOk s.n s.arcs (wtOf ws s.n) ts ∧ n = dot s.arcs ts (·.c) ∧ us = usesTo ts ts.length) ∧ St H1 w' σ := by
  obtain ⟨vl, rfl, hr⟩ := hr
  refine Cl.of Try.func62 rfl Try.ntmps62 (by simp) (args_cons (k := 0) rfl (args_cons (k := 1) rfl (args0))) ?_
  refine .regSeq ?_
  refine .o (.box hs rfl rfl ?_); intro b2 w hs
  refine .o (.alloc hs Try.zeroValue40 rfl ?_); intro b4 w hs
  refine .z zg (.nil (.regSeq (.y hs (zls [_, _] Try.isAgg32 Try.sizeOf32) (.z zm ?_))))
  refine .o (.call Try.call140 rfl (bound_asked_spec (s := s) hs ⟨_, rfl, hr⟩ hrw) ?_); rintro _ w ⟨H1, e, pf, hle1, rfl, hA, hs, hne, heq⟩
  refine .z zm (.z zex (.z zex (.z zg (.z zg (.nil (.seq (.regSeq (.z zm (.z zneq ?_)))))))))
  refine .nil ?_
  refine (.condN rfl (fun hc15 => ?_) (fun hc15 => ?_))
  · refine .regSeq (.z (zbd [_, _] bld_api_Proof) (.z zm ?_))
    refine .o (.stores (vs := [_, _]) hs rfl rfl Try.sizeOf40 ?_); intro w hs
    refine .z zg (.nil ?_)
    refine .ret (rT (?_))
    exact Fin.retD [] [] hs fun w hs => ⟨_, results2 Try.results62 (rcells (vs := [_, _]) hs rfl Try.isAgg40 Try.sizeOf40) rfl, H1, _, 0, [], _, hle1, rfl, ⟨hA, fun _ => rfl, fun h => (hc15 h).elim⟩, ⟨_, rfl, RS.nil H1 2 none 0⟩, fun _ => rfl, fun h => (hc15 h).elim, hs.out⟩
  · refine .skip ?_
    refine nT ?_
    refine .regSeq (.z zm ?_)
    subst hc15
    obtain ⟨bf, bt, bl, cl, ts, lf, vl, sp, rfl, hF, hFo, hok, hsz⟩ := heq rfl
    refine .o (.call Try.call148 rfl (bound_flow_proof_spec hs hok hF hFo hsz) ?_); rintro _ w ⟨H2, hle2, ⟨vu, rfl, hU⟩, hs⟩
    obtain ⟨au, cu, rfl⟩ := RU.shape hU
    obtain ⟨q1, q2, q3, q4⟩ := hFo.value (by simp [Syst.n]) (by have := hok.m0; have := hok.m1; simp only [Syst.n]; omega) hok.arcs hsz
    refine .o (.stores (vs := [_, _]) hs rfl rfl Try.sizeOf40 ?_); intro w hs
    refine .z zg (.nil ?_)
    refine .ret ?_
    exact Fin.retD [] [] hs fun w hs => ⟨_, results2 Try.results62 (rcells (vs := [_, _]) hs rfl Try.isAgg40 Try.sizeOf40) rfl, H2, _, _, _, _, hle1.trans hle2, rfl, ⟨hA, fun h => (h rfl).elim, fun _ => ⟨q1, q3, q4⟩⟩, ⟨_, rfl, hU⟩, fun h => (h rfl).elim, fun _ => ⟨hok, hsz, ts, hFo, rfl, rfl⟩, hs.out⟩
end Go.Proofs.Ytiiokdeehlfeeaa

namespace Go.Proofs.Ytiiokdeehlfeeaa
open Go.MW
theorem slices_Clone_Lim {H : Heap} {w : World} {σ : List Ent} {v : Value} {xs : List Lim} (hs : St H w σ) (hr : RL H v xs) (hx : xs.length ≤ 1000000) : Cl Try.prog 143 [v] w fun v w' => ∃ en, OwnS 4 v (Lims xs) en ∧ St H w' (en :: σ) := by
  obtain ⟨a, c, rfl⟩ := RL.shape hr
  refine Cl.of Try.func143 rfl Try.ntmps143 (by simp) (args_cons (k := 0) rfl (args0)) ?_
  refine .regSeq (.z zg (.nil (.seq (.regSeq (.z zm ?_)))))
  refine .q hs (q_eqSN rfl rfl Try.runUnderlying30) ?_
  refine .nil ?_
  refine (.cond rfl (fun hc4 => ?_) (fun hc4 => ?_))
  · refine .regSeq (.z zg (.nil ?_))
    refine .ret (rT (Fin.ret1 Try.results143 rfl ?_))
    obtain rfl : a = none := by simpa using hc4
    obtain rfl := RL.nilOf hr
    exact ⟨.nul, .nil 4 none, hs.nul⟩
  · refine .skip ?_
    refine nT ?_
    refine .regSeq ?_
    refine .o (.buildSlice (cells := []) hs bls_sl_api_Limit_0 rfl rfl ?_); intro b5 w hs
    refine .z zm ?_
    refine .o (.append (xs := []) (ys := Lims xs) hs app_sl_api_Limit_api_Limit rfl rfl (.full rfl) (by have := Src.rs (P := Try.prog) (σ := .blk b5 [] :: σ) hr; rw [List.length_map] at this; exact this) (Lims_cell xs) (fun l h => by simp at h; omega) ?_); intro v7 en7 w hO hs
    refine .z zg (.nil ?_)
    refine .ret (Fin.ret1 Try.results143 rfl ?_)
    exact ⟨en7, hO, hs⟩
end Go.Proofs.Ytiiokdeehlfeeaa

namespace Go.Proofs.Ytiiokdeehlfeeaa
open Go.MW
structure Pck where
  probes : List Int
  width : Int
  bound : Int
  uses : List Use
  fails : List (List Int × List Int)
def Pck.none : Pck := ⟨[], 0, 0, [], []⟩
def RPick (H : Heap) (v : Value) (p : Pck) : Prop := ∃ (vp vu vf : Value) (css : List (List Value)), v = .agg #[vp, I p.width, I p.bound, vu, vf] ∧ RI H vp p.probes ∧ RU H vu p.uses ∧ RS H 2 vf css ∧ css.length = p.fails.length ∧ ∀ (j : Nat) (c : List Value) (t : List Int × List Int), css[j]? = some c → p.fails[j]? = some t → TwC H c t
theorem RPick.nil (H : Heap) : RPick H (.agg #[.slice none 0 0, I 0, I 0, .slice none 0 0, .slice none 0 0]) .none :=
  ⟨_, _, _, [], rfl, RS.nil _ _ _ _, RS.nil _ _ _ _, RS.nil _ _ _ _, rfl, fun _ _ _ h => by simp at h⟩
end Go.Proofs.Ytiiokdeehlfeeaa

namespace Go.Proofs.Ytiiokdeehlfeeaa
open Go.MW
theorem ref02_Same_spec {H : Heap} {w : World} {σ : List Ent} {va vb : Value} {A B : List Int} (hs : St H w σ) (hA : RI H va A) (hB : RI H vb B) :
    Cl Try.prog 31 [va, vb] w fun v w' => v = .bool (decide (A = B)) ∧ St H w' σ := by
  obtain ⟨aA, cA, rfl⟩ := RI.shape hA
  obtain ⟨aB, cB, rfl⟩ := RI.shape hB
  have hlA := (RI.len hA).2.2
  have hlB := (RI.len hB).2.2
  refine Cl.of Try.func31 rfl Try.ntmps31 (by simp) (args_cons (k := 0) rfl (args_cons (k := 1) rfl (args0))) ?_
  refine .regSeq (.z zg (.nil (.seq (.regSeq (.z zm (.z (zlen Try.runUnderlying22) (.z zm (.z (zlen Try.runUnderlying22) (.z zneq ?_)))))))))
  refine .nil ?_
  refine (.condN rfl (fun hc10 => ?_) (fun hc10 => ?_))
  · refine .regSeq (.z zg (.nil ?_))
    refine .ret (rT (Fin.ret1 Try.results31 rfl ?_))
    exact ⟨by rw [decide_eq_false (by intro h; subst h; exact hc10 rfl)], hs⟩
  · refine .skip ?_
    refine nT ?_
    refine .seq (.regSeq (.z zm (.z (zlen Try.runUnderlying22) (.z zm (.nil ?_)))))
    refine .for (N := A.length) (J := fun k fr w => fr = [(0, .slice aA A.length cA), (1, .slice aB B.length cB)] ∧ (∀ j < k, A[j]? = B[j]?) ∧ St H w σ) (by omega) ?_ ?_ ?_
    · exact .mk ⟨rfl, fun j h => by omega, hs⟩
    · rintro k fr w hk ⟨rfl, h0, hs⟩
      obtain ⟨xA, hxA⟩ := nth hk
      obtain ⟨xB, hxB⟩ := nth (l := B) (k := k) (by omega)
      refine .block (.regSeq (.z zm (.z zg (.nil ?_))))
      refine .seq (.draw mix rfl hs ?_); intro w hs
      refine .z 0 rfl zm ?_; refine .z 1 rfl zm ?_
      refine .ixX (enc := fun x => [I x]) (i := 2) hs rfl (by kernel_rfl) .none hA rfl rfl Try.runUnderlying22 Try.sizeOf3 hxA rfl ?_; intro b18 o18 hc18; replace hc18 := CellsAt.one hc18
      refine .r (i := 3) hs rfl (by kernel_rfl) .none (q_loadR rfl Try.isAgg3 hc18) ?_
      refine .z 4 rfl zm ?_; refine .z 5 rfl zm ?_
      refine .ixX (enc := fun x => [I x]) (i := 6) hs rfl (by kernel_rfl) .none hB rfl rfl Try.runUnderlying22 Try.sizeOf3 hxB rfl ?_; intro b22 o22 hc22; replace hc22 := CellsAt.one hc22
      refine .r (i := 7) hs rfl (by kernel_rfl) .none (q_loadR rfl Try.isAgg3 hc22) ?_
      refine .z 8 rfl zneq ?_; refine .done (by kernel_rfl) hs ?_
      refine (.condN rfl (fun hc24 => ?_) (fun hc24 => ?_))
      · refine .regSeq (.z zg (.nil ?_))
        refine .ret (rB (rT (rB (rT (Fin.ret1 Try.results31 rfl ?_)))))
        exact ⟨by rw [decide_eq_false (by intro h; subst h; rw [hxA] at hxB; cases hxB; exact hc24 rfl)], hs⟩
      · refine .skip ?_
        refine nB (nT ?_)
        exact .mk ⟨rfl, fun j hj => by
          by_cases e : j = k
          · subst e; rw [hxA, hxB, hc24]
          · exact h0 j (by omega), hs⟩
    · rintro fr w ⟨rfl, h0, hs⟩
      refine nT ?_
      refine .regSeq (.z zg (.nil ?_))
      refine .ret (Fin.ret1 Try.results31 rfl ?_)
      exact ⟨by rw [decide_eq_true (List.ext_getElem? fun j => by
        by_cases e : j < A.length
        · exact h0 j e
        · rw [List.getElem?_eq_none (by omega), List.getElem?_eq_none (by omega)])], hs⟩
end Go.Proofs.Ytiiokdeehlfeeaa

namespace Go.Proofs.Ytiiokdeehlfeeaa
open Go.MW
theorem rem_emod {n m : Int} (hm : 0 < m) : (n.tmod m + m).tmod m = n % m := by
  have h2 := Int.lt_tmod_of_pos n hm
  rw [Int.tmod_eq_emod_of_nonneg (by omega), Int.tmod_def, show n - m * n.tdiv m + m = n + m * (1 - n.tdiv m) by rw [Int.mul_sub]; omega, Int.add_mul_emod_self_left]
end Go.Proofs.Ytiiokdeehlfeeaa

namespace Go.Proofs.Ytiiokdeehlfeeaa
open Go.MW
def ways0 (i j : Nat) : Int := if i = j then 0 else free
theorem ways0_B {n : Nat} (es : List Arc) {T : Nat → Nat → Int} (h : ∀ i j, i < n → j < n → T i j = ways0 i j) : WayB n es 0 T :=
  ⟨fun i hi => by rw [h i i hi hi]; simp [ways0], fun _ _ h => by omega, fun i j hi hj hij => .inl (by rw [h i j hi hj]; simp [ways0, hij])⟩
end Go.Proofs.Ytiiokdeehlfeeaa

namespace Go.Proofs.Ytiiokdeehlfeeaa
open Go.MW
theorem notdec_true {p : Prop} [Decidable p] : (!decide p) = true ↔ ¬ p := by simp
theorem notdec_false {p : Prop} [Decidable p] : (!decide p) = false ↔ p := by simp
theorem ref02_within_spec {H : Heap} {w : World} {σ : List Ent} {a0 a1 a2 : Int} (hs : St H w σ) : Cl Try.prog 111 [I a0, I a1, I a2] w fun v w' => v = .bool (decide (a1 ≤ a0 ∧ a0 ≤ a2)) ∧ St H w' σ := by
  refine Cl.of Try.func111 rfl Try.ntmps111 (by simp) (args_cons (k := 0) rfl (args_cons (k := 1) rfl (args_cons (k := 2) rfl (args0)))) ?_
  refine .regSeq (.z zg (.nil (.regSeq (.z zm (.z zm (.z zleq (.z zm ?_)))))))
  refine .bifD (t' := 10) rfl (fun hb10 => ?_) (fun hb10 => ?_)
  · refine .gT rfl rfl ?_
    refine .z zm ?_
    refine .gT rfl rfl ?_
    refine .z zm ?_
    refine .gT rfl rfl ?_
    refine .z zleq (.z zpT (.z zg (.nil ?_)))
    refine .ret (Fin.ret1 Try.results111 rfl ?_)
    exact ⟨by simp [*], hs.out⟩
  · refine .gFs 3 3 true rfl rfl rfl ?_
    refine .z zpF (.z zg (.nil ?_))
    refine .ret (Fin.ret1 Try.results111 rfl ?_)
    exact ⟨by simp [*], hs.out⟩
theorem ref02_CheckLimit_spec {H : Heap} {w : World} {σ : List Ent} {many : Int} {l : Lim} (hs : St H w σ) : Cl Try.prog 71 [I many, .agg l.c.toArray] w fun v w' => v = I (if decide (0 ≤ many ∧ many ≤ 64) && l.ok many then 0 else 20) ∧ St H w' σ := by
  refine Cl.of Try.func71 rfl Try.ntmps71 (by simp) (args_cons (k := 0) rfl (args_cons (k := 1) rfl (args0))) ?_
  refine .regSeq ?_
  refine .o (.box hs rfl rfl ?_); intro b3 w hs
  refine .z zg (.nil (.seq (.regSeq (.z zm ?_))))
  refine .o (.call Try.call111 rfl (ref02_within_spec hs) ?_); rintro _ w ⟨rfl, hs⟩
  refine .z znot (.z zm ?_)
  refine .bif (t' := 8) rfl (fun hb8 => ?_) (fun hb8 => ?_)
  · refine .gFs 5 3 false rfl rfl rfl ?_
    refine .z zpT (.z zm ?_)
    refine .gFs 5 10 false rfl rfl rfl ?_
    refine .z zpT (.z zm ?_)
    refine .gFs 5 17 false rfl rfl rfl ?_
    refine .z zpT (.z zm ?_)
    refine .gFs 4 24 false rfl rfl rfl ?_
    refine .z zpT (.z zm ?_)
    refine .gFs 4 30 false rfl rfl rfl ?_
    refine .z zpT (.nil ?_)
    refine (.condT rfl rfl ?_)
    refine .regSeq (.z zg (.nil ?_))
    refine .ret (rT (Fin.ret1 Try.results71 rfl ?_))
    (try simp only [notdec_true] at *)
    (try simp only [notdec_false] at *)
    refine ⟨congrArg I ?_, hs.out⟩
    unfold Lim.ok
    first
      | (rw [if_pos (by simp only [Bool.and_eq_true, decide_eq_true_eq]; omega)]; done)
      | (rw [if_neg (by simp only [Bool.and_eq_true, decide_eq_true_eq]; omega)]; done)
  · refine .gT rfl rfl ?_
    refine .z (zfa fa_api_Limit_0) ?_
    refine .gT rfl rfl ?_
    refine .y hs (zld Try.isAgg3) ?_
    refine .gT rfl rfl ?_
    refine .z zm ?_
    refine .gT rfl rfl ?_
    refine .o (.call Try.call111 rfl (ref02_within_spec hs) ?_); rintro _ w ⟨rfl, hs⟩
    refine .gT rfl rfl ?_
    refine .z znot (.z zpF (.z zm ?_))
    refine .bif (t' := 15) rfl (fun hb15 => ?_) (fun hb15 => ?_)
    · refine .gFs 5 10 false rfl rfl rfl ?_
      refine .z zpT (.z zm ?_)
      refine .gFs 5 17 false rfl rfl rfl ?_
      refine .z zpT (.z zm ?_)
      refine .gFs 4 24 false rfl rfl rfl ?_
      refine .z zpT (.z zm ?_)
      refine .gFs 4 30 false rfl rfl rfl ?_
      refine .z zpT (.nil ?_)
      refine (.condT rfl rfl ?_)
      refine .regSeq (.z zg (.nil ?_))
      refine .ret (rT (Fin.ret1 Try.results71 rfl ?_))
      (try simp only [notdec_true] at *)
      (try simp only [notdec_false] at *)
      refine ⟨congrArg I ?_, hs.out⟩
      unfold Lim.ok
      first
        | (rw [if_pos (by simp only [Bool.and_eq_true, decide_eq_true_eq]; omega)]; done)
        | (rw [if_neg (by simp only [Bool.and_eq_true, decide_eq_true_eq]; omega)]; done)
    · refine .gT rfl rfl ?_
      refine .z (zfa fa_api_Limit_1) ?_
      refine .gT rfl rfl ?_
      refine .y hs (zld Try.isAgg3) ?_
      refine .gT rfl rfl ?_
      refine .z zm ?_
      refine .gT rfl rfl ?_
      refine .o (.call Try.call111 rfl (ref02_within_spec hs) ?_); rintro _ w ⟨rfl, hs⟩
      refine .gT rfl rfl ?_
      refine .z znot (.z zpF (.z zm ?_))
      refine .bif (t' := 22) rfl (fun hb22 => ?_) (fun hb22 => ?_)
      · refine .gFs 5 17 false rfl rfl rfl ?_
        refine .z zpT (.z zm ?_)
        refine .gFs 4 24 false rfl rfl rfl ?_
        refine .z zpT (.z zm ?_)
        refine .gFs 4 30 false rfl rfl rfl ?_
        refine .z zpT (.nil ?_)
        refine (.condT rfl rfl ?_)
        refine .regSeq (.z zg (.nil ?_))
        refine .ret (rT (Fin.ret1 Try.results71 rfl ?_))
        (try simp only [notdec_true] at *)
        (try simp only [notdec_false] at *)
        refine ⟨congrArg I ?_, hs.out⟩
        unfold Lim.ok
        first
          | (rw [if_pos (by simp only [Bool.and_eq_true, decide_eq_true_eq]; omega)]; done)
          | (rw [if_neg (by simp only [Bool.and_eq_true, decide_eq_true_eq]; omega)]; done)
      · refine .gT rfl rfl ?_
        refine .z (zfa fa_api_Limit_0) ?_
        refine .gT rfl rfl ?_
        refine .y hs (zld Try.isAgg3) ?_
        refine .gT rfl rfl ?_
        refine .z (zfa fa_api_Limit_1) ?_
        refine .gT rfl rfl ?_
        refine .y hs (zld Try.isAgg3) ?_
        refine .gT rfl rfl ?_
        refine .z zeql (.z zpF (.z zm ?_))
        refine .bifD (t' := 29) rfl (fun hb29 => ?_) (fun hb29 => ?_)
        · refine .gFs 4 24 false rfl rfl rfl ?_
          refine .z zpT (.z zm ?_)
          refine .gFs 4 30 false rfl rfl rfl ?_
          refine .z zpT (.nil ?_)
          refine (.condT rfl rfl ?_)
          refine .regSeq (.z zg (.nil ?_))
          refine .ret (rT (Fin.ret1 Try.results71 rfl ?_))
          (try simp only [notdec_true] at *)
          (try simp only [notdec_false] at *)
          refine ⟨congrArg I ?_, hs.out⟩
          unfold Lim.ok
          first
            | (rw [if_pos (by simp only [Bool.and_eq_true, decide_eq_true_eq]; omega)]; done)
            | (rw [if_neg (by simp only [Bool.and_eq_true, decide_eq_true_eq]; omega)]; done)
        · refine .gT rfl rfl ?_
          refine .z (zfa fa_api_Limit_2) ?_
          refine .gT rfl rfl ?_
          refine .y hs (zld Try.isAgg3) ?_
          refine .gT rfl rfl ?_
          refine .o (.call Try.call111 rfl (ref02_within_spec hs) ?_); rintro _ w ⟨rfl, hs⟩
          refine .gT rfl rfl ?_
          refine .z znot (.z zpF (.z zm ?_))
          refine .bif (t' := 35) rfl (fun hb35 => ?_) (fun hb35 => ?_)
          · refine .gFs 4 30 false rfl rfl rfl ?_
            refine .z zpT (.nil ?_)
            refine (.condT rfl rfl ?_)
            refine .regSeq (.z zg (.nil ?_))
            refine .ret (rT (Fin.ret1 Try.results71 rfl ?_))
            (try simp only [notdec_true] at *)
            (try simp only [notdec_false] at *)
            refine ⟨congrArg I ?_, hs.out⟩
            unfold Lim.ok
            first
              | (rw [if_pos (by simp only [Bool.and_eq_true, decide_eq_true_eq]; omega)]; done)
              | (rw [if_neg (by simp only [Bool.and_eq_true, decide_eq_true_eq]; omega)]; done)
          · refine .gT rfl rfl ?_
            refine .z (zfa fa_api_Limit_3) ?_
            refine .gT rfl rfl ?_
            refine .y hs (zld Try.isAgg3) ?_
            refine .gT rfl rfl ?_
            refine .o (.call Try.call111 rfl (ref02_within_spec hs) ?_); rintro _ w ⟨rfl, hs⟩
            refine .gT rfl rfl ?_
            refine .z znot (.z zpF (.nil ?_))
            refine (.cond rfl (fun hc40 => ?_) (fun hc40 => ?_))
            · refine .regSeq (.z zg (.nil ?_))
              refine .ret (rT (Fin.ret1 Try.results71 rfl ?_))
              (try simp only [notdec_true] at *)
              (try simp only [notdec_false] at *)
              refine ⟨congrArg I ?_, hs.out⟩
              unfold Lim.ok
              first
                | (rw [if_pos (by simp only [Bool.and_eq_true, decide_eq_true_eq]; omega)]; done)
                | (rw [if_neg (by simp only [Bool.and_eq_true, decide_eq_true_eq]; omega)]; done)
            · refine .skip ?_
              refine nT ?_
              refine .regSeq (.z zg (.nil ?_))
              refine .ret (Fin.ret1 Try.results71 rfl ?_)
              (try simp only [notdec_true] at *)
              (try simp only [notdec_false] at *)
              refine ⟨congrArg I ?_, hs.out⟩
              unfold Lim.ok
              first
                | (rw [if_pos (by simp only [Bool.and_eq_true, decide_eq_true_eq]; omega)]; done)
                | (rw [if_neg (by simp only [Bool.and_eq_true, decide_eq_true_eq]; omega)]; done)
theorem ref02_Check_spec {H : Heap} {w : World} {σ : List Ent} {v : Value} {s : Syst} (hs : St H w σ) (hr : RSy H v s) : Cl Try.prog 73 [v] w fun v w' => v = I s.check ∧ St H w' σ := by
  obtain ⟨u, rfl, hr⟩ := hr
  obtain ⟨a, c, rfl⟩ := RL.shape hr
  have hlen := (RS.len (RS.recap hr (Nat.le_refl _) (cap' := s.lims.length))).2.2
  refine Cl.of Try.func73 rfl Try.ntmps73 (by simp) (args_cons (k := 0) rfl (args0)) ?_
  refine .regSeq ?_
  refine .o (.box hs rfl rfl ?_); intro b1 w hs
  refine .z zg (.nil (.seq (.regSeq (.z (zfa fa_api_System_0) (.y hs (zld Try.isAgg3) ?_)))))
  refine .o (.call Try.call111 rfl (ref02_within_spec hs) ?_); rintro _ w ⟨rfl, hs⟩
  refine .z znot (.nil ?_)
  refine (.cond rfl (fun hc8 => ?_) (fun hc8 => ?_))
  · refine .regSeq (.z zg (.nil ?_))
    refine .ret (rT (Fin.ret1 Try.results73 rfl ?_))
    exact ⟨congrArg I (by unfold Syst.check; rw [if_pos (by simp at hc8; omega)]), hs.out⟩
  · refine .skip ?_
    refine nT ?_
    refine .seq (.regSeq (.z (zfa fa_api_System_1) (.y hs (zld Try.isAgg30) (.z (zlen Try.runUnderlying30) (.z zgtr (.nil ?_))))))
    refine (.condD rfl (fun hc12 => ?_) (fun hc12 => ?_))
    · refine .regSeq (.z zg (.nil ?_))
      refine .ret (rT (Fin.ret1 Try.results73 rfl ?_))
      exact ⟨congrArg I (by unfold Syst.check; rw [if_neg (by simpa using hc8), if_pos (by omega)]), hs.out⟩
    · refine .skip ?_
      refine nT ?_
      refine .seq (.regSeq (.z (zfa fa_api_System_1) (.y hs (zld Try.isAgg30) (.z (zlen Try.runUnderlying30) (.z zm (.nil ?_))))))
      refine .for (N := s.lims.length) (J := fun k fr w => fr = [(14, .slice a s.lims.length c), (1, .pointer (some ⟨b1, 0, none⟩))] ∧ (∀ j < k, ∀ l, s.lims[j]? = some l → l.ok s.many = true) ∧ St H w (.blk b1 [I s.many, .slice a s.lims.length c] :: σ)) (by omega) ?_ ?_ ?_
      · exact .mk ⟨rfl, fun j hj => by omega, hs⟩
      · rintro k fr w hk ⟨rfl, hno, hs⟩
        obtain ⟨x, hx⟩ := nth (l := s.lims) hk
        refine .block (.regSeq ?_)
        refine .ixX (enc := Lim.c) hs hr rfl rfl Try.runUnderlying30 Try.sizeOf100 hx rfl ?_; intro b18 o18 hc18
        refine .q hs (q_loadsR (vs := x.c) rfl Try.isAgg100 Try.sizeOf100 hc18) ?_
        refine .o (.alloc hs Try.zeroValue100 rfl ?_); intro b4 w hs
        refine .o (.stores (vs := x.c) hs rfl rfl Try.sizeOf100 ?_); intro w hs
        refine .nil (.regSeq (.z (zfa fa_api_System_0) (.y hs (zld Try.isAgg3) ?_)))
        refine .q hs (q_loads (vs := x.c) rfl Try.isAgg100 Try.sizeOf100) ?_
        refine .o (.call Try.call71 rfl (ref02_CheckLimit_spec hs) ?_); rintro _ w ⟨rfl, hs⟩
        have hmm : 0 ≤ s.many ∧ s.many ≤ 64 := by simpa using hc8
        rw [show (decide (0 ≤ s.many ∧ s.many ≤ 64) && x.ok s.many) = x.ok s.many by rw [decide_eq_true hmm]; rfl]
        refine .z zneq (.nil ?_)
        refine (.condN rfl (fun hc24 => ?_) (fun hc24 => ?_))
        · refine .regSeq (.z zg (.nil ?_))
          refine .ret (rB (rT (rB (rT (Fin.ret1 Try.results73 rfl ?_)))))
          exact ⟨congrArg I (by
            have hx0 : x.ok s.many = false := by cases e : x.ok s.many with | false => rfl | true => rw [e] at hc24; simp at hc24
            unfold Syst.check; rw [if_neg (by simpa using hc8), if_neg (by omega), if_pos (List.any_eq_true.2 ⟨x, List.mem_of_getElem? hx, by rw [hx0]; rfl⟩)]), hs.out⟩
        · refine .skip ?_
          refine nB (nT ?_)
          exact .mk ⟨rfl, upto_succ hno hx (by cases e : x.ok s.many with | true => rfl | false => rw [e] at hc24; simp at hc24), hs.tail⟩
      · rintro fr w ⟨rfl, hno, hs⟩
        refine nT ?_
        refine .regSeq (.z zg (.nil ?_))
        refine .ret (Fin.ret1 Try.results73 rfl ?_)
        exact ⟨congrArg I (by
          have hall : (s.lims.any fun l => !l.ok s.many) = false := by
            simp only [List.any_eq_false, Bool.not_eq_true', Bool.not_eq_false]
            intro l hl
            obtain ⟨j, hj⟩ := List.getElem?_of_mem hl
            exact hno j (List.getElem?_eq_some_iff.1 hj).1 l hj
          unfold Syst.check; rw [if_neg (by simpa using hc8), if_neg (by omega), hall]; rfl), hs.out⟩
theorem ref02_sized_spec {H : Heap} {w : World} {σ : List Ent} {v : Value} {ws : List Int} (hs : St H w σ) (hr : RI H v ws) : Cl Try.prog 171 [v] w fun v w' => ∃ b, v = .bool b ∧ (b = true ↔ SizedW ws) ∧ St H w' σ := by
  obtain ⟨a, c, rfl⟩ := RI.shape hr
  have hl := (RI.len hr).2.2
  refine Cl.of Try.func171 rfl Try.ntmps171 (by simp) (args_cons (k := 0) rfl (args0)) ?_
  refine .regSeq (.z zg (.nil (.regSeq (.z zg (.nil (.seq (.regSeq (.z zm (.z (zlen Try.runUnderlying22) ?_)))))))))
  refine .z zm (.nil ?_)
  refine .for (N := ws.length) (J := fun k fr w => fr = [(6, .slice a ws.length c), (3, I (sizesTo ws k))] ∧ sizesTo ws k ≤ 3600000000000 ∧ St H w σ) (by omega) ?_ ?_ ?_
  · exact .mk ⟨rfl, by simp [sizesTo, sumTo], hs⟩
  · rintro k fr w hk ⟨rfl, hle, hs⟩
    have hx := gi_get hk
    have h0 : 0 ≤ sizesTo ws k := sumTo_nonneg fun v _ => by omega
    have h1 : sizesTo ws (k + 1) = sizesTo ws k + max (gi ws k) (-gi ws k) := rfl
    refine .block (.regSeq ?_)
    first | (refine .ixv hs Try.runUnderlying22 Try.sizeOf3 ?_; intro b10 o10 hc10) | refine .z (zix Try.runUnderlying22 Try.sizeOf3) ?_
    refine .y hs (zld Try.isAgg3) (.z zg (.nil (.seq (.regSeq (.z zm (.z zlss (.z zm ?_)))))))
    refine .bifD (t' := 14) rfl (fun hb14 => ?_) (fun hb14 => ?_)
    · refine .gFs 2 2 false rfl rfl rfl ?_
      refine .z zpT (.nil ?_)
      refine (.condT rfl rfl ?_)
      refine .regSeq (.z zg (.nil ?_))
      refine .ret (rT (rB (rT (rB (rT (Fin.ret1 Try.results171 rfl ?_))))))
      exact ⟨false, rfl, ⟨fun h => (by cases h), fun h => (sizes_over (k := k + 1) hk (by simp only [FF]; omega) h).elim⟩, hs⟩
    · refine .gT rfl rfl ?_
      refine .z zm ?_
      refine .gT rfl rfl ?_
      refine .z zgtr (.z zpF (.nil ?_))
      refine (.condD rfl (fun hc17 => ?_) (fun hc17 => ?_))
      · refine .regSeq (.z zg (.nil ?_))
        refine .ret (rT (rB (rT (rB (rT (Fin.ret1 Try.results171 rfl ?_))))))
        exact ⟨false, rfl, ⟨fun h => (by cases h), fun h => (sizes_over (k := k + 1) hk (by simp only [FF]; omega) h).elim⟩, hs⟩
      · refine .skip ?_
        refine nT ?_
        refine .regSeq (.z zm (.z zm (.z zm (.z zneg (.z zmax (.z zadd (.z zg (.nil (.regSeq ?_)))))))))
        refine .z zm (.z zgtr (.nil ?_))
        refine (.condD rfl (fun hc25 => ?_) (fun hc25 => ?_))
        · refine .regSeq (.z zg (.nil ?_))
          refine .ret (rB (rT (rB (rT (Fin.ret1 Try.results171 rfl ?_)))))
          exact ⟨false, rfl, ⟨fun h => (by cases h), fun h => (sizes_over (k := k + 1) hk (by simp only [FF]; omega) h).elim⟩, hs⟩
        · refine .skip ?_
          refine nB (nT ?_)
          exact .mk ⟨rfl, by omega, hs⟩ (hs := .cons rfl (.cons rfl (.cons rfl (.consI rfl (by omega) (.nil rfl rfl)))))
  · rintro fr w ⟨rfl, hle, hs⟩
    refine nT ?_
    refine .regSeq (.z zg (.nil ?_))
    refine .ret (Fin.ret1 Try.results171 rfl ?_)
    exact ⟨true, rfl, ⟨fun _ => hle, fun _ => rfl⟩, hs⟩
theorem ref02_Weights_spec {H : Heap} {w : World} {σ : List Ent} {v vw : Value} {s : Syst} {ws : List Int} (hs : St H w σ) (hr : RSy H v s) (hrw : RI H vw ws) (hm : 0 ≤ s.many ∧ s.many ≤ 64) : Cl Try.prog 117 [v, vw] w fun v w' => ∃ b, v = .bool b ∧ (b = true ↔ (ws.length = s.n ∧ SizedW ws)) ∧ St H w' σ := by
  obtain ⟨u, rfl, hr⟩ := hr
  obtain ⟨aw, cw, rfl⟩ := RI.shape hrw
  have hn : (s.n : Int) = s.many + 1 := by simp only [Syst.n]; omega
  refine Cl.of Try.func117 rfl Try.ntmps117 (by simp) (args_cons (k := 0) rfl (args_cons (k := 1) rfl (args0))) ?_
  refine .regSeq ?_
  refine .o (.box hs rfl rfl ?_); intro b2 w hs
  refine .z zg (.nil (.regSeq (.z zm (.z (zlen Try.runUnderlying22) (.z (zfa fa_api_System_0) (.y hs (zld Try.isAgg3) (.z zadd (.z zeql (.z zm ?_)))))))))
  refine .bifD (t' := 11) rfl (fun hb11 => ?_) (fun hb11 => ?_)
  · refine .gT rfl rfl ?_
    refine .z zm ?_
    refine .gT rfl rfl ?_
    refine .o (.call Try.call171 rfl (ref02_sized_spec hs hrw) ?_); rintro _ w ⟨b, rfl, hb, hs⟩
    refine .z zpT (.z zg (.nil ?_))
    refine .ret (Fin.ret1 Try.results117 rfl ?_)
    first
      | exact ⟨b, rfl, ⟨fun h => ⟨by omega, hb.1 h⟩, fun h => hb.2 h.2⟩, hs.out⟩
      | exact ⟨false, rfl, ⟨fun h => (by cases h), fun h => by omega⟩, hs.out⟩
  · refine .gFs 2 6 true rfl rfl rfl ?_
    refine .z zpF (.z zg (.nil ?_))
    refine .ret (Fin.ret1 Try.results117 rfl ?_)
    first
      | exact ⟨b, rfl, ⟨fun h => ⟨by omega, hb.1 h⟩, fun h => hb.2 h.2⟩, hs.out⟩
      | exact ⟨false, rfl, ⟨fun h => (by cases h), fun h => by omega⟩, hs.out⟩
theorem ref02_asked_spec {H : Heap} {w : World} {σ : List Ent} {v vw : Value} {s : Syst} {ws : List Int} (hs : St H w σ) (hr : RSy H v s) (hrw : RI H vw ws) : Cl Try.prog 110 [v, vw] w fun v w' => v = I (askErr s ws) ∧ St H w' σ := by
  obtain ⟨u, rfl, hr⟩ := hr
  obtain ⟨al, cl, rfl⟩ := RL.shape hr
  obtain ⟨aw, cw, rfl⟩ := RI.shape hrw
  refine Cl.of Try.func110 rfl Try.ntmps110 (by simp) (args_cons (k := 0) rfl (args_cons (k := 1) rfl (args0))) ?_
  refine .regSeq ?_
  refine .o (.box hs rfl rfl ?_); intro b2 w hs
  refine .z zg (.nil (.regSeq (.y hs (zls [_, _] Try.isAgg32 Try.sizeOf32) ?_)))
  refine .o (.call Try.call73 rfl (ref02_Check_spec (s := s) hs ⟨_, rfl, hr⟩) ?_); rintro _ w ⟨rfl, hs⟩
  refine .z zg (.nil (.seq (.regSeq (.z zm (.z zeql (.z zm ?_))))))
  refine .bifD (t' := 10) rfl (fun hb10 => ?_) (fun hb10 => ?_)
  · refine .gT rfl rfl ?_
    have hok := s.ok_iff.1 hb10
    have hm0 := hok.m0; have hm1 := hok.m1
    refine .y hs (zls [_, _] Try.isAgg32 Try.sizeOf32) ?_
    refine .gT rfl rfl ?_
    refine .z zm ?_
    refine .gT rfl rfl ?_
    refine .o (.call Try.call117 rfl (ref02_Weights_spec (s := s) hs ⟨_, rfl, hr⟩ hrw ⟨hm0, hm1⟩) ?_); rintro _ w ⟨b, rfl, hb, hs⟩
    refine .gT rfl rfl ?_
    refine .z znot (.z zpT (.nil ?_))
    refine (.cond rfl (fun hc15 => ?_) (fun hc15 => ?_))
    · refine .region (.z zg (.nil ?_))
      refine nT ?_
      refine .regSeq (.z zm (.z zg (.nil ?_)))
      refine .ret (Fin.ret1 Try.results110 rfl ?_)
      refine ⟨congrArg I ?_, hs.out⟩
      unfold askErr
      first
        | (rw [if_neg (by omega), if_neg (fun h => by have := hb.2 h; simp_all)]; done)
        | (rw [if_neg (by omega), if_pos (hb.1 (by simpa using hc15))]; omega)
        | (rw [if_pos (by assumption)]; done)
    · refine .skip ?_
      refine nT ?_
      refine .regSeq (.z zm (.z zg (.nil ?_)))
      refine .ret (Fin.ret1 Try.results110 rfl ?_)
      refine ⟨congrArg I ?_, hs.out⟩
      unfold askErr
      first
        | (rw [if_neg (by omega), if_neg (fun h => by have := hb.2 h; simp_all)]; done)
        | (rw [if_neg (by omega), if_pos (hb.1 (by simpa using hc15))]; omega)
        | (rw [if_pos (by assumption)]; done)
  · refine .gFs 4 2 true rfl rfl rfl ?_
    refine .z zpF (.nil ?_)
    refine (.condF rfl rfl ?_)
    refine .skip ?_
    refine nT ?_
    refine .regSeq (.z zm (.z zg (.nil ?_)))
    refine .ret (Fin.ret1 Try.results110 rfl ?_)
    refine ⟨congrArg I ?_, hs.out⟩
    unfold askErr
    first
      | (rw [if_neg (by omega), if_neg (fun h => by have := hb.2 h; simp_all)]; done)
      | (rw [if_neg (by omega), if_pos (hb.1 (by simpa using hc15))]; omega)
      | (rw [if_pos (by assumption)]; done)
end Go.Proofs.Ytiiokdeehlfeeaa

namespace Go.Proofs.Ytiiokdeehlfeeaa
open Go.MW
def SettledR (a : Quest) (b : Bool) (e : Int) : Prop := (CAskR a e ∧ e ≠ 0 ∧ b = false) ∨ (AskOk a ∧ e = 0 ∧ ∃ lo hi, RangeR a.sys a.ws lo hi 0 ∧ b = decide (hi - lo ≤ a.width))
def SideR (a : Quest) (z x e : Int) : Prop := (CAskR a e ∧ e ≠ 0 ∧ x = 0) ∨ (AskOk a ∧ e = 0 ∧ ∃ lo hi, RangeR a.sys a.ws lo hi 0 ∧ x = if z ≤ lo then 1 else if hi < z then 0 else 2)
theorem WidthR.uniq {a : Quest} {n m e f : Int} (h : WidthR a n e) (g : WidthR a m f) : n = m ∧ e = f := by
  rcases h with ⟨h1, h2, h3⟩ | ⟨h1, h2, lo, hi, h3, h4⟩ <;> rcases g with ⟨g1, g2, g3⟩ | ⟨g1, g2, lo', hi', g3, g4⟩
  · exact ⟨by rw [h3, g3], h1.uniq g1⟩
  · exact (h2 (h1.uniq (CAskR.zero.2 g1))).elim
  · exact (g2 (g1.uniq (CAskR.zero.2 h1))).elim
  · obtain ⟨rfl, rfl, -⟩ := h3.uniq g3; exact ⟨by rw [h4, g4], by rw [h2, g2]⟩
theorem SettledR.uniq {a : Quest} {n m : Bool} {e f : Int} (h : SettledR a n e) (g : SettledR a m f) : n = m ∧ e = f := by
  rcases h with ⟨h1, h2, h3⟩ | ⟨h1, h2, lo, hi, h3, h4⟩ <;> rcases g with ⟨g1, g2, g3⟩ | ⟨g1, g2, lo', hi', g3, g4⟩
  · exact ⟨by rw [h3, g3], h1.uniq g1⟩
  · exact (h2 (h1.uniq (CAskR.zero.2 g1))).elim
  · exact (g2 (g1.uniq (CAskR.zero.2 h1))).elim
  · obtain ⟨rfl, rfl, -⟩ := h3.uniq g3; exact ⟨by rw [h4, g4], by rw [h2, g2]⟩
theorem SideR.uniq {a : Quest} {z n m e f : Int} (h : SideR a z n e) (g : SideR a z m f) : n = m ∧ e = f := by
  rcases h with ⟨h1, h2, h3⟩ | ⟨h1, h2, lo, hi, h3, h4⟩ <;> rcases g with ⟨g1, g2, g3⟩ | ⟨g1, g2, lo', hi', g3, g4⟩
  · exact ⟨by rw [h3, g3], h1.uniq g1⟩
  · exact (h2 (h1.uniq (CAskR.zero.2 g1))).elim
  · exact (g2 (g1.uniq (CAskR.zero.2 h1))).elim
  · obtain ⟨rfl, rfl, -⟩ := h3.uniq g3; exact ⟨by rw [h4, g4], by rw [h2, g2]⟩
end Go.Proofs.Ytiiokdeehlfeeaa

namespace Go.Proofs.Ytiiokdeehlfeeaa
open Go.MW
set_option maxRecDepth 100000 in
theorem lim_stood : Try.prog.stoodInHeld 100 = false := by kernel_rfl
set_option maxRecDepth 100000 in
theorem lim_guard : Try.prog.eqGuardType Try.prog.depth 100 = false := by kernel_rfl
theorem ref02_SameSystem_spec {H : Heap} {w : World} {σ : List Ent} {v1 v2 : Value} {s1 s2 : Syst} (hs : St H w σ) (h1 : RSy H v1 s1) (h2 : RSy H v2 s2) : Cl Try.prog 30 [v1, v2] w fun v w' => ∃ b, v = .bool b ∧ (b = true ↔ (s1.many = s2.many ∧ s1.lims = s2.lims)) ∧ St H w' σ := by
  obtain ⟨u1, rfl, h1⟩ := h1
  obtain ⟨u2, rfl, h2⟩ := h2
  obtain ⟨a1, c1, rfl⟩ := RL.shape h1
  obtain ⟨a2, c2, rfl⟩ := RL.shape h2
  have hl1 := (RS.len (RS.recap h1 (Nat.le_refl _) (cap' := s1.lims.length))).2.2
  refine Cl.of Try.func30 rfl Try.ntmps30 (by simp) (args_cons (k := 0) rfl (args_cons (k := 1) rfl (args0))) ?_
  refine .regSeq ?_
  refine .o (.box hs rfl rfl ?_); intro b2 w hs
  refine .o (.box hs rfl rfl ?_); intro b3 w hs
  refine .z zg (.nil (.seq (.regSeq (.z (zfa fa_api_System_0) (.y hs (zld Try.isAgg3) (.z (zfa fa_api_System_0) (.y hs (zld Try.isAgg3) (.z zneq (.z zm ?_)))))))))
  refine .bifN (t' := 11) rfl (fun hb11 => ?_) (fun hb11 => ?_)
  · refine .gFs 7 5 false rfl rfl rfl ?_
    refine .z zpT (.nil ?_)
    refine (.condT rfl rfl ?_)
    refine .regSeq (.z zg (.nil ?_))
    refine .ret (rT (Fin.ret1 Try.results30 rfl ?_))
    exact ⟨false, rfl, ⟨fun h => (by cases h), fun h => (hb11 h.1).elim⟩, hs.out⟩
  · refine .gT rfl rfl ?_
    refine .z (zfa fa_api_System_1) ?_
    refine .gT rfl rfl ?_
    refine .y hs (zld Try.isAgg30) ?_
    refine .gT rfl rfl ?_
    refine .z (zlen Try.runUnderlying30) ?_
    refine .gT rfl rfl ?_
    refine .z (zfa fa_api_System_1) ?_
    refine .gT rfl rfl ?_
    refine .y hs (zld Try.isAgg30) ?_
    refine .gT rfl rfl ?_
    refine .z (zlen Try.runUnderlying30) ?_
    refine .gT rfl rfl ?_
    refine .z zneq (.z zpF (.nil ?_))
    refine (.condN rfl (fun hc19 => ?_) (fun hc19 => ?_))
    · refine .regSeq (.z zg (.nil ?_))
      refine .ret (rT (Fin.ret1 Try.results30 rfl ?_))
      exact ⟨false, rfl, ⟨fun h => (by cases h), fun h => (hc19 (by rw [h.2])).elim⟩, hs.out⟩
    · refine .skip ?_
      refine nT ?_
      refine .seq (.regSeq (.z (zfa fa_api_System_1) (.y hs (zld Try.isAgg30) (.z (zlen Try.runUnderlying30) (.z zm (.nil ?_))))))
      refine .for (N := s1.lims.length) (J := fun k fr w => fr = [(2, .pointer (some ⟨b2, 0, none⟩)), (3, .pointer (some ⟨b3, 0, none⟩))] ∧ (∀ j < k, s1.lims[j]? = s2.lims[j]?) ∧ St H w (.blk b3 [I s2.many, .slice a2 s2.lims.length c2] :: .blk b2 [I s1.many, .slice a1 s1.lims.length c1] :: σ)) (by omega) ?_ ?_ ?_
      · exact .mk ⟨rfl, fun j hj => by omega, hs⟩
      · rintro k fr w hk ⟨rfl, hno, hs⟩
        obtain ⟨x, hx⟩ := nth (l := s1.lims) hk
        obtain ⟨y, hy⟩ := nth (l := s2.lims) (k := k) (by omega)
        refine .block (.regSeq (.z zm (.z zg (.nil ?_))))
        refine .seq (.draw mix rfl hs ?_); intro w hs
        refine .z 0 rfl (zfa fa_api_System_1) ?_; refine .y 1 rfl hs Try.isAgg30 ?_; refine .z 2 rfl zm ?_
        refine .ixX (enc := Lim.c) (i := 3) hs rfl (by kernel_rfl) .none h1 rfl rfl Try.runUnderlying30 Try.sizeOf100 hx rfl ?_; intro b29 o29 hc29
        refine .r (i := 4) hs rfl (by kernel_rfl) .none (q_loadsR (vs := x.c) rfl Try.isAgg100 Try.sizeOf100 hc29) ?_
        refine .z 5 rfl (zfa fa_api_System_1) ?_; refine .y 6 rfl hs Try.isAgg30 ?_; refine .z 7 rfl zm ?_
        refine .ixX (enc := Lim.c) (i := 8) hs rfl (by kernel_rfl) .none h2 rfl rfl Try.runUnderlying30 Try.sizeOf100 hy rfl ?_; intro b34 o34 hc34
        refine .r (i := 9) hs rfl (by kernel_rfl) .none (q_loadsR (vs := y.c) rfl Try.isAgg100 Try.sizeOf100 hc34) ?_
        refine .p (i := 10) rfl (by kernel_rfl) .none (q_neS4 rfl rfl Try.runUnderlying100 lim_stood lim_guard (fun f hf => by
          simp only [List.mem_cons, List.not_mem_nil, or_false] at hf
          rcases hf with rfl | rfl | rfl | rfl <;> exact ⟨by decide, Try.runUnderlying3, Try.isAgg3⟩)) ?_
        refine .done (by kernel_rfl) hs ?_
        refine (.cond rfl (fun hc36 => ?_) (fun hc36 => ?_))
        · refine .regSeq (.z zg (.nil ?_))
          refine .ret (rB (rT (rB (rT (Fin.ret1 Try.results30 rfl ?_)))))
          exact ⟨false, rfl, ⟨fun h => (by cases h), fun h => by
            rw [h.2, hy] at hx
            cases hx
            simp at hc36⟩, hs.out⟩
        · refine .skip ?_
          refine nB (nT ?_)
          exact .mk ⟨rfl, fun j hj => by
            by_cases e : j = k
            · subst e
              have h4 : x.A = y.A ∧ x.B = y.B ∧ x.M = y.M ∧ x.S = y.S := by simpa using hc36
              rw [hx, hy]
              cases x; cases y
              obtain ⟨rfl, rfl, rfl, rfl⟩ := h4
              rfl
            · exact hno j (by omega), hs⟩
      · rintro fr w ⟨rfl, hno, hs⟩
        refine nT ?_
        refine .regSeq (.z zg (.nil ?_))
        refine .ret (Fin.ret1 Try.results30 rfl ?_)
        exact ⟨true, rfl, ⟨fun _ => ⟨by omega, List.ext_getElem? fun j => by
          by_cases hj : j < s1.lims.length
          · exact hno j hj
          · rw [List.getElem?_eq_none (by omega), List.getElem?_eq_none (by omega)]⟩, fun _ => rfl⟩, hs.out⟩
end Go.Proofs.Ytiiokdeehlfeeaa

namespace Go.Proofs.Ytiiokdeehlfeeaa
open Go.MW
def PairsR (a : Quest) (l : List Prb) (S : Syst) (W : List Int) (e : Int) : Prop := (CPrbR a l e ∧ e ≠ 0 ∧ S = ⟨0, []⟩ ∧ W = []) ∨ (CPrbR a l 0 ∧ e = 0 ∧ S = dblS a l ∧ W = dblW a.ws)
theorem PairsR.uniq {a : Quest} {l : List Prb} {S T : Syst} {W V : List Int} {e f : Int} (h : PairsR a l S W e) (g : PairsR a l T V f) : S = T ∧ W = V ∧ e = f := by
  rcases h with ⟨h1, h2, h3, h4⟩ | ⟨h1, h2, h3, h4⟩ <;> rcases g with ⟨g1, g2, g3, g4⟩ | ⟨g1, g2, g3, g4⟩
  · exact ⟨by rw [h3, g3], by rw [h4, g4], h1.uniq g1⟩
  · exact (h2 (h1.uniq g1)).elim
  · exact (g2 (g1.uniq h1)).elim
  · exact ⟨by rw [h3, g3], by rw [h4, g4], by rw [h2, g2]⟩
def WorstR (a : Quest) (l : List Prb) (n e : Int) : Prop := (CPrbR a l e ∧ e ≠ 0 ∧ n = 0) ∨ (CPrbR a l 0 ∧ e = 0 ∧ PairS a l n)
theorem WorstR.uniq {a : Quest} {l : List Prb} {n m e f : Int} (h : WorstR a l n e) (g : WorstR a l m f) : n = m ∧ e = f := by
  rcases h with ⟨h1, h2, h3⟩ | ⟨h1, h2, h3⟩ <;> rcases g with ⟨g1, g2, g3⟩ | ⟨g1, g2, g3⟩
  · exact ⟨by rw [h3, g3], h1.uniq g1⟩
  · exact (h2 (h1.uniq g1)).elim
  · exact (g2 (g1.uniq h1)).elim
  · exact ⟨h3.uniq g3, by rw [h2, g2]⟩
end Go.Proofs.Ytiiokdeehlfeeaa

namespace Go.Proofs.Ytiiokdeehlfeeaa
open Go.MW
set_option maxHeartbeats 8000000 in
theorem ref02_CheckProof_spec {H : Heap} {w : World} {σ : List Ent} {v vw vp : Value} {s : Syst} {ws : List Int} {n : Int} {us : List Use} (hs : St H w σ) (hr : RSy H v s) (hrw : RI H vw ws) (hp : RPf H vp n us) :
    Cl Try.prog 32 [v, vw, vp] w fun v w' => ∃ e, v = I e ∧ ProofR s ws n us e ∧ St H w' σ := by
  obtain ⟨u, rfl, hr⟩ := hr
  obtain ⟨al, cl, rfl⟩ := RL.shape hr
  obtain ⟨aw, cw, rfl⟩ := RI.shape hrw
  obtain ⟨uu, rfl, hU⟩ := hp
  obtain ⟨au, cu, rfl⟩ := RU.shape hU
  refine Cl.of Try.func32 rfl Try.ntmps32 (by simp) (args_cons (k := 0) rfl (args_cons (k := 1) rfl (args_cons (k := 2) rfl (args0)))) ?_
  refine .regSeq ?_
  refine .o (.box hs rfl rfl ?_); intro b3 w hs
  refine .o (.box hs rfl rfl ?_); intro b5 w hs
  refine .z zg (.nil (.regSeq (.y hs (zls [_, _] Try.isAgg32 Try.sizeOf32) (.z zm ?_))))
  refine .o (.call Try.call110 rfl (ref02_asked_spec (s := s) hs ⟨_, rfl, hr⟩ hrw) ?_); rintro _ w ⟨rfl, hs⟩
  refine .z zg (.nil (.seq (.regSeq (.z zm (.z zneq (.nil ?_))))))
  refine (.condN rfl (fun hc19 => ?_) (fun hc19 => ?_))
  · refine .regSeq (.z zm (.z zg (.nil ?_)))
    refine .ret (rT (Fin.ret1 Try.results32 rfl ?_))
    exact ⟨_, rfl, .ask hc19, hs.out⟩
  · refine .skip ?_
    refine nT ?_
    refine .seq (.regSeq (.z (zfa fa_api_Proof_1) (.y hs (zld Try.isAgg38) (.z (zlen Try.runUnderlying38) (.z zgtr (.nil ?_))))))
    refine (.condD rfl (fun hc24 => ?_) (fun hc24 => ?_))
    · refine .regSeq (.z zg (.nil ?_))
      refine .ret (rT (Fin.ret1 Try.results32 rfl ?_))
      exact ⟨_, rfl, .bad (by simpa using hc19) (fun h => by have := h.len; omega), hs.out⟩
    · refine .skip ?_
      refine nT ?_
      refine .regSeq (.z (zfa fa_api_System_0) (.y hs (zld Try.isAgg3) ?_))
      have hA : askErr s ws = 0 := by simpa using hc19
      obtain ⟨hok, hwl, hz⟩ := askErr_ok hA
      have hm0 := hok.m0
      have hn65 := hok.n65
      have hll := hok.len
      have hmn : s.many + 1 = (s.n : Int) := by simp only [Syst.n]; omega
      refine .z zadd ?_
      rw [hmn]
      refine .o (.makeI s.n hs rfl rfl Try.runUnderlying22 Try.typeInfo3 rfl Try.sizeOf3 Try.zeroValue3 (by omega) ?_); intro b28 w hs
      refine .z zg (.nil (.regSeq (.z zg (.nil (.regSeq (.z zg (.nil (.seq (.regSeq ?_)))))))))
      refine .z (zfa fa_api_Proof_1) (.y hs (zld Try.isAgg38) (.z (zlen Try.runUnderlying38) (.z zm (.nil ?_))))
      refine .for (N := us.length) (J := fun k fr w => fr = [(30, .slice au us.length cu), (8, .slice (some ⟨b28, 0, none⟩) s.n s.n), (9, I (timesTo us k)), (10, I (boundTo s us k)), (3, .pointer (some ⟨b3, 0, none⟩)), (5, .pointer (some ⟨b5, 0, none⟩)), (1, .slice aw ws.length cw)] ∧ ∃ C, (C.length = s.n ∧ ∀ v < s.n, gi C v = intoTo s us k v) ∧ (∀ i < k, UseOk s us i) ∧ timesTo us k ≤ 230400000000000 ∧ St H w (.blk b28 (Is C) :: .blk b5 [I n, .slice au us.length cu] :: .blk b3 [I s.many, .slice al s.lims.length cl] :: σ)) (by omega) ?_ ?_ ?_
      · exact .mk ⟨rfl, _, ⟨by simp, fun v hv => by rw [gi_replicate _ _ hv]; rfl⟩, fun i hi => by omega, by simp [timesTo, sumTo], hs⟩
      · rintro k fr w hk ⟨rfl, C, ⟨hC1, hC2⟩, hUs, hTm, hs⟩
        have hx := gu_get hk
        refine .block (.regSeq (.z zm ?_))
        refine .ixX (enc := Use.c) hs hU rfl rfl Try.runUnderlying38 Try.sizeOf154 hx rfl ?_; intro b35 o35 hc35
        refine .q hs (q_loadsR (vs := (gu us k).c) rfl Try.isAgg154 Try.sizeOf154 hc35) ?_
        refine .o (.alloc hs Try.zeroValue154 rfl ?_); intro b12 w hs
        refine .z zg ?_
        refine .o (.stores (vs := (gu us k).c) hs rfl rfl Try.sizeOf154 ?_); intro w hs
        refine .nil (.seq ?_)
        refine .cut (fun fs w => ∃ p, FSub fs ⟨124, [], [(66, .bool p), (12, .pointer (some ⟨b12, 0, none⟩)), (32, I (k : Int)), (31, I (us.length : Int)), (30, .slice au us.length cu), (8, .slice (some ⟨b28, 0, none⟩) s.n s.n), (9, I (timesTo us k)), (10, I (boundTo s us k)), (3, .pointer (some ⟨b3, 0, none⟩)), (5, .pointer (some ⟨b5, 0, none⟩)), (1, .slice aw ws.length cw)]⟩ ∧ (p = true → ¬ UseOk s us k) ∧ (p = false → UseOk s us k) ∧ St H w (.blk b12 (gu us k).c :: .blk b28 (Is C) :: .blk b5 [I n, .slice au us.length cu] :: .blk b3 [I s.many, .slice al s.lims.length cl] :: σ)) ?_ ?_
        · refine .draw mix rfl hs ?_; intro w hs
          refine .z 0 rfl (zfa fa_api_Use_0) ?_; refine .y 1 rfl hs Try.isAgg3 ?_; refine .z 2 rfl (zfa fa_api_System_1) ?_; refine .y 3 rfl hs Try.isAgg30 ?_; refine .z 4 rfl (zlen Try.runUnderlying30) ?_; refine .z 5 rfl zsub ?_
          refine .e1 (i := 6) (by kernel_rfl) rfl rfl .none hs ?_
          refine .call Try.call111 rfl (ref02_within_spec hs) ?_; rintro _ w ⟨rfl, hs⟩
          refine .go ?_
          refine .z 7 rfl znot ?_; refine .z 8 rfl zm ?_
          refine .bif (t' := 45) rfl (fun hb45 => ?_) (fun hb45 => ?_)
          · refine .qF (i := 9) rfl (by kernel_rfl) rfl rfl ?_
            refine .qF (i := 10) rfl (by kernel_rfl) rfl rfl ?_
            refine .qF (i := 11) rfl (by kernel_rfl) rfl rfl ?_
            refine .qF (i := 12) rfl (by kernel_rfl) rfl rfl ?_
            refine .qF (i := 13) rfl (by kernel_rfl) rfl rfl ?_
            refine .qF (i := 14) rfl (by kernel_rfl) rfl rfl ?_
            refine .qF (i := 15) rfl (by kernel_rfl) rfl rfl ?_
            refine .qF (i := 16) rfl (by kernel_rfl) rfl rfl ?_
            refine .qF (i := 17) rfl (by kernel_rfl) rfl rfl ?_
            refine .qF (i := 18) rfl (by kernel_rfl) rfl rfl ?_
            refine .qF (i := 19) rfl (by kernel_rfl) rfl rfl ?_
            refine .qF (i := 20) rfl (by kernel_rfl) rfl rfl ?_
            refine .qF (i := 21) rfl (by kernel_rfl) rfl rfl ?_
            refine .qF (i := 22) rfl (by kernel_rfl) rfl rfl ?_
            refine .z 23 rfl zpT ?_; refine .z 24 rfl zm ?_
            refine .qF (i := 25) rfl (by kernel_rfl) rfl rfl ?_
            refine .qF (i := 26) rfl (by kernel_rfl) rfl rfl ?_
            refine .qF (i := 27) rfl (by kernel_rfl) rfl rfl ?_
            refine .qF (i := 28) rfl (by kernel_rfl) rfl rfl ?_
            refine .z 29 rfl zpT ?_; refine .done (by kernel_rfl) hs ?_
            exact nT ⟨_, by repeat (first | exact .nil rfl rfl | refine .cons rfl ?_), by
              intro hp hU
              have h1 := hU.l0; have h2 := hU.l1; have h3 := hU.t0; have h4 := hU.t1; have h5 := hU.ord
              first
                | (cases hp; done)
                | (have := notdec_true.1 hb45; omega)
                | (have := h5 (by omega); omega)
                | (have := notdec_true.1 hp; omega), by
              intro hp
              first
                | (cases hp; done)
                | exact ⟨by have := notdec_false.1 hb45; omega, by have := notdec_false.1 hb45; omega, by have := notdec_false.1 hp; omega, by have := notdec_false.1 hp; omega, fun h => by omega⟩, hs⟩
          · refine .z 9 rfl zm ?_; refine .z 10 rfl zgtr ?_; refine .z 11 rfl zm ?_
            refine .bifD (t' := 48) rfl (fun hb48 => ?_) (fun hb48 => ?_)
            · refine .z 12 rfl (zfa fa_api_Proof_1) ?_; refine .y 13 rfl hs Try.isAgg38 ?_; refine .z 14 rfl zm ?_; refine .z 15 rfl zsub ?_
              refine .ixX (enc := Use.c) (i := 16) hs rfl (by kernel_rfl) (.some rfl rfl) hU rfl rfl Try.runUnderlying38 Try.sizeOf154 (gu_get (i := k - 1) (by omega)) (by omega) ?_; intro b53 o53 hc53
              refine .z 17 rfl (zfa fa_api_Use_0) ?_
              refine .r (i := 18) hs rfl (by kernel_rfl) (.some rfl rfl) (q_loadR rfl Try.isAgg3 (hc53.get 0 rfl)) ?_
              refine .z 19 rfl (zfa fa_api_Use_0) ?_; refine .y 20 rfl hs Try.isAgg3 ?_; refine .z 21 rfl zgeq ?_; refine .z 22 rfl zpT ?_; refine .z 23 rfl zpF ?_; refine .z 24 rfl zm ?_
              refine .bifD (t' := 61) rfl (fun hb61 => ?_) (fun hb61 => ?_)
              · refine .qF (i := 25) rfl (by kernel_rfl) rfl rfl ?_
                refine .qF (i := 26) rfl (by kernel_rfl) rfl rfl ?_
                refine .qF (i := 27) rfl (by kernel_rfl) rfl rfl ?_
                refine .qF (i := 28) rfl (by kernel_rfl) rfl rfl ?_
                refine .z 29 rfl zpT ?_; refine .done (by kernel_rfl) hs ?_
                exact nT ⟨_, by repeat (first | exact .nil rfl rfl | refine .cons rfl ?_), by
                  intro hp hU
                  have h1 := hU.l0; have h2 := hU.l1; have h3 := hU.t0; have h4 := hU.t1; have h5 := hU.ord
                  first
                    | (cases hp; done)
                    | (have := notdec_true.1 hb45; omega)
                    | (have := h5 (by omega); omega)
                    | (have := notdec_true.1 hp; omega), by
                  intro hp
                  first
                    | (cases hp; done)
                    | exact ⟨by have := notdec_false.1 hb45; omega, by have := notdec_false.1 hb45; omega, by have := notdec_false.1 hp; omega, by have := notdec_false.1 hp; omega, fun h => by omega⟩, hs⟩
              · refine .z 25 rfl (zfa fa_api_Use_1) ?_; refine .y 26 rfl hs Try.isAgg3 ?_
                refine .e1 (i := 27) (by kernel_rfl) rfl rfl (.some rfl rfl) hs ?_
                refine .call Try.call111 rfl (ref02_within_spec hs) ?_; rintro _ w ⟨rfl, hs⟩
                refine .go ?_
                refine .z 28 rfl znot ?_; refine .z 29 rfl zpF ?_; refine .done (by kernel_rfl) hs ?_
                exact nT ⟨_, by repeat (first | exact .nil rfl rfl | refine .cons rfl ?_), by
                  intro hp hU
                  have h1 := hU.l0; have h2 := hU.l1; have h3 := hU.t0; have h4 := hU.t1; have h5 := hU.ord
                  first
                    | (cases hp; done)
                    | (have := notdec_true.1 hb45; omega)
                    | (have := h5 (by omega); omega)
                    | (have := notdec_true.1 hp; omega), by
                  intro hp
                  first
                    | (cases hp; done)
                    | exact ⟨by have := notdec_false.1 hb45; omega, by have := notdec_false.1 hb45; omega, by have := notdec_false.1 hp; omega, by have := notdec_false.1 hp; omega, fun h => by omega⟩, hs⟩
            · refine .qF (i := 12) rfl (by kernel_rfl) rfl rfl ?_
              refine .qF (i := 13) rfl (by kernel_rfl) rfl rfl ?_
              refine .qF (i := 14) rfl (by kernel_rfl) rfl rfl ?_
              refine .qF (i := 15) rfl (by kernel_rfl) rfl rfl ?_
              refine .qF (i := 16) rfl (by kernel_rfl) rfl rfl ?_
              refine .qF (i := 17) rfl (by kernel_rfl) rfl rfl ?_
              refine .qF (i := 18) rfl (by kernel_rfl) rfl rfl ?_
              refine .qF (i := 19) rfl (by kernel_rfl) rfl rfl ?_
              refine .qF (i := 20) rfl (by kernel_rfl) rfl rfl ?_
              refine .qF (i := 21) rfl (by kernel_rfl) rfl rfl ?_
              refine .z 22 rfl zpF ?_; refine .z 23 rfl zpF ?_; refine .z 24 rfl zm ?_; refine .z 25 rfl (zfa fa_api_Use_1) ?_; refine .y 26 rfl hs Try.isAgg3 ?_
              refine .e1 (i := 27) (by kernel_rfl) rfl rfl (.some rfl rfl) hs ?_
              refine .call Try.call111 rfl (ref02_within_spec hs) ?_; rintro _ w ⟨rfl, hs⟩
              refine .go ?_
              refine .z 28 rfl znot ?_; refine .z 29 rfl zpF ?_; refine .done (by kernel_rfl) hs ?_
              exact nT ⟨_, by repeat (first | exact .nil rfl rfl | refine .cons rfl ?_), by
                intro hp hU
                have h1 := hU.l0; have h2 := hU.l1; have h3 := hU.t0; have h4 := hU.t1; have h5 := hU.ord
                first
                  | (cases hp; done)
                  | (have := notdec_true.1 hb45; omega)
                  | (have := h5 (by omega); omega)
                  | (have := notdec_true.1 hp; omega), by
                intro hp
                first
                  | (cases hp; done)
                  | exact ⟨by have := notdec_false.1 hb45; omega, by have := notdec_false.1 hb45; omega, by have := notdec_false.1 hp; omega, by have := notdec_false.1 hp; omega, fun h => by omega⟩, hs⟩
        · rintro fs w ⟨p, hfs, hp1, hp2, hs⟩
          refine WE.sub ?_ hfs
          refine (.cond rfl (fun hc66 => ?_) (fun hc66 => ?_))
          · refine .regSeq (.z zg (.nil ?_))
            refine .ret (rT (rB (rT (rB (rT (Fin.ret1 Try.results32 rfl ?_))))))
            exact ⟨_, rfl, .bad hA (fun h => hp1 hc66 (h.use k hk)), hs.out⟩
          · refine .skip ?_
            refine nT ?_
            refine .regSeq ?_
            have hUk := hp2 (by simpa using hc66)
            have hUs' : ∀ i < k + 1, UseOk s us i := fun i hi => by
              by_cases e : i = k
              · subst e; exact hUk
              · exact hUs i (by omega)
            have hTp := times_pos hUs
            have ht0 := hUk.t0; have ht1 := hUk.t1; have hl0 := hUk.l0; have hl1 := hUk.l1
            have hgl := gl_get (ls := s.lims) (i := (gu us k).l.toNat) (by omega)
            obtain ⟨⟨xa0, xa1⟩, ⟨xb0, xb1⟩, xne, xM, -⟩ := hok.lim _ (List.mem_of_getElem? hgl)
            have hbd1 := bound_bd hok hUs
            have hbd2 := bound_bd hok hUs'
            have hbs : boundTo s us (k + 1) = boundTo s us k + (gu us k).t * (ul s us k).M := rfl
            have hts : timesTo us (k + 1) = timesTo us k + (gu us k).t := rfl
            change 0 ≤ (ul s us k).A at xa0; change (ul s us k).A ≤ s.many at xa1
            change 0 ≤ (ul s us k).B at xb0; change (ul s us k).B ≤ s.many at xb1
            change (ul s us k).A ≠ (ul s us k).B at xne
            have hib := into_bd hUs (ul s us k).B.toNat
            have hia := into_bd hUs (ul s us k).A.toNat
            have hAn : (ul s us k).A.toNat < s.n := by omega
            have hBn : (ul s us k).B.toNat < s.n := by omega
            have hgA := hC2 _ hAn
            have hgB := hC2 _ hBn
            refine .z zm (.z (zfa fa_api_Use_1) (.y hs (zld Try.isAgg3) (.z zadd (.z zg (.nil (.seq (.regSeq (.z zm (.z zgtr ?_)))))))))
            refine .nil ?_
            refine (.condD rfl (fun hc72 => ?_) (fun hc72 => ?_))
            · refine .regSeq (.z zg (.nil ?_))
              refine .ret (rT (rB (rT (rB (rT (Fin.ret1 Try.results32 rfl ?_))))))
              exact ⟨_, rfl, .bad hA (fun h => by have := times_le h.use (k := k + 1) (by omega); have := h.tot; omega), hs.out⟩
            · refine .skip ?_
              refine nT ?_
              refine .regSeq (.z (zfa fa_api_System_1) (.y hs (zld Try.isAgg30) (.z (zfa fa_api_Use_0) (.y hs (zld Try.isAgg3) ?_))))
              refine .ixX (enc := Lim.c) hs hr rfl rfl Try.runUnderlying30 Try.sizeOf100 hgl (by omega) ?_; intro b77 o77 hc77
              refine .q hs (q_loadsR (vs := (ul s us k).c) rfl Try.isAgg100 Try.sizeOf100 hc77) ?_
              refine .o (.alloc hs Try.zeroValue100 rfl ?_); intro b13 w hs
              refine .o (.stores (vs := (ul s us k).c) hs rfl rfl Try.sizeOf100 ?_); intro w hs
              refine .nil ?_
              refine .seq (.draw mix rfl hs ?_); intro w hs
              refine .z 0 rfl zm ?_; refine .z 1 rfl (zfa fa_api_Limit_1) ?_; refine .y 2 rfl hs Try.isAgg3 ?_
              refine .p (i := 3) rfl (by kernel_rfl) .none (q_ixO (k := (ul s us k).B.toNat) rfl rfl Try.runUnderlying22 Try.sizeOf3 (by omega) hBn) ?_
              refine .y 4 rfl hs Try.isAgg3 ?_; refine .z 5 rfl (zfa fa_api_Use_1) ?_; refine .y 6 rfl hs Try.isAgg3 ?_; refine .z 7 rfl zadd ?_
              refine .p (i := 8) rfl (by kernel_rfl) .none (q_ixO (k := (ul s us k).B.toNat) rfl rfl Try.runUnderlying22 Try.sizeOf3 (by omega) hBn) ?_
              refine .e1 (i := 9) (by kernel_rfl) rfl rfl .none hs ?_
              refine .store hs rfl rfl Try.sizeOf3 ?_; intro w hs
              refine .go ?_
              refine .done (by kernel_rfl) hs ?_
              have hD1 : (C.set (ul s us k).B.toNat (gi C (ul s us k).B.toNat + (gu us k).t)).length = s.n := by rw [List.length_set]; exact hC1
              have hD2 : ∀ v, gi (C.set (ul s us k).B.toNat (gi C (ul s us k).B.toNat + (gu us k).t)) v = if v = (ul s us k).B.toNat then gi C (ul s us k).B.toNat + (gu us k).t else gi C v := fun v => gi_set (by omega) _ v
              generalize C.set (ul s us k).B.toNat (gi C (ul s us k).B.toNat + (gu us k).t) = D at hs hD1 hD2
              have hgD : gi D (ul s us k).A.toNat = gi C (ul s us k).A.toNat := by rw [hD2, if_neg (by omega)]
              refine .seq (.draw mix rfl hs ?_); intro w hs
              refine .z 0 rfl zm ?_; refine .z 1 rfl (zfa fa_api_Limit_0) ?_; refine .y 2 rfl hs Try.isAgg3 ?_
              refine .p (i := 3) rfl (by kernel_rfl) .none (q_ixO (k := (ul s us k).A.toNat) rfl rfl Try.runUnderlying22 Try.sizeOf3 (by omega) hAn) ?_
              refine .y 4 rfl hs Try.isAgg3 ?_; refine .z 5 rfl (zfa fa_api_Use_1) ?_; refine .y 6 rfl hs Try.isAgg3 ?_; refine .z 7 rfl zsub ?_
              refine .p (i := 8) rfl (by kernel_rfl) .none (q_ixO (k := (ul s us k).A.toNat) rfl rfl Try.runUnderlying22 Try.sizeOf3 (by omega) hAn) ?_
              refine .e1 (i := 9) (by kernel_rfl) rfl rfl .none hs ?_
              refine .store hs rfl rfl Try.sizeOf3 ?_; intro w hs
              refine .go ?_
              refine .done (by kernel_rfl) hs ?_
              refine .region (.z zm (.z (zfa fa_api_Use_1) (.y hs (zld Try.isAgg3) (.z (zfa fa_api_Limit_2) (.y hs (zld Try.isAgg3) (.z zmul (.z zadd (.z zg (.nil ?_)))))))))
              refine nB (nT ?_)
              exact .mk ⟨rfl, D.set (ul s us k).A.toNat (gi D (ul s us k).A.toNat - (gu us k).t), ⟨by rw [List.length_set]; exact hD1, fun v hv => by
                have hst : intoTo s us (k + 1) v = intoTo s us k v + (gu us k).t * (ind (ul s us k).B.toNat v - ind (ul s us k).A.toNat v) := rfl
                rw [gi_set (by omega), hst, ← hC2 v hv]
                by_cases e1 : v = (ul s us k).A.toNat
                · have i1 : ind (ul s us k).A.toNat v = 1 := by unfold ind; rw [if_pos e1.symm]
                  have i2 : ind (ul s us k).B.toNat v = 0 := by unfold ind; rw [if_neg (by omega)]
                  rw [if_pos e1, hgD, i1, i2, e1]; omega
                · have i1 : ind (ul s us k).A.toNat v = 0 := by unfold ind; rw [if_neg (by omega)]
                  rw [if_neg e1, hD2, i1]
                  by_cases e2 : v = (ul s us k).B.toNat
                  · have i2 : ind (ul s us k).B.toNat v = 1 := by unfold ind; rw [if_pos e2.symm]
                    rw [if_pos e2, i2, e2]; omega
                  · have i2 : ind (ul s us k).B.toNat v = 0 := by unfold ind; rw [if_neg (by omega)]
                    rw [if_neg e2, i2]; omega⟩, hUs', by omega, hs.sub (by repeat (first | exact Sub.refl _ | constructor | apply Sub.weaken))⟩ (hs := .cons rfl (.cons rfl (.cons rfl (.cons rfl (.consI rfl hts.symm (.consI rfl hbs.symm (by repeat (first | exact .nil rfl rfl | refine .cons rfl ?_))))))))
      · rintro fr w ⟨rfl, C, ⟨hC1, hC2⟩, hUs, hTm, hs⟩
        have hlen : us.length ≤ 400 := by omega
        refine nT ?_
        refine .seq (.regSeq (.z zg (.nil (.block ?_))))
        refine .loop (fun k : Nat => ⟨124, [], [(14, I ((k : Int) + 1)), (8, .slice (some ⟨b28, 0, none⟩) s.n s.n), (10, I (boundTo s us us.length)), (3, .pointer (some ⟨b3, 0, none⟩)), (5, .pointer (some ⟨b5, 0, none⟩)), (1, .slice aw ws.length cw)]⟩)
          (fun k w => (k + 1 ≤ s.n ∧ ∀ v, 1 ≤ v → v < k + 1 → gi C v = gi ws v) ∧ St H w (.blk b28 (Is C) :: .blk b5 [I n, .slice au us.length cu] :: .blk b3 [I s.many, .slice al s.lims.length cl] :: σ))
          (fun k => s.n - k) 0 (by repeat (first | exact .nil rfl rfl | refine .cons rfl ?_)) ⟨⟨s.n_pos, fun v h1 h2 => by omega⟩, hs⟩ ?_
        clear hs
        rintro k w ⟨⟨hk, hno⟩, hs⟩
        refine .seq (.regSeq (.z zm (.z (zfa fa_api_System_0) (.y hs (zld Try.isAgg3) (.z zleq (.nil ?_))))))
        refine (.condD rfl (fun hc108 => ?_) (fun hc108 => ?_))
        · refine .skip ?_
          refine nT ?_
          refine .seq (.block ?_)
          refine .seq (.draw mix rfl hs ?_); intro w hs
          have hk1 : k + 1 < s.n := by omega
          refine .z 0 rfl zm ?_; refine .z 1 rfl zm ?_
          refine .p (i := 2) rfl (by kernel_rfl) .none (q_ixO (k := k + 1) rfl rfl Try.runUnderlying22 Try.sizeOf3 (by push_cast; rfl) hk1) ?_
          refine .y 3 rfl hs Try.isAgg3 ?_; refine .z 4 rfl zm ?_; refine .z 5 rfl zm ?_
          refine .ixX (enc := fun x => [I x]) (i := 6) hs rfl (by kernel_rfl) .none hrw rfl rfl Try.runUnderlying22 Try.sizeOf3 (gi_get (l := ws) (i := k + 1) (by omega)) (by push_cast; rfl) ?_; intro b117 o117 hc117; replace hc117 := CellsAt.one hc117
          refine .r (i := 7) hs rfl (by kernel_rfl) .none (q_loadR rfl Try.isAgg3 hc117) ?_
          refine .z 8 rfl zneq ?_; refine .done (by kernel_rfl) hs ?_
          refine (.condN rfl (fun hc119 => ?_) (fun hc119 => ?_))
          · refine .regSeq (.z zg (.nil ?_))
            refine .ret (rB (rT (rT (rB (rT (Fin.ret1 Try.results32 rfl ?_))))))
            exact ⟨_, rfl, .bad hA (fun h => hc119 (by rw [hC2 _ hk1]; exact h.into _ (by omega) hk1)), hs.out⟩
          · refine .skip ?_
            refine nB (nT ?_)
            refine .region (.z zm (.z zadd (.z zg (.nil ?_))))
            refine nT ?_
            exact ⟨k + 1, .consI rfl (by push_cast; omega) (by repeat (first | exact .nil rfl rfl | refine .cons rfl ?_)), ⟨⟨by omega, fun v h1 h2 => by
              by_cases e : v = k + 1
              · subst e; exact hc119
              · exact hno v h1 (by omega)⟩, hs⟩, by omega⟩
        · refine .exit ?_
          refine xT (xT (xB (nT ?_)))
          refine .seq (.regSeq (.z zm (.z (zfa fa_api_Proof_0) (.y hs (zld Try.isAgg3) (.z zneq (.nil ?_))))))
          refine (.condN rfl (fun hc123 => ?_) (fun hc123 => ?_))
          · refine .regSeq (.z zg (.nil ?_))
            refine .ret (rT (Fin.ret1 Try.results32 rfl ?_))
            exact ⟨_, rfl, .bad hA (fun h => hc123 h.bound), hs.out⟩
          · refine .skip ?_
            refine nT ?_
            refine .regSeq (.z zg (.nil ?_))
            refine .ret (Fin.ret1 Try.results32 rfl ?_)
            exact ⟨_, rfl, .ok hA ⟨hlen, hUs, hTm, fun v h1 h2 => by rw [← hC2 v h2]; exact hno v h1 (by omega), by simpa using hc123⟩, hs.out⟩
end Go.Proofs.Ytiiokdeehlfeeaa

namespace Go.Proofs.Ytiiokdeehlfeeaa
open Go.MW
theorem slices_Equal_int {H : Heap} {w : World} {σ : List Ent} {va vb : Value} {A B : List Int} (hs : St H w σ) (hA : RI H va A) (hB : RI H vb B) :
    Cl Try.prog 166 [va, vb] w fun v w' => v = .bool (decide (A = B)) ∧ St H w' σ := by
  obtain ⟨aA, cA, rfl⟩ := RI.shape hA
  obtain ⟨aB, cB, rfl⟩ := RI.shape hB
  have hlA := (RI.len hA).2.2
  have hlB := (RI.len hB).2.2
  refine Cl.of Try.func166 rfl Try.ntmps166 (by simp) (args_cons (k := 0) rfl (args_cons (k := 1) rfl (args0))) ?_
  refine .regSeq (.z zg (.nil (.seq (.regSeq (.z zm (.z (zlen Try.runUnderlying22) (.z zm (.z (zlen Try.runUnderlying22) (.z zneq ?_)))))))))
  refine .nil ?_
  refine (.condN rfl (fun hc10 => ?_) (fun hc10 => ?_))
  · refine .regSeq (.z zg (.nil ?_))
    refine .ret (rT (Fin.ret1 Try.results166 rfl ?_))
    exact ⟨by rw [decide_eq_false (by intro h; subst h; exact hc10 rfl)], hs⟩
  · refine .skip ?_
    refine nT ?_
    refine .seq (.regSeq (.z zm (.z (zlen Try.runUnderlying22) (.z zm (.nil ?_)))))
    refine .for (N := A.length) (J := fun k fr w => fr = [(0, .slice aA A.length cA), (1, .slice aB B.length cB)] ∧ (∀ j < k, A[j]? = B[j]?) ∧ St H w σ) (by omega) ?_ ?_ ?_
    · exact .mk ⟨rfl, fun j h => by omega, hs⟩
    · rintro k fr w hk ⟨rfl, h0, hs⟩
      obtain ⟨xA, hxA⟩ := nth hk
      obtain ⟨xB, hxB⟩ := nth (l := B) (k := k) (by omega)
      refine .block (.regSeq (.z zm (.z zg (.nil ?_))))
      refine .seq (.draw mix rfl hs ?_); intro w hs
      refine .z 0 rfl zm ?_; refine .z 1 rfl zm ?_
      refine .ixX (enc := fun x => [I x]) (i := 2) hs rfl (by kernel_rfl) .none hA rfl rfl Try.runUnderlying22 Try.sizeOf3 hxA rfl ?_; intro b18 o18 hc18; replace hc18 := CellsAt.one hc18
      refine .r (i := 3) hs rfl (by kernel_rfl) .none (q_loadR rfl Try.isAgg3 hc18) ?_
      refine .z 4 rfl zm ?_; refine .z 5 rfl zm ?_
      refine .ixX (enc := fun x => [I x]) (i := 6) hs rfl (by kernel_rfl) .none hB rfl rfl Try.runUnderlying22 Try.sizeOf3 hxB rfl ?_; intro b22 o22 hc22; replace hc22 := CellsAt.one hc22
      refine .r (i := 7) hs rfl (by kernel_rfl) .none (q_loadR rfl Try.isAgg3 hc22) ?_
      refine .z 8 rfl zneq ?_; refine .done (by kernel_rfl) hs ?_
      refine (.condN rfl (fun hc24 => ?_) (fun hc24 => ?_))
      · refine .regSeq (.z zg (.nil ?_))
        refine .ret (rB (rT (rB (rT (Fin.ret1 Try.results166 rfl ?_)))))
        exact ⟨by rw [decide_eq_false (by intro h; subst h; rw [hxA] at hxB; cases hxB; exact hc24 rfl)], hs⟩
      · refine .skip ?_
        refine nB (nT ?_)
        exact .mk ⟨rfl, fun j hj => by
          by_cases e : j = k
          · subst e; rw [hxA, hxB, hc24]
          · exact h0 j (by omega), hs⟩
    · rintro fr w ⟨rfl, h0, hs⟩
      refine nT ?_
      refine .regSeq (.z zg (.nil ?_))
      refine .ret (Fin.ret1 Try.results166 rfl ?_)
      exact ⟨by rw [decide_eq_true (List.ext_getElem? fun j => by
        by_cases e : j < A.length
        · exact h0 j e
        · rw [List.getElem?_eq_none (by omega), List.getElem?_eq_none (by omega)])], hs⟩
set_option maxHeartbeats 8000000 in
theorem bound_isProof_spec {H : Heap} {w : World} {σ : List Ent} {v vw vp : Value} {s : Syst} {ws : List Int} {n : Int} {us : List Use} (hs : St H w σ) (hr : RSy H v s) (hrw : RI H vw ws) (hp : RPf H vp n us) (hA : askErr s ws = 0) :
    Cl Try.prog 177 [v, vw, vp] w fun v w' => ∃ H1 b, HLe H H1 ∧ v = .bool b ∧ (b = true ↔ ProofOk s ws n us) ∧ St H1 w' σ := by
  obtain ⟨u, rfl, hr⟩ := hr
  obtain ⟨al, cl, rfl⟩ := RL.shape hr
  obtain ⟨aw, cw, rfl⟩ := RI.shape hrw
  obtain ⟨uu, rfl, hU⟩ := hp
  obtain ⟨au, cu, rfl⟩ := RU.shape hU
  obtain ⟨hok, hwl, hz⟩ := askErr_ok hA
  have hm0 := hok.m0
  have hn65 := hok.n65
  have hll := hok.len
  have hmn : s.many + 1 = (s.n : Int) := by simp only [Syst.n]; omega
  refine Cl.of Try.func177 rfl Try.ntmps177 (by simp) (args_cons (k := 0) rfl (args_cons (k := 1) rfl (args_cons (k := 2) rfl (args0)))) ?_
  refine .regSeq ?_
  refine .o (.box hs rfl rfl ?_); intro b3 w hs
  refine .o (.box hs rfl rfl ?_); intro b5 w hs
  refine .z zg (.nil (.seq (.regSeq (.z (zfa fa_api_Proof_1) (.y hs (zld Try.isAgg38) (.z (zlen Try.runUnderlying38) (.z zgtr (.nil ?_))))))))
  refine (.condD rfl (fun hc16 => ?_) (fun hc16 => ?_))
  · refine .regSeq (.z zg (.nil ?_))
    refine .ret (rT (Fin.ret1 Try.results177 rfl ?_))
    exact ⟨H, false, HLe.refl H, rfl, ⟨fun h => (by cases h), fun h => by have := h.len; omega⟩, hs.out⟩
  · refine .skip ?_
    refine nT ?_
    refine .regSeq (.z (zfa fa_api_System_0) (.y hs (zld Try.isAgg3) (.z zadd ?_)))
    rw [hmn]
    refine .o (.makeI s.n hs rfl rfl Try.runUnderlying22 Try.typeInfo3 rfl Try.sizeOf3 Try.zeroValue3 (by omega) ?_); intro b20 w hs
    refine .z zg (.nil (.regSeq (.z zg (.z zg (.nil (.seq (.regSeq (.z (zfa fa_api_Proof_1) (.y hs (zld Try.isAgg38) ?_)))))))))
    refine .z (zlen Try.runUnderlying38) (.z zm (.nil ?_))
    refine .for (N := us.length) (J := fun k fr w => fr = [(22, .slice au us.length cu), (7, .slice (some ⟨b20, 0, none⟩) s.n s.n), (8, I (timesTo us k)), (9, I (IntKind.i64.wrap (boundTo s us k))), (3, .pointer (some ⟨b3, 0, none⟩)), (5, .pointer (some ⟨b5, 0, none⟩)), (1, .slice aw ws.length cw)] ∧ ∃ C, (C.length = s.n ∧ ∀ v < s.n, gi C v = intoTo s us k v) ∧ (∀ i < k, UseOk s us i) ∧ timesTo us k ≤ 3600000000000 * k ∧ St H w (.blk b20 (Is C) :: .blk b5 [I n, .slice au us.length cu] :: .blk b3 [I s.many, .slice al s.lims.length cl] :: σ)) (by omega) ?_ ?_ ?_
    · exact .mk ⟨rfl, _, ⟨by simp, fun v hv => by rw [gi_replicate _ _ hv]; rfl⟩, fun i hi => by omega, by simp [timesTo, sumTo], hs⟩ (hs := .cons rfl (.cons rfl (.cons rfl (.cons rfl (.cons rfl (.consI rfl (by simp [boundTo, sumTo, i64wrap_eq]) (by repeat (first | exact .nil rfl rfl | refine .cons rfl ?_))))))))
    · rintro k fr w hk ⟨rfl, C, ⟨hC1, hC2⟩, hUs, hTm, hs⟩
      have hx := gu_get hk
      have hu400 : us.length ≤ 400 := by omega
      refine .block (.regSeq (.z zm ?_))
      refine .ixX (enc := Use.c) hs hU rfl rfl Try.runUnderlying38 Try.sizeOf154 hx rfl ?_; intro b27 o27 hc27
      refine .q hs (q_loadsR (vs := (gu us k).c) rfl Try.isAgg154 Try.sizeOf154 hc27) ?_
      refine .o (.alloc hs Try.zeroValue154 rfl ?_); intro b11 w hs
      refine .z zg ?_
      refine .o (.stores (vs := (gu us k).c) hs rfl rfl Try.sizeOf154 ?_); intro w hs
      refine .nil (.seq ?_)
      refine .cut (fun fs w => ∃ p, FSub fs ⟨110, [], [(58, .bool p), (11, .pointer (some ⟨b11, 0, none⟩)), (24, I (k : Int)), (23, I (us.length : Int)), (22, .slice au us.length cu), (7, .slice (some ⟨b20, 0, none⟩) s.n s.n), (8, I (timesTo us k)), (9, I (IntKind.i64.wrap (boundTo s us k))), (3, .pointer (some ⟨b3, 0, none⟩)), (5, .pointer (some ⟨b5, 0, none⟩)), (1, .slice aw ws.length cw)]⟩ ∧ (p = true → ¬ UseOk s us k) ∧ (p = false → UseOk s us k) ∧ St H w (.blk b11 (gu us k).c :: .blk b20 (Is C) :: .blk b5 [I n, .slice au us.length cu] :: .blk b3 [I s.many, .slice al s.lims.length cl] :: σ)) ?_ ?_
      · refine .draw mix rfl hs ?_; intro w hs
        refine .z 0 rfl (zfa fa_api_Use_0) ?_; refine .y 1 rfl hs Try.isAgg3 ?_; refine .z 2 rfl (zfa fa_api_System_1) ?_; refine .y 3 rfl hs Try.isAgg30 ?_; refine .z 4 rfl (zlen Try.runUnderlying30) ?_; refine .z 5 rfl zsub ?_
        refine .e1 (i := 6) (by kernel_rfl) rfl rfl .none hs ?_
        refine .call Try.call160 rfl (bound_within_spec hs) ?_; rintro _ w ⟨rfl, hs⟩
        refine .go ?_
        refine .z 7 rfl znot ?_; refine .z 8 rfl zm ?_
        refine .bif (t' := 37) rfl (fun hb37 => ?_) (fun hb37 => ?_)
        · refine .qF (i := 9) rfl (by kernel_rfl) rfl rfl ?_
          refine .qF (i := 10) rfl (by kernel_rfl) rfl rfl ?_
          refine .qF (i := 11) rfl (by kernel_rfl) rfl rfl ?_
          refine .qF (i := 12) rfl (by kernel_rfl) rfl rfl ?_
          refine .z 13 rfl zpT ?_; refine .z 14 rfl zm ?_
          refine .qF (i := 15) rfl (by kernel_rfl) rfl rfl ?_
          refine .qF (i := 16) rfl (by kernel_rfl) rfl rfl ?_
          refine .qF (i := 17) rfl (by kernel_rfl) rfl rfl ?_
          refine .qF (i := 18) rfl (by kernel_rfl) rfl rfl ?_
          refine .qF (i := 19) rfl (by kernel_rfl) rfl rfl ?_
          refine .qF (i := 20) rfl (by kernel_rfl) rfl rfl ?_
          refine .qF (i := 21) rfl (by kernel_rfl) rfl rfl ?_
          refine .qF (i := 22) rfl (by kernel_rfl) rfl rfl ?_
          refine .qF (i := 23) rfl (by kernel_rfl) rfl rfl ?_
          refine .qF (i := 24) rfl (by kernel_rfl) rfl rfl ?_
          refine .qF (i := 25) rfl (by kernel_rfl) rfl rfl ?_
          refine .qF (i := 26) rfl (by kernel_rfl) rfl rfl ?_
          refine .qF (i := 27) rfl (by kernel_rfl) rfl rfl ?_
          refine .qF (i := 28) rfl (by kernel_rfl) rfl rfl ?_
          refine .z 29 rfl zpT ?_; refine .done (by kernel_rfl) hs ?_
          exact nT ⟨_, by repeat (first | exact .nil rfl rfl | refine .cons rfl ?_), by
            intro hp hU
            have h1 := hU.l0; have h2 := hU.l1; have h3 := hU.t0; have h4 := hU.t1; have h5 := hU.ord
            first
              | (cases hp; done)
              | (have := notdec_true.1 hb37; omega)
              | (have := notdec_true.1 hb43; omega)
              | (have := of_decide_eq_true hp; have := h5 (by omega); omega), by
            intro hp
            first
              | (cases hp; done)
              | exact ⟨by have := notdec_false.1 hb37; omega, by have := notdec_false.1 hb37; omega, by have := notdec_false.1 hb43; omega, by have := notdec_false.1 hb43; omega, fun h => by first | omega | (have := of_decide_eq_false hp; omega)⟩, hs⟩
        · refine .z 9 rfl (zfa fa_api_Use_1) ?_; refine .y 10 rfl hs Try.isAgg3 ?_
          refine .e1 (i := 11) (by kernel_rfl) rfl rfl (.some rfl rfl) hs ?_
          refine .call Try.call160 rfl (bound_within_spec hs) ?_; rintro _ w ⟨rfl, hs⟩
          refine .go ?_
          refine .z 12 rfl znot ?_; refine .z 13 rfl zpF ?_; refine .z 14 rfl zm ?_
          refine .bif (t' := 43) rfl (fun hb43 => ?_) (fun hb43 => ?_)
          · refine .qF (i := 15) rfl (by kernel_rfl) rfl rfl ?_
            refine .qF (i := 16) rfl (by kernel_rfl) rfl rfl ?_
            refine .qF (i := 17) rfl (by kernel_rfl) rfl rfl ?_
            refine .qF (i := 18) rfl (by kernel_rfl) rfl rfl ?_
            refine .qF (i := 19) rfl (by kernel_rfl) rfl rfl ?_
            refine .qF (i := 20) rfl (by kernel_rfl) rfl rfl ?_
            refine .qF (i := 21) rfl (by kernel_rfl) rfl rfl ?_
            refine .qF (i := 22) rfl (by kernel_rfl) rfl rfl ?_
            refine .qF (i := 23) rfl (by kernel_rfl) rfl rfl ?_
            refine .qF (i := 24) rfl (by kernel_rfl) rfl rfl ?_
            refine .qF (i := 25) rfl (by kernel_rfl) rfl rfl ?_
            refine .qF (i := 26) rfl (by kernel_rfl) rfl rfl ?_
            refine .qF (i := 27) rfl (by kernel_rfl) rfl rfl ?_
            refine .qF (i := 28) rfl (by kernel_rfl) rfl rfl ?_
            refine .z 29 rfl zpT ?_; refine .done (by kernel_rfl) hs ?_
            exact nT ⟨_, by repeat (first | exact .nil rfl rfl | refine .cons rfl ?_), by
              intro hp hU
              have h1 := hU.l0; have h2 := hU.l1; have h3 := hU.t0; have h4 := hU.t1; have h5 := hU.ord
              first
                | (cases hp; done)
                | (have := notdec_true.1 hb37; omega)
                | (have := notdec_true.1 hb43; omega)
                | (have := of_decide_eq_true hp; have := h5 (by omega); omega), by
              intro hp
              first
                | (cases hp; done)
                | exact ⟨by have := notdec_false.1 hb37; omega, by have := notdec_false.1 hb37; omega, by have := notdec_false.1 hb43; omega, by have := notdec_false.1 hb43; omega, fun h => by first | omega | (have := of_decide_eq_false hp; omega)⟩, hs⟩
          · refine .z 15 rfl zm ?_; refine .z 16 rfl zgtr ?_; refine .z 17 rfl zm ?_
            refine .bifD (t' := 46) rfl (fun hb46 => ?_) (fun hb46 => ?_)
            · refine .z 18 rfl (zfa fa_api_Proof_1) ?_; refine .y 19 rfl hs Try.isAgg38 ?_; refine .z 20 rfl zm ?_; refine .z 21 rfl zsub ?_
              refine .ixX (enc := Use.c) (i := 22) hs rfl (by kernel_rfl) (.some rfl rfl) hU rfl rfl Try.runUnderlying38 Try.sizeOf154 (gu_get (i := k - 1) (by omega)) (by omega) ?_; intro b51 o51 hc51
              refine .z 23 rfl (zfa fa_api_Use_0) ?_
              refine .r (i := 24) hs rfl (by kernel_rfl) (.some rfl rfl) (q_loadR rfl Try.isAgg3 (hc51.get 0 rfl)) ?_
              refine .z 25 rfl (zfa fa_api_Use_0) ?_; refine .y 26 rfl hs Try.isAgg3 ?_; refine .z 27 rfl zgeq ?_; refine .z 28 rfl zpT ?_; refine .z 29 rfl zpF ?_; refine .done (by kernel_rfl) hs ?_
              exact nT ⟨_, by repeat (first | exact .nil rfl rfl | refine .cons rfl ?_), by
                intro hp hU
                have h1 := hU.l0; have h2 := hU.l1; have h3 := hU.t0; have h4 := hU.t1; have h5 := hU.ord
                first
                  | (cases hp; done)
                  | (have := notdec_true.1 hb37; omega)
                  | (have := notdec_true.1 hb43; omega)
                  | (have := of_decide_eq_true hp; have := h5 (by omega); omega), by
                intro hp
                first
                  | (cases hp; done)
                  | exact ⟨by have := notdec_false.1 hb37; omega, by have := notdec_false.1 hb37; omega, by have := notdec_false.1 hb43; omega, by have := notdec_false.1 hb43; omega, fun h => by first | omega | (have := of_decide_eq_false hp; omega)⟩, hs⟩
            · refine .qF (i := 18) rfl (by kernel_rfl) rfl rfl ?_
              refine .qF (i := 19) rfl (by kernel_rfl) rfl rfl ?_
              refine .qF (i := 20) rfl (by kernel_rfl) rfl rfl ?_
              refine .qF (i := 21) rfl (by kernel_rfl) rfl rfl ?_
              refine .qF (i := 22) rfl (by kernel_rfl) rfl rfl ?_
              refine .qF (i := 23) rfl (by kernel_rfl) rfl rfl ?_
              refine .qF (i := 24) rfl (by kernel_rfl) rfl rfl ?_
              refine .qF (i := 25) rfl (by kernel_rfl) rfl rfl ?_
              refine .qF (i := 26) rfl (by kernel_rfl) rfl rfl ?_
              refine .qF (i := 27) rfl (by kernel_rfl) rfl rfl ?_
              refine .z 28 rfl zpF ?_; refine .z 29 rfl zpF ?_; refine .done (by kernel_rfl) hs ?_
              exact nT ⟨_, by repeat (first | exact .nil rfl rfl | refine .cons rfl ?_), by
                intro hp hU
                have h1 := hU.l0; have h2 := hU.l1; have h3 := hU.t0; have h4 := hU.t1; have h5 := hU.ord
                first
                  | (cases hp; done)
                  | (have := notdec_true.1 hb37; omega)
                  | (have := notdec_true.1 hb43; omega)
                  | (have := of_decide_eq_true hp; have := h5 (by omega); omega), by
                intro hp
                first
                  | (cases hp; done)
                  | exact ⟨by have := notdec_false.1 hb37; omega, by have := notdec_false.1 hb37; omega, by have := notdec_false.1 hb43; omega, by have := notdec_false.1 hb43; omega, fun h => by first | omega | (have := of_decide_eq_false hp; omega)⟩, hs⟩
      · rintro fs w ⟨p, hfs, hp1, hp2, hs⟩
        refine WE.sub ?_ hfs
        refine (.cond rfl (fun hc58 => ?_) (fun hc58 => ?_))
        · refine .regSeq (.z zg (.nil ?_))
          refine .ret (rT (rB (rT (rB (rT (Fin.ret1 Try.results177 rfl ?_))))))
          exact ⟨H, false, HLe.refl H, rfl, ⟨fun h => (by cases h), fun h => (hp1 hc58 (h.use k hk)).elim⟩, hs.out⟩
        · refine .skip ?_
          refine nT ?_
          refine .regSeq ?_
          have hUk := hp2 (by simpa using hc58)
          have hUs' : ∀ i < k + 1, UseOk s us i := fun i hi => by
            by_cases e : i = k
            · subst e; exact hUk
            · exact hUs i (by omega)
          have hTp := times_pos hUs
          have ht0 := hUk.t0; have ht1 := hUk.t1; have hl0 := hUk.l0; have hl1 := hUk.l1
          have hgl := gl_get (ls := s.lims) (i := (gu us k).l.toNat) (by omega)
          obtain ⟨⟨xa0, xa1⟩, ⟨xb0, xb1⟩, xne, xM, -⟩ := hok.lim _ (List.mem_of_getElem? hgl)
          have hbs : boundTo s us (k + 1) = boundTo s us k + (gu us k).t * (ul s us k).M := rfl
          have hts : timesTo us (k + 1) = timesTo us k + (gu us k).t := rfl
          change 0 ≤ (ul s us k).A at xa0; change (ul s us k).A ≤ s.many at xa1
          change 0 ≤ (ul s us k).B at xb0; change (ul s us k).B ≤ s.many at xb1
          change (ul s us k).A ≠ (ul s us k).B at xne
          change -20000 ≤ (ul s us k).M ∧ (ul s us k).M ≤ 20000 at xM
          have hm1 : (gu us k).t * -20000 ≤ (gu us k).t * (ul s us k).M := Int.mul_le_mul_of_nonneg_left xM.1 (by omega)
          have hm2 : (gu us k).t * (ul s us k).M ≤ (gu us k).t * 20000 := Int.mul_le_mul_of_nonneg_left xM.2 (by omega)
          have hib := into_bd hUs (ul s us k).B.toNat
          have hia := into_bd hUs (ul s us k).A.toNat
          have hAn : (ul s us k).A.toNat < s.n := by omega
          have hBn : (ul s us k).B.toNat < s.n := by omega
          have hgA := hC2 _ hAn
          have hgB := hC2 _ hBn
          refine .z (zfa fa_api_System_1) (.y hs (zld Try.isAgg30) (.z (zfa fa_api_Use_0) (.y hs (zld Try.isAgg3) ?_)))
          refine .ixX (enc := Lim.c) hs hr rfl rfl Try.runUnderlying30 Try.sizeOf100 hgl (by omega) ?_; intro b63 o63 hc63
          refine .q hs (q_loadsR (vs := (ul s us k).c) rfl Try.isAgg100 Try.sizeOf100 hc63) ?_
          refine .o (.alloc hs Try.zeroValue100 rfl ?_); intro b12 w hs
          refine .o (.stores (vs := (ul s us k).c) hs rfl rfl Try.sizeOf100 ?_); intro w hs
          refine .nil ?_
          refine .seq (.draw mix rfl hs ?_); intro w hs
          refine .z 0 rfl zm ?_; refine .z 1 rfl (zfa fa_api_Limit_1) ?_; refine .y 2 rfl hs Try.isAgg3 ?_
          refine .p (i := 3) rfl (by kernel_rfl) .none (q_ixO (k := (ul s us k).B.toNat) rfl rfl Try.runUnderlying22 Try.sizeOf3 (by omega) hBn) ?_
          refine .y 4 rfl hs Try.isAgg3 ?_; refine .z 5 rfl (zfa fa_api_Use_1) ?_; refine .y 6 rfl hs Try.isAgg3 ?_; refine .z 7 rfl zadd ?_
          refine .p (i := 8) rfl (by kernel_rfl) .none (q_ixO (k := (ul s us k).B.toNat) rfl rfl Try.runUnderlying22 Try.sizeOf3 (by omega) hBn) ?_
          refine .e1 (i := 9) (by kernel_rfl) rfl rfl .none hs ?_
          refine .store hs rfl rfl Try.sizeOf3 ?_; intro w hs
          refine .go ?_
          refine .done (by kernel_rfl) hs ?_
          have hD1 : (C.set (ul s us k).B.toNat (gi C (ul s us k).B.toNat + (gu us k).t)).length = s.n := by rw [List.length_set]; exact hC1
          have hD2 : ∀ v, gi (C.set (ul s us k).B.toNat (gi C (ul s us k).B.toNat + (gu us k).t)) v = if v = (ul s us k).B.toNat then gi C (ul s us k).B.toNat + (gu us k).t else gi C v := fun v => gi_set (by omega) _ v
          generalize C.set (ul s us k).B.toNat (gi C (ul s us k).B.toNat + (gu us k).t) = D at hs hD1 hD2
          have hgD : gi D (ul s us k).A.toNat = gi C (ul s us k).A.toNat := by rw [hD2, if_neg (by omega)]
          refine .seq (.draw mix rfl hs ?_); intro w hs
          refine .z 0 rfl zm ?_; refine .z 1 rfl (zfa fa_api_Limit_0) ?_; refine .y 2 rfl hs Try.isAgg3 ?_
          refine .p (i := 3) rfl (by kernel_rfl) .none (q_ixO (k := (ul s us k).A.toNat) rfl rfl Try.runUnderlying22 Try.sizeOf3 (by omega) hAn) ?_
          refine .y 4 rfl hs Try.isAgg3 ?_; refine .z 5 rfl (zfa fa_api_Use_1) ?_; refine .y 6 rfl hs Try.isAgg3 ?_; refine .z 7 rfl zsub ?_
          refine .p (i := 8) rfl (by kernel_rfl) .none (q_ixO (k := (ul s us k).A.toNat) rfl rfl Try.runUnderlying22 Try.sizeOf3 (by omega) hAn) ?_
          refine .e1 (i := 9) (by kernel_rfl) rfl rfl .none hs ?_
          refine .store hs rfl rfl Try.sizeOf3 ?_; intro w hs
          refine .go ?_
          refine .done (by kernel_rfl) hs ?_
          refine .regSeq (.z zm (.z (zfa fa_api_Use_1) (.y hs (zld Try.isAgg3) (.z zadd (.z zg (.nil (.region (.z zm (.z (zfa fa_api_Use_1) ?_)))))))))
          refine .y hs (zld Try.isAgg3) (.z (zfa fa_api_Limit_2) (.y hs (zld Try.isAgg3) (.z zmul ?_)))
          refine .q hs (q_add rfl rfl) ?_
          rw [i64wrap_add]
          refine .z zg (.nil ?_)
          refine nB (nT ?_)
          exact .mk ⟨rfl, D.set (ul s us k).A.toNat (gi D (ul s us k).A.toNat - (gu us k).t), ⟨by rw [List.length_set]; exact hD1, fun v hv => by
            have hst : intoTo s us (k + 1) v = intoTo s us k v + (gu us k).t * (ind (ul s us k).B.toNat v - ind (ul s us k).A.toNat v) := rfl
            rw [gi_set (by omega), hst, ← hC2 v hv]
            by_cases e1 : v = (ul s us k).A.toNat
            · have i1 : ind (ul s us k).A.toNat v = 1 := by unfold ind; rw [if_pos e1.symm]
              have i2 : ind (ul s us k).B.toNat v = 0 := by unfold ind; rw [if_neg (by omega)]
              rw [if_pos e1, hgD, i1, i2, e1]; omega
            · have i1 : ind (ul s us k).A.toNat v = 0 := by unfold ind; rw [if_neg (by omega)]
              rw [if_neg e1, hD2, i1]
              by_cases e2 : v = (ul s us k).B.toNat
              · have i2 : ind (ul s us k).B.toNat v = 1 := by unfold ind; rw [if_pos e2.symm]
                rw [if_pos e2, i2, e2]; omega
              · have i2 : ind (ul s us k).B.toNat v = 0 := by unfold ind; rw [if_neg (by omega)]
                rw [if_neg e2, i2]; omega⟩, hUs', by omega, hs.sub (by repeat (first | exact Sub.refl _ | constructor | apply Sub.weaken))⟩ (hs := .cons rfl (.cons rfl (.cons rfl (.cons rfl (.consI rfl hts.symm (.consI rfl (by rw [hbs]) (by repeat (first | exact .nil rfl rfl | refine .cons rfl ?_))))))))
    · rintro fr w ⟨rfl, C, ⟨hC1, hC2⟩, hUs, hTm, hs⟩
      have hlen : us.length ≤ 400 := by omega
      obtain ⟨H1, hle1, hRow, hs⟩ := hs.publish (b := b20) (c := Is C) .here
      have hRC : RI H1 (.slice (some ⟨b20, 0, none⟩) s.n s.n) C := by
        have := Row.RI (xs := C) (spare := []) (by simpa using hRow) s.n (by omega) (by omega)
        rwa [hC1] at this
      have hRT := RI.tail hRC (k := 1) (by have := s.n_pos; omega)
      have hWT := RI.tail (hrw.mono hle1) (k := 1) (by have := s.n_pos; omega)
      have hbd := bound_bd hok hUs
      have heq : C.drop 1 = ws.drop 1 ↔ ∀ v, 1 ≤ v → v < s.n → intoTo s us us.length v = gi ws v := by
        constructor
        · intro h v h1 h2
          rw [← hC2 v h2]
          have := congrArg (fun l => gi l (v - 1)) h
          simpa [gi, List.getD, show 1 + (v - 1) = v by omega, show v - 1 + 1 = v by omega] using this
        · intro h
          refine ext_gi' (by simp [hC1, hwl]) fun k hk => ?_
          have hk' : k + 1 < s.n := by simp at hk; omega
          have := h (k + 1) (by omega) hk'
          rw [← hC2 _ hk'] at this
          simpa [gi, List.getD, Nat.add_comm] using this
      refine nT ?_
      refine .seq (.draw mix rfl hs ?_); intro w hs
      refine .z 0 rfl zm ?_; refine .z 1 rfl zleq ?_; refine .z 2 rfl zm ?_
      refine .bifD (t' := 97) rfl (fun hb97 => ?_) (fun hb97 => ?_)
      · refine .z 3 rfl zm ?_
        refine .p (i := 4) rfl (by kernel_rfl) (.some rfl rfl) (q_sliceLX (k := 1) rfl rfl Try.runUnderlying22 Try.sizeOf3 rfl (by have := s.n_pos; omega)) ?_
        refine .z 5 rfl zm ?_
        refine .p (i := 6) rfl (by kernel_rfl) (.some rfl rfl) (q_sliceLX (k := 1) rfl rfl Try.runUnderlying22 Try.sizeOf3 rfl (by have := s.n_pos; omega)) ?_
        refine .e1 (i := 7) (by kernel_rfl) rfl rfl (.some rfl rfl) hs ?_
        refine .call Try.call166 rfl (slices_Equal_int hs hRT hWT) ?_; rintro _ w ⟨rfl, hs⟩
        refine .go ?_
        refine .z 8 rfl zpT ?_; refine .z 9 rfl zm ?_
        refine .bif (t' := 104) rfl (fun hb104 => ?_) (fun hb104 => ?_)
        · refine .z 10 rfl zm ?_; refine .z 11 rfl (zfa fa_api_Proof_0) ?_; refine .y 12 rfl hs Try.isAgg3 ?_; refine .z 13 rfl zeql ?_; refine .z 14 rfl zpT ?_; refine .z 15 rfl zg ?_; refine .done (by kernel_rfl) hs ?_
          refine .ret (Fin.ret1 Try.results177 rfl ?_)
          exact ⟨H1, _, hle1, rfl, by
            first
              | exact ⟨fun h => (by cases h), fun h => (hb97 h.tot).elim⟩
              | exact ⟨fun h => (by cases h), fun h => by have := heq.2 h.into; simp_all⟩
              | (rw [i64wrap (by omega)]
                 have he : C.drop 1 = ws.drop 1 := by simpa using hb104
                 exact ⟨fun h => ⟨hlen, hUs, hb97, heq.1 he, of_decide_eq_true h⟩, fun h => decide_eq_true h.bound⟩), hs.out⟩
        · refine .qF (i := 10) rfl (by kernel_rfl) rfl rfl ?_
          refine .qF (i := 11) rfl (by kernel_rfl) rfl rfl ?_
          refine .qF (i := 12) rfl (by kernel_rfl) rfl rfl ?_
          refine .qF (i := 13) rfl (by kernel_rfl) rfl rfl ?_
          refine .z 14 rfl zpF ?_; refine .z 15 rfl zg ?_; refine .done (by kernel_rfl) hs ?_
          refine .ret (Fin.ret1 Try.results177 rfl ?_)
          exact ⟨H1, _, hle1, rfl, by
            first
              | exact ⟨fun h => (by cases h), fun h => (hb97 h.tot).elim⟩
              | exact ⟨fun h => (by cases h), fun h => by have := heq.2 h.into; simp_all⟩
              | (rw [i64wrap (by omega)]
                 have he : C.drop 1 = ws.drop 1 := by simpa using hb104
                 exact ⟨fun h => ⟨hlen, hUs, hb97, heq.1 he, of_decide_eq_true h⟩, fun h => decide_eq_true h.bound⟩), hs.out⟩
      · refine .qF (i := 3) rfl (by kernel_rfl) rfl rfl ?_
        refine .qF (i := 4) rfl (by kernel_rfl) rfl rfl ?_
        refine .qF (i := 5) rfl (by kernel_rfl) rfl rfl ?_
        refine .qF (i := 6) rfl (by kernel_rfl) rfl rfl ?_
        refine .qF (i := 7) rfl (by kernel_rfl) rfl rfl ?_
        refine .z 8 rfl zpF ?_; refine .z 9 rfl zm ?_
        refine .qF (i := 10) rfl (by kernel_rfl) rfl rfl ?_
        refine .qF (i := 11) rfl (by kernel_rfl) rfl rfl ?_
        refine .qF (i := 12) rfl (by kernel_rfl) rfl rfl ?_
        refine .qF (i := 13) rfl (by kernel_rfl) rfl rfl ?_
        refine .z 14 rfl zpF ?_; refine .z 15 rfl zg ?_; refine .done (by kernel_rfl) hs ?_
        refine .ret (Fin.ret1 Try.results177 rfl ?_)
        exact ⟨H1, _, hle1, rfl, by
          first
            | exact ⟨fun h => (by cases h), fun h => (hb97 h.tot).elim⟩
            | exact ⟨fun h => (by cases h), fun h => by have := heq.2 h.into; simp_all⟩
            | (rw [i64wrap (by omega)]
               have he : C.drop 1 = ws.drop 1 := by simpa using hb104
               exact ⟨fun h => ⟨hlen, hUs, hb97, heq.1 he, of_decide_eq_true h⟩, fun h => decide_eq_true h.bound⟩), hs.out⟩
theorem bound_CheckProof_spec {H : Heap} {w : World} {σ : List Ent} {v vw vp : Value} {s : Syst} {ws : List Int} {n : Int} {us : List Use} (hs : St H w σ) (hr : RSy H v s) (hrw : RI H vw ws) (hp : RPf H vp n us) :
    Cl Try.prog 91 [v, vw, vp] w fun v w' => ∃ H1 e, HLe H H1 ∧ v = I e ∧ ProofR s ws n us e ∧ St H1 w' σ := by
  obtain ⟨u, rfl, hr⟩ := hr
  obtain ⟨al, cl, rfl⟩ := RL.shape hr
  obtain ⟨aw, cw, rfl⟩ := RI.shape hrw
  obtain ⟨uu, rfl, hU⟩ := hp
  obtain ⟨au, cu, rfl⟩ := RU.shape hU
  refine Cl.of Try.func91 rfl Try.ntmps91 (by simp) (args_cons (k := 0) rfl (args_cons (k := 1) rfl (args_cons (k := 2) rfl (args0)))) ?_
  refine .regSeq ?_
  refine .o (.box hs rfl rfl ?_); intro b3 w hs
  refine .o (.box hs rfl rfl ?_); intro b5 w hs
  refine .z zg (.nil (.seq (.regSeq (.y hs (zls [_, _] Try.isAgg32 Try.sizeOf32) (.z zm ?_)))))
  refine .o (.call Try.call176 rfl (bound_checkWeights_spec (s := s) hs ⟨_, rfl, hr⟩ hrw) ?_); rintro _ w ⟨rfl, hs⟩
  refine .z zg (.nil (.regSeq (.z zm (.z zneq (.nil ?_)))))
  refine (.condN rfl (fun hc12 => ?_) (fun hc12 => ?_))
  · refine .regSeq (.z zm (.z zg (.nil ?_)))
    refine .ret (rT (Fin.ret1 Try.results91 rfl ?_))
    exact ⟨H, _, HLe.refl H, rfl, .ask hc12, hs.out⟩
  · refine .skip ?_
    refine nT ?_
    refine .seq (.regSeq (.y hs (zls [_, _] Try.isAgg32 Try.sizeOf32) (.z zm (.y hs (zls [_, _] Try.isAgg40 Try.sizeOf40) ?_))))
    have hA : askErr s ws = 0 := by simpa using hc12
    refine .o (.call Try.call177 rfl (bound_isProof_spec (s := s) (n := n) (us := us) hs ⟨_, rfl, hr⟩ hrw ⟨_, rfl, hU⟩ hA) ?_); rintro _ w ⟨H1, b, hle1, rfl, hb, hs⟩
    refine .z znot (.nil ?_)
    refine (.cond rfl (fun hc18 => ?_) (fun hc18 => ?_))
    · refine .regSeq (.z zg (.nil ?_))
      refine .ret (rT (Fin.ret1 Try.results91 rfl ?_))
      exact ⟨H1, _, hle1, rfl, .bad hA (fun h => by rw [hb.2 h] at hc18; cases hc18), hs.out⟩
    · refine .skip ?_
      refine nT ?_
      refine .regSeq (.z zg (.nil ?_))
      refine .ret (Fin.ret1 Try.results91 rfl ?_)
      exact ⟨H1, _, hle1, rfl, .ok hA (hb.1 (by simpa using hc18)), hs.out⟩
end Go.Proofs.Ytiiokdeehlfeeaa

namespace Go.Proofs.Ytiiokdeehlfeeaa
open Go.MW
inductive CWR (a : Quest) (l : List Prb) (n m : Int) (us : List Use) : Int → Prop
  | ask {e : Int} (h : CPrbR a l e) (he : e ≠ 0) : CWR a l n m us e
  | bad {e : Int} (h : CPrbR a l 0) (h1 : ProofR (dblS a l) (dblW a.ws) m us e) (he : e ≠ 0) : CWR a l n m us 24
  | more (h : CPrbR a l 0) (h1 : ProofR (dblS a l) (dblW a.ws) m us 0) (he : n < m) : CWR a l n m us 94
  | ok (h : CPrbR a l 0) (h1 : ProofR (dblS a l) (dblW a.ws) m us 0) (he : ¬ n < m) : CWR a l n m us 0
theorem CWR.uniq {a : Quest} {l : List Prb} {n m : Int} {us : List Use} {e f : Int} (h : CWR a l n m us e) (g : CWR a l n m us f) : e = f := by
  cases h with
  | ask h he =>
    cases g with
    | ask g _ => exact h.uniq g
    | bad g _ _ => exact (he (h.uniq g)).elim
    | more g _ _ => exact (he (h.uniq g)).elim
    | ok g _ _ => exact (he (h.uniq g)).elim
  | bad h h1 he =>
    cases g with
    | ask g ge => exact (ge (g.uniq h)).elim
    | bad g _ _ => rfl
    | more g g1 _ => exact (he (h1.uniq g1)).elim
    | ok g g1 _ => exact (he (h1.uniq g1)).elim
  | more h h1 he =>
    cases g with
    | ask g ge => exact (ge (g.uniq h)).elim
    | bad g g1 ge => exact (ge (g1.uniq h1)).elim
    | more g _ _ => rfl
    | ok g _ ge => exact (ge he).elim
  | ok h h1 he =>
    cases g with
    | ask g ge => exact (ge (g.uniq h)).elim
    | bad g g1 ge => exact (ge (g1.uniq h1)).elim
    | more g _ ge => exact (he ge).elim
    | ok g _ _ => rfl
end Go.Proofs.Ytiiokdeehlfeeaa

namespace Go.Proofs.Ytiiokdeehlfeeaa
open Go.MW
inductive CycR (s : Syst) (xs : List Int) : Int → Prop
  | bad (h : s.check ≠ 0) (h1 : xs = []) : CycR s xs s.check
  | sound (h : s.Ok) (h1 : s.Sound) (h2 : xs = []) : CycR s xs 0
  | chain {st : BS} {x : Arc} {z k : Nat} (h : s.Ok) (h1 : ¬ s.Sound) (h2 : NearR s.n s.arcs st (some x)) (h3 : z = parK st.by_ x.t (s.n + 1)) (h4 : 1 ≤ k) (h5 : k ≤ s.n) (h6 : parK st.by_ z k = z) (h7 : xs = (idxTo st.by_ z k).reverse) : CycR s xs 0
end Go.Proofs.Ytiiokdeehlfeeaa

namespace Go.Proofs.Ytiiokdeehlfeeaa
open Go.MW
def ROut (H : Heap) (v : Value) (vs : List Int) : Prop := ∃ u, v = .agg #[u] ∧ RI H u vs
theorem ROut.mono {H H' : Heap} {v : Value} {vs : List Int} (h : ROut H v vs) (hl : HLe H H') : ROut H' v vs := by
  obtain ⟨u, h1, h2⟩ := h; exact ⟨u, h1, h2.mono hl⟩
end Go.Proofs.Ytiiokdeehlfeeaa

namespace Go.Proofs.Ytiiokdeehlfeeaa
open Go.MW
inductive COutR (a : Quest) (l : List Prb) (vs : List Int) : Int → Prop
  | ask {e : Int} (h : CPrbR a l e) (he : e ≠ 0) : COutR a l vs e
  | size (h : CPrbR a l 0) (h1 : vs.length ≠ l.length) : COutR a l vs 92
  | ok (h : CPrbR a l 0) (h1 : vs.length = l.length) : COutR a l vs 0
theorem COutR.zero {a : Quest} {l : List Prb} {vs : List Int} (h : COutR a l vs 0) : CPrbR a l 0 ∧ vs.length = l.length := by
  generalize hz : (0 : Int) = y at h
  cases h with
  | ask _ he => exact (he hz.symm).elim
  | size => omega
  | ok h h1 => exact ⟨h, h1⟩
theorem COutR.uniq {a : Quest} {l : List Prb} {vs : List Int} {e f : Int} (h : COutR a l vs e) (g : COutR a l vs f) : e = f := by
  cases h with
  | ask h he =>
    cases g with
    | ask g _ => exact h.uniq g
    | size g _ => exact (he (h.uniq g)).elim
    | ok g _ => exact (he (h.uniq g)).elim
  | size h h1 =>
    cases g with
    | ask g ge => exact (ge (g.uniq h)).elim
    | size => rfl
    | ok _ g1 => exact (h1 g1).elim
  | ok h h1 =>
    cases g with
    | ask g ge => exact (ge (g.uniq h)).elim
    | size _ g1 => exact (g1 h1).elim
    | ok => rfl
end Go.Proofs.Ytiiokdeehlfeeaa

namespace Go.Proofs.Ytiiokdeehlfeeaa
open Go.MW
structure KeepsP (s : Syst) (x : List Int) : Prop where
  len : x.length = s.n
  zero : gi x 0 = 0
  free : ∀ v < s.n, -1000000000 ≤ gi x v ∧ gi x v ≤ 1000000000
  feas : Feas s.arcs (gi x)
end Go.Proofs.Ytiiokdeehlfeeaa

namespace Go.Proofs.Ytiiokdeehlfeeaa
open Go.MW
inductive CPtR (s : Syst) (x : List Int) : Int → Prop
  | bad (h : s.check ≠ 0) : CPtR s x s.check
  | off (h : s.Ok) (h1 : ¬ KeepsP s x) : CPtR s x 25
  | ok (h : s.Ok) (h1 : KeepsP s x) : CPtR s x 0
theorem CPtR.uniq {s : Syst} {x : List Int} {e f : Int} (h : CPtR s x e) (g : CPtR s x f) : e = f := by
  cases h with
  | bad h =>
    cases g with
    | bad => rfl
    | off g _ => exact (h (s.ok_iff.2 g)).elim
    | ok g _ => exact (h (s.ok_iff.2 g)).elim
  | off h h1 =>
    cases g with
    | bad g => exact (g (s.ok_iff.2 h)).elim
    | off => rfl
    | ok _ g1 => exact (h1 g1).elim
  | ok h h1 =>
    cases g with
    | bad g => exact (g (s.ok_iff.2 h)).elim
    | off _ g1 => exact (g1 h1).elim
    | ok => rfl
end Go.Proofs.Ytiiokdeehlfeeaa

namespace Go.Proofs.Ytiiokdeehlfeeaa
open Go.MW
def ValR (a : Quest) (p : Prb) (lo hi e : Int) : Prop := (CPrbR a [p] e ∧ e ≠ 0 ∧ lo = 0 ∧ hi = 0) ∨ (CPrbR a [p] 0 ∧ e = 0 ∧ ∃ l h, RangeR a.sys (oneW a.sys.many p.u) l h 0 ∧ lo = l - p.t ∧ hi = h + p.t)
theorem ValR.uniq {a : Quest} {p : Prb} {lo hi e lo' hi' e' : Int} (h : ValR a p lo hi e) (g : ValR a p lo' hi' e') : lo = lo' ∧ hi = hi' ∧ e = e' := by
  rcases h with ⟨h1, h2, h3, h4⟩ | ⟨h1, h2, l, u, h3, h4, h5⟩
  · rcases g with ⟨g1, g2, g3, g4⟩ | ⟨g1, g2, _⟩
    · exact ⟨by omega, by omega, h1.uniq g1⟩
    · exact (h2 (h1.uniq g1)).elim
  · rcases g with ⟨g1, g2, g3, g4⟩ | ⟨g1, g2, l', u', g3, g4, g5⟩
    · exact (g2 (g1.uniq h1)).elim
    · obtain ⟨rfl, rfl, _⟩ := h3.uniq g3
      exact ⟨by omega, by omega, by omega⟩
end Go.Proofs.Ytiiokdeehlfeeaa

namespace Go.Proofs.Ytiiokdeehlfeeaa
open Go.MW
theorem IndexFunc_int {H : Heap} {w : World} {σ : List Ent} {v : Value} {ls : List Int} {g : Nat} {cap : List Value} {q : Int → Prop} (hs : St H w σ) (hr : RI H v ls)
    (hc : ∀ args w, (callFunc g args).run Try.prog w = .ok (.enter g args) w) (hp : ∀ w l, St H w σ → Cl Try.prog g ([I l] ++ cap) w fun u w' => ∃ b, u = .bool b ∧ (b = true ↔ q l) ∧ St H w' σ) :
    Cl Try.prog 197 [v, .func (.func g) #[] cap.toArray] w fun u w' => ∃ i, u = I i ∧ (0 ≤ i ↔ ∃ p ∈ ls, q p) ∧ St H w' σ := by
  obtain ⟨a, c, rfl⟩ := RI.shape hr
  have hl := (RI.len hr).2.2
  refine Cl.of Try.func197 rfl Try.ntmps197 (by simp) (args_cons (k := 0) rfl (args_cons (k := 1) rfl (args0))) ?_
  refine .regSeq (.z zg (.nil (.seq (.regSeq (.z zm (.z (zlen Try.runUnderlying22) (.z zm (.nil ?_))))))))
  refine .for (N := ls.length) (J := fun k fr w => fr = [(1, .func (.func g) #[] cap.toArray), (0, .slice a ls.length c)] ∧ St H w σ ∧ ∀ j < k, ∀ l, ls[j]? = some l → ¬ q l) (by omega) ?_ ?_ ?_
  · exact .mk ⟨rfl, hs, fun j hj => by omega⟩
  · rintro k fr w hk ⟨rfl, hs, hno⟩
    obtain ⟨l, hl⟩ := nth hk
    refine .block (.regSeq (.z zm (.z zg (.nil (.regSeq (.z zm (.z zm (.z zm ?_))))))))
    first | (refine .ixv hs Try.runUnderlying22 Try.sizeOf3 ?_; intro b14 o14 hc14) | refine .z (zix Try.runUnderlying22 Try.sizeOf3) ?_
    refine .y hs (zld Try.isAgg3) ?_
    refine .o (.callG (first := []) rfl rfl hc (hp _ _ hs) ?_); rintro _ w ⟨b16, rfl, hb16, hs⟩
    refine .nil ?_
    refine (.cond rfl (fun hc16 => ?_) (fun hc16 => ?_))
    · refine .regSeq (.z zm (.z zg (.nil ?_)))
      refine .ret (rB (rT (rB (rT (Fin.ret1 Try.results197 rfl ?_)))))
      exact ⟨_, rfl, ⟨fun _ => ⟨l, List.mem_of_getElem? hl, hb16.1 hc16⟩, fun _ => by omega⟩, hs⟩
    · refine .skip ?_
      refine nB (nT ?_)
      exact .mk ⟨rfl, hs, upto_succ hno hl (fun h => by rw [hb16.2 h] at hc16; cases hc16)⟩
  · rintro fr w ⟨rfl, hs, hno⟩
    refine nT ?_
    refine .regSeq (.z zg (.nil ?_))
    refine .ret (Fin.ret1 Try.results197 rfl ?_)
    exact ⟨_, rfl, ⟨fun h => by omega, fun ⟨p, h1, h2⟩ => by
      obtain ⟨j, hj⟩ := List.getElem?_of_mem h1
      exact (hno j (List.getElem?_eq_some_iff.1 hj).1 p hj h2).elim⟩, hs⟩
theorem ContainsFunc_int {H : Heap} {w : World} {σ : List Ent} {v : Value} {ls : List Int} {g : Nat} {cap : List Value} {q : Int → Prop} (hs : St H w σ) (hr : RI H v ls)
    (hc : ∀ args w, (callFunc g args).run Try.prog w = .ok (.enter g args) w) (hp : ∀ w l, St H w σ → Cl Try.prog g ([I l] ++ cap) w fun u w' => ∃ b, u = .bool b ∧ (b = true ↔ q l) ∧ St H w' σ) :
    Cl Try.prog 156 [v, .func (.func g) #[] cap.toArray] w fun u w' => ∃ b, u = .bool b ∧ (b = true ↔ ∃ p ∈ ls, q p) ∧ St H w' σ := by
  refine Cl.of Try.func156 rfl Try.ntmps156 (by simp) (args_cons (k := 0) rfl (args_cons (k := 1) rfl (args0))) ?_
  refine .regSeq (.z zg (.nil (.regSeq (.z zm (.z zm ?_)))))
  refine .o (.call Try.call197 rfl (IndexFunc_int hs hr hc hp) ?_); rintro _ w ⟨i, rfl, hi, hs⟩
  refine .z zgeq (.z zg (.nil ?_))
  refine .ret (Fin.ret1 Try.results156 rfl ?_)
  exact ⟨_, rfl, by simp only [decide_eq_true_eq]; exact hi, hs⟩
theorem bound_CheckPoint_1 {H : Heap} {w : World} {σ : List Ent} {n : Int} (hs : St H w σ) : Cl Try.prog 172 [I n] w fun v w' => ∃ b, v = .bool b ∧ (b = true ↔ ¬ (-1000000000 ≤ n ∧ n ≤ 1000000000)) ∧ St H w' σ := by
  refine Cl.of Try.func172 rfl Try.ntmps172 (by simp) (args_cons (k := 0) rfl (args0)) ?_
  refine .regSeq (.z zg (.nil (.regSeq (.z zm ?_))))
  refine .o (.call Try.call160 rfl (bound_within_spec hs) ?_); rintro _ w ⟨rfl, hs⟩
  refine .z znot (.z zg (.nil ?_))
  refine .ret (Fin.ret1 Try.results172 rfl ?_)
  exact ⟨_, rfl, by simp; omega, hs⟩
theorem bound_CheckPoint_spec {H : Heap} {w : World} {σ : List Ent} {v vx : Value} {s : Syst} {x : List Int} (hs : St H w σ) (hr : RSy H v s) (hx : RI H vx x) :
    Cl Try.prog 85 [v, vx] w fun u w' => ∃ e, u = I e ∧ CPtR s x e ∧ St H w' σ := by
  obtain ⟨ul, rfl, hl⟩ := hr
  obtain ⟨al, cl, rfl⟩ := RL.shape hl
  obtain ⟨ax, cx, rfl⟩ := RI.shape hx
  refine Cl.of Try.func85 rfl Try.ntmps85 (by simp) (args_cons (k := 0) rfl (args_cons (k := 1) rfl (args0))) ?_
  refine .regSeq ?_
  refine .o (.box hs rfl rfl ?_); intro b2 w hs
  refine .z zg (.nil (.seq (.regSeq (.y hs (zls [_, _] Try.isAgg32 Try.sizeOf32) ?_))))
  refine .o (.call Try.call72 rfl (bound_Check_spec (s := s) hs ⟨_, rfl, hl⟩) ?_); rintro _ w ⟨rfl, hs⟩
  refine .z zg (.nil (.regSeq (.z zm (.z zneq (.nil ?_)))))
  skip
  refine (.condN rfl (fun hc11 => ?_) (fun hc11 => ?_))
  · refine .regSeq (.z zm (.z zg (.nil ?_)))
    refine .ret (rT (Fin.ret1 Try.results85 rfl ?_))
    exact ⟨_, rfl, .bad hc11, hs.out⟩
  · refine .skip ?_
    refine nT ?_
    refine .seq (.regSeq ?_)
    have hok : s.Ok := s.ok_iff.1 (by simpa using hc11)
    have hm0 := hok.m0
    have hm1 := hok.m1
    have hll := hok.len
    have hnn : (s.n : Int) = s.many + 1 := by simp only [Syst.n]; omega
    refine .z zm (.z (zlen Try.runUnderlying22) (.z (zfa fa_api_System_0) (.y hs (zld Try.isAgg3) (.z zadd (.z zneq (.z zm ?_))))))
    refine .bifN (t' := 19) rfl (fun hb19 => ?_) (fun hb19 => ?_)
    · refine .gFs 4 6 false rfl rfl rfl ?_
      refine .z zpT (.z zm ?_)
      refine .gFs 2 12 false rfl rfl rfl ?_
      refine .z zpT (.nil ?_)
      refine (.condT rfl rfl ?_)
      refine .regSeq (.z zg (.nil ?_))
      refine .ret (rT (Fin.ret1 Try.results85 rfl ?_))
      first
        | exact ⟨_, rfl, .ok hok ⟨by omega, by first | omega | (simpa using hb25), fun v hv => hfree v (by omega), feas_iff.2 fun y hy => by
            obtain ⟨i, hi⟩ := List.getElem?_of_mem hy
            exact h1 i (List.getElem?_eq_some_iff.1 hi).1 y hi⟩, hs.out⟩
        | exact ⟨_, rfl, .off hok (fun h => by have := h.len; omega), hs.out⟩
        | exact ⟨_, rfl, .off hok (fun h => by have := h.zero; first | omega | (simp at hb25; omega)), hs.out⟩
        | exact ⟨_, rfl, .off hok (fun h => by
            obtain ⟨p, h1, h2⟩ := hb27.1 hc28
            obtain ⟨i, hi⟩ := List.getElem?_of_mem h1
            have hil := (List.getElem?_eq_some_iff.1 hi).1
            have := gi_get hil
            rw [hi] at this
            cases this
            exact h2 (h.free i (by have := h.len; omega))), hs.out⟩
        | exact ⟨_, rfl, .off hok (fun h => by
            have h8 := feas_iff.1 h.feas y (List.mem_of_getElem? hy)
            omega), hs.out⟩
    · refine .gT rfl rfl ?_
      refine .z zm ?_
      refine .gT rfl rfl ?_
      refine .ixX (enc := fun x => [I x]) hs hx rfl rfl Try.runUnderlying22 Try.sizeOf3 (gi_get (l := x) (i := 0) (by omega)) rfl ?_; intro b21 o21 hc21; replace hc21 := CellsAt.one hc21
      refine .gT rfl rfl ?_
      refine .y hs (zld Try.isAgg3) ?_
      refine .gT rfl rfl ?_
      refine .z zneq (.z zpF (.z zm ?_))
      refine .bifN (t' := 25) rfl (fun hb25 => ?_) (fun hb25 => ?_)
      · refine .gFs 2 12 false rfl rfl rfl ?_
        refine .z zpT (.nil ?_)
        refine (.condT rfl rfl ?_)
        refine .regSeq (.z zg (.nil ?_))
        refine .ret (rT (Fin.ret1 Try.results85 rfl ?_))
        first
          | exact ⟨_, rfl, .ok hok ⟨by omega, by first | omega | (simpa using hb25), fun v hv => hfree v (by omega), feas_iff.2 fun y hy => by
              obtain ⟨i, hi⟩ := List.getElem?_of_mem hy
              exact h1 i (List.getElem?_eq_some_iff.1 hi).1 y hi⟩, hs.out⟩
          | exact ⟨_, rfl, .off hok (fun h => by have := h.len; omega), hs.out⟩
          | exact ⟨_, rfl, .off hok (fun h => by have := h.zero; first | omega | (simp at hb25; omega)), hs.out⟩
          | exact ⟨_, rfl, .off hok (fun h => by
              obtain ⟨p, h1, h2⟩ := hb27.1 hc28
              obtain ⟨i, hi⟩ := List.getElem?_of_mem h1
              have hil := (List.getElem?_eq_some_iff.1 hi).1
              have := gi_get hil
              rw [hi] at this
              cases this
              exact h2 (h.free i (by have := h.len; omega))), hs.out⟩
          | exact ⟨_, rfl, .off hok (fun h => by
              have h8 := feas_iff.1 h.feas y (List.mem_of_getElem? hy)
              omega), hs.out⟩
      · refine .gT rfl rfl ?_
        refine .z zm ?_
        refine .gT rfl rfl ?_
        refine .o (.call Try.call156 rfl (ContainsFunc_int (q := fun n => ¬ (-1000000000 ≤ n ∧ n ≤ 1000000000)) (cap := []) hs hx Try.call172 (fun w n hs => bound_CheckPoint_1 hs)) ?_); rintro _ w ⟨b27, rfl, hb27, hs⟩
        refine .z zpF (.nil ?_)
        refine (.cond rfl (fun hc28 => ?_) (fun hc28 => ?_))
        · refine .regSeq (.z zg (.nil ?_))
          refine .ret (rT (Fin.ret1 Try.results85 rfl ?_))
          first
            | exact ⟨_, rfl, .ok hok ⟨by omega, by first | omega | (simpa using hb25), fun v hv => hfree v (by omega), feas_iff.2 fun y hy => by
                obtain ⟨i, hi⟩ := List.getElem?_of_mem hy
                exact h1 i (List.getElem?_eq_some_iff.1 hi).1 y hi⟩, hs.out⟩
            | exact ⟨_, rfl, .off hok (fun h => by have := h.len; omega), hs.out⟩
            | exact ⟨_, rfl, .off hok (fun h => by have := h.zero; first | omega | (simp at hb25; omega)), hs.out⟩
            | exact ⟨_, rfl, .off hok (fun h => by
                obtain ⟨p, h1, h2⟩ := hb27.1 hc28
                obtain ⟨i, hi⟩ := List.getElem?_of_mem h1
                have hil := (List.getElem?_eq_some_iff.1 hi).1
                have := gi_get hil
                rw [hi] at this
                cases this
                exact h2 (h.free i (by have := h.len; omega))), hs.out⟩
            | exact ⟨_, rfl, .off hok (fun h => by
                have h8 := feas_iff.1 h.feas y (List.mem_of_getElem? hy)
                omega), hs.out⟩
        · refine .skip ?_
          refine nT ?_
          refine .seq (.regSeq (.z (zfa fa_api_System_1) (.y hs (zld Try.isAgg30) (.z (zlen Try.runUnderlying30) (.z zm (.nil ?_))))))
          refine .for (N := s.lims.length) (J := fun k fr w => fr = [(30, .slice al s.lims.length cl), (1, .slice ax x.length cx)] ∧ (∀ i < k, ∀ y, s.lims[i]? = some y → gi x y.B.toNat ≤ gi x y.A.toNat + y.M) ∧ St H w (.blk b2 [I s.many, .slice al s.lims.length cl] :: σ)) (by omega) ?_ ?_ ?_
          · exact .mk ⟨rfl, fun i hi => by omega, hs⟩
          · have hfree : ∀ v < x.length, -1000000000 ≤ gi x v ∧ gi x v ≤ 1000000000 := fun v hv => by
              apply Classical.byContradiction
              intro h
              have := hb27.2 ⟨gi x v, List.mem_of_getElem? (gi_get hv), h⟩
              subst this
              simp at hc28
            rintro k fr w hk ⟨rfl, h1, hs⟩
            obtain ⟨y, hy⟩ := nth hk
            obtain ⟨⟨y1, y2⟩, ⟨y3, y4⟩, y5, y6, -⟩ := hok.lim y (List.mem_of_getElem? hy)
            have z1 := hfree y.B.toNat (by omega)
            have z2 := hfree y.A.toNat (by omega)
            refine .block (.regSeq ?_)
            refine .ixX (enc := Lim.c) hs hl rfl rfl Try.runUnderlying30 Try.sizeOf100 hy rfl ?_; intro b34 o34 hc34
            refine .q hs (q_loadsR (vs := y.c) rfl Try.isAgg100 Try.sizeOf100 hc34) ?_
            refine .o (.alloc hs Try.zeroValue100 rfl ?_); intro b7 w hs
            refine .o (.stores (vs := y.c) hs rfl rfl Try.sizeOf100 ?_); intro w hs
            refine .nil ?_
            refine .seq (.draw mix rfl hs ?_); intro w hs
            refine .z 0 rfl zm ?_; refine .z 1 rfl (zfa fa_api_Limit_1) ?_; refine .y 2 rfl hs Try.isAgg3 ?_
            refine .ixX (enc := fun x => [I x]) (i := 3) hs rfl (by kernel_rfl) .none hx rfl rfl Try.runUnderlying22 Try.sizeOf3 (gi_get (l := x) (i := y.B.toNat) (by omega)) (by omega) ?_; intro b39 o39 hc39; replace hc39 := CellsAt.one hc39
            refine .r (i := 4) hs rfl (by kernel_rfl) .none (q_loadR rfl Try.isAgg3 hc39) ?_
            refine .z 5 rfl zm ?_; refine .z 6 rfl (zfa fa_api_Limit_0) ?_; refine .y 7 rfl hs Try.isAgg3 ?_
            refine .ixX (enc := fun x => [I x]) (i := 8) hs rfl (by kernel_rfl) .none hx rfl rfl Try.runUnderlying22 Try.sizeOf3 (gi_get (l := x) (i := y.A.toNat) (by omega)) (by omega) ?_; intro b44 o44 hc44; replace hc44 := CellsAt.one hc44
            refine .r (i := 9) hs rfl (by kernel_rfl) .none (q_loadR rfl Try.isAgg3 hc44) ?_
            refine .z 10 rfl zsub ?_; refine .z 11 rfl (zfa fa_api_Limit_2) ?_; refine .y 12 rfl hs Try.isAgg3 ?_; refine .z 13 rfl zgtr ?_; refine .done (by kernel_rfl) hs ?_
            refine (.condD rfl (fun hc49 => ?_) (fun hc49 => ?_))
            · refine .regSeq (.z zg (.nil ?_))
              refine .ret (rB (rT (rB (rT (Fin.ret1 Try.results85 rfl ?_)))))
              first
                | exact ⟨_, rfl, .ok hok ⟨by omega, by first | omega | (simpa using hb25), fun v hv => hfree v (by omega), feas_iff.2 fun y hy => by
                    obtain ⟨i, hi⟩ := List.getElem?_of_mem hy
                    exact h1 i (List.getElem?_eq_some_iff.1 hi).1 y hi⟩, hs.out⟩
                | exact ⟨_, rfl, .off hok (fun h => by have := h.len; omega), hs.out⟩
                | exact ⟨_, rfl, .off hok (fun h => by have := h.zero; first | omega | (simp at hb25; omega)), hs.out⟩
                | exact ⟨_, rfl, .off hok (fun h => by
                    obtain ⟨p, h1, h2⟩ := hb27.1 hc28
                    obtain ⟨i, hi⟩ := List.getElem?_of_mem h1
                    have hil := (List.getElem?_eq_some_iff.1 hi).1
                    have := gi_get hil
                    rw [hi] at this
                    cases this
                    exact h2 (h.free i (by have := h.len; omega))), hs.out⟩
                | exact ⟨_, rfl, .off hok (fun h => by
                    have h8 := feas_iff.1 h.feas y (List.mem_of_getElem? hy)
                    omega), hs.out⟩
            · refine .skip ?_
              refine nB (nT ?_)
              exact .mk ⟨rfl, fun i hi z hz => by
                by_cases e : i = k
                · subst e; rw [hy] at hz; cases hz; omega
                · exact h1 i (by omega) z hz, hs.out⟩
          · have hfree : ∀ v < x.length, -1000000000 ≤ gi x v ∧ gi x v ≤ 1000000000 := fun v hv => by
              apply Classical.byContradiction
              intro h
              have := hb27.2 ⟨gi x v, List.mem_of_getElem? (gi_get hv), h⟩
              subst this
              simp at hc28
            rintro fr w ⟨rfl, h1, hs⟩
            refine nT ?_
            refine .regSeq (.z zg (.nil ?_))
            refine .ret (Fin.ret1 Try.results85 rfl ?_)
            first
              | exact ⟨_, rfl, .ok hok ⟨by omega, by first | omega | (simpa using hb25), fun v hv => hfree v (by omega), feas_iff.2 fun y hy => by
                  obtain ⟨i, hi⟩ := List.getElem?_of_mem hy
                  exact h1 i (List.getElem?_eq_some_iff.1 hi).1 y hi⟩, hs.out⟩
              | exact ⟨_, rfl, .off hok (fun h => by have := h.len; omega), hs.out⟩
              | exact ⟨_, rfl, .off hok (fun h => by have := h.zero; first | omega | (simp at hb25; omega)), hs.out⟩
              | exact ⟨_, rfl, .off hok (fun h => by
                  obtain ⟨p, h1, h2⟩ := hb27.1 hc28
                  obtain ⟨i, hi⟩ := List.getElem?_of_mem h1
                  have hil := (List.getElem?_eq_some_iff.1 hi).1
                  have := gi_get hil
                  rw [hi] at this
                  cases this
                  exact h2 (h.free i (by have := h.len; omega))), hs.out⟩
              | exact ⟨_, rfl, .off hok (fun h => by
                  have h8 := feas_iff.1 h.feas y (List.mem_of_getElem? hy)
                  omega), hs.out⟩
end Go.Proofs.Ytiiokdeehlfeeaa

namespace Go.Proofs.Ytiiokdeehlfeeaa
open Go.MW
def apartV (a : Quest) (A B : List Int) (k : Nat) : Int := sumTo (fun i => gi a.ws i * (gi B i - gi A i)) k
inductive ApR (a : Quest) (l : List Prb) (A B : List Int) : Int → Int → Prop
  | point (h1 : ¬ (KeepsP a.sys A ∧ KeepsP a.sys B)) : ApR a l A B 0 25
  | far (h1 : KeepsP a.sys A) (h2 : KeepsP a.sys B) (h3 : ¬ Near l (gi A) (gi B)) : ApR a l A B 0 92
  | ok (h1 : KeepsP a.sys A) (h2 : KeepsP a.sys B) (h3 : Near l (gi A) (gi B)) : ApR a l A B (IntKind.i64.wrap (apartV a A B a.ws.length)) 0
theorem ApR.uniq {a : Quest} {l : List Prb} {A B : List Int} {n m e f : Int} (h : ApR a l A B n e) (g : ApR a l A B m f) : n = m ∧ e = f := by
  cases h with
  | point h1 =>
    cases g with
    | point => exact ⟨rfl, rfl⟩
    | far g1 g2 _ => exact (h1 ⟨g1, g2⟩).elim
    | ok g1 g2 _ => exact (h1 ⟨g1, g2⟩).elim
  | far h1 h2 h3 =>
    cases g with
    | point g1 => exact (g1 ⟨h1, h2⟩).elim
    | far => exact ⟨rfl, rfl⟩
    | ok _ _ g3 => exact (h3 g3).elim
  | ok h1 h2 h3 =>
    cases g with
    | point g1 => exact (g1 ⟨h1, h2⟩).elim
    | far _ _ g3 => exact (g3 h3).elim
    | ok => exact ⟨rfl, rfl⟩
def TwnR (a : Quest) (l : List Prb) (A B : List Int) (n e : Int) : Prop := (CPrbR a l e ∧ e ≠ 0 ∧ n = 0) ∨ (CPrbR a l 0 ∧ ApR a l A B n e)
theorem TwnR.uniq {a : Quest} {l : List Prb} {A B : List Int} {n m e f : Int} (h : TwnR a l A B n e) (g : TwnR a l A B m f) : n = m ∧ e = f := by
  rcases h with ⟨h1, h2, h3⟩ | ⟨h1, h2⟩
  · rcases g with ⟨g1, g2, g3⟩ | ⟨g1, g2⟩
    · exact ⟨by omega, h1.uniq g1⟩
    · exact (h2 (h1.uniq g1)).elim
  · rcases g with ⟨g1, g2, g3⟩ | ⟨g1, g2⟩
    · exact (g2 (g1.uniq h1)).elim
    · exact h2.uniq g2
end Go.Proofs.Ytiiokdeehlfeeaa

namespace Go.Proofs.Ytiiokdeehlfeeaa
open Go.MW
structure TwinF (a : Quest) (l : List Prb) (A B : List Int) : Prop where
  kA : KeepsP a.sys A
  kB : KeepsP a.sys B
  near : Near l (gi A) (gi B)
  most : PairS a l (apartV a A B a.ws.length)
  meet : meetErr A B l = 0
end Go.Proofs.Ytiiokdeehlfeeaa

namespace Go.Proofs.Ytiiokdeehlfeeaa
open Go.MW
theorem BestP.uniq {a : Quest} {l : List Prb} {x y e f : Int} (h : BestP a l x e) (g : BestP a l y f) : x = y ∧ e = f := by
  rcases h with ⟨h1, h2, h3⟩ | ⟨i, n, h1, h2, h3⟩
  · rcases g with ⟨g1, g2, g3⟩ | ⟨j, m, g1, g2, g3⟩
    · exact ⟨by omega, by omega⟩
    · subst h1; have := g3.lt; simp at this
  · rcases g with ⟨g1, g2, g3⟩ | ⟨j, m, g1, g2, g3⟩
    · subst g1; have := h3.lt; simp at this
    · refine ⟨?_, by omega⟩
      have e1 := h3.le j g3.lt m g3.here
      have e2 := g3.le i h3.lt n h3.here
      rcases Nat.lt_trichotomy i j with e | e | e
      · have := g3.first i e n h3.here; omega
      · omega
      · have := h3.first j e m g3.here; omega
end Go.Proofs.Ytiiokdeehlfeeaa

namespace Go.Proofs.Ytiiokdeehlfeeaa
open Go.MW
theorem TwinF.wrap {a : Quest} {l : List Prb} {A B : List Int} (hok : AskOk a) (h : TwinF a l A B) (hin : ∀ p ∈ l, PrbIn a p) : IntKind.i64.wrap (apartV a A B a.ws.length) = apartV a A B a.ws.length := by
  obtain ⟨lo, hi, hR⟩ := hok.range
  have hb := hR.bd
  obtain ⟨⟨x, y, g1, g2⟩, g3⟩ := h.most
  have h1 := Pair.le hR g1
  obtain ⟨z, hz⟩ := Pair.some hok hin
  have h2 := g3 z z hz
  exact i64wrap (by omega)
end Go.Proofs.Ytiiokdeehlfeeaa

namespace Go.Proofs.Ytiiokdeehlfeeaa
open Go.MW
def gtw (p : Pck) (j : Nat) : List Int × List Int := p.fails.getD j ([], [])
structure GoodK (a : Quest) (l : List Prb) (p : Pck) (k : Nat) : Prop where
  here : (choicesL l.length)[k]? = some p.probes
  len : p.fails.length = k
  width : p.width ≤ a.width
  worst : CWR a (chosenL l p.probes) p.width p.bound p.uses 0
  fails : ∀ (j : Nat) (cj : List Int), j < k → (choicesL l.length)[j]? = some cj → ∃ n, ApR a (chosenL l cj) (gtw p j).1 (gtw p j).2 n 0 ∧ a.width < n
def PickR (a : Quest) (l : List Prb) (p : Pck) (e : Int) : Prop := (CPrbR a l e ∧ e ≠ 0) ∨ (CPrbR a l 0 ∧ ((e = 0 ∧ ∃ k, GoodK a l p k) ∨ (e = 93 ∧ ¬ ∃ k, GoodK a l p k)))
theorem PickR.uniq {a : Quest} {l : List Prb} {p : Pck} {e f : Int} (h : PickR a l p e) (g : PickR a l p f) : e = f := by
  rcases h with ⟨h1, h2⟩ | ⟨h1, h2⟩
  · rcases g with ⟨g1, g2⟩ | ⟨g1, g2⟩
    · exact h1.uniq g1
    · exact (h2 (h1.uniq g1)).elim
  · rcases g with ⟨g1, g2⟩ | ⟨g1, g2⟩
    · exact (g2 (g1.uniq h1)).elim
    · rcases h2 with ⟨h2, h3⟩ | ⟨h2, h3⟩ <;> rcases g2 with ⟨g2, g3⟩ | ⟨g2, g3⟩
      · omega
      · exact (g3 h3).elim
      · exact (h3 g3).elim
      · omega
end Go.Proofs.Ytiiokdeehlfeeaa
