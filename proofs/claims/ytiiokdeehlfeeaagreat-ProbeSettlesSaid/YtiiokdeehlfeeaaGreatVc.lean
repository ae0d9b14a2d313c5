/-
  Texts of these claims, joined: Opn Opb Cls Fct Wa Wb Wc Wd We Wf Wg Wh Wi Wj Wk Wl Wm.
-/
import Derived.Test.YtiiokdeehlfeeaaGreatVb
import Derived.Test.YtiiokdeehlfeeaaGreatProg
import Derived.KernelRfl
import Derived.JoinedOf
namespace Go.Proofs.YtiiokdeehlfeeaaGreat
open Go.MW Go.ChangeShapes Go.WideShapes
set_option maxRecDepth 100000
theorem c_int : Tryz.prog.cellsOf 3 = 1 := by kernel_rfl
theorem c_ints : Tryz.prog.cellsOf 25 = 1 := by kernel_rfl
theorem b_int : Tryz.prog.bytesOf 3 = 8 := by kernel_rfl
theorem reach_eq : reachBytes = 140737488351232 := rfl
section
variable {H : Type} {enc : TypeId × Value → H} {w : World} {sp : Nat → Bool} {held : Bool} {n : Nat} {cs : List Value} {y : DataW H × List MemPlace} {v : Value} {d : DataW H} {p : List MemPlace} {r : Reach} {base : Nat}
theorem o_ints (hw : Wt Tryz.prog 25 y.1) (h : DataW.trod enc Tryz.prog w 0 sp held n 25 cs = some y) : ∃ v xs, cs = [v] ∧ RI (hp w) v xs ∧ IsIn xs := by
  obtain ⟨v, xs, h1, h2, h3, h4⟩ := trod_RI Tryz.underlying25 Tryz.underlying3 c_int hw h
  rw [b_int, reach_eq] at h3
  exact ⟨v, xs, h1, h2, by omega, h4⟩
theorem open_ints (hv : Value.okWide Tryz.prog w r base 25 v) (h : DataW.Trod enc Tryz.prog w 0 sp held 25 v d p) (hw : Wt Tryz.prog 25 d) : ∃ l, RI (hp w) v l ∧ IsIn l := by
  obtain ⟨n, hn⟩ := arg_slice Tryz.underlying25 hv h
  obtain ⟨v, ls, h1, h2, h3⟩ := o_ints hw hn
  cases h1
  exact ⟨ls, h2, h3⟩
end
end Go.Proofs.YtiiokdeehlfeeaaGreat

namespace Go.Proofs.YtiiokdeehlfeeaaGreat
open Go.MW Go.ChangeShapes Go.WideShapes
set_option maxRecDepth 100000
theorem c_tris : Tryz.prog.cellsOf 73 = 1 := by kernel_rfl
theorem c_twos : Tryz.prog.cellsOf 76 = 1 := by kernel_rfl
theorem c_3 : Tryz.prog.cellsOf 179 = 3 := by kernel_rfl
theorem c_2 : Tryz.prog.cellsOf 180 = 2 := by kernel_rfl
theorem c_Raw : Tryz.prog.cellsOf 75 = 4 := by kernel_rfl
theorem c_Case : Tryz.prog.cellsOf 78 = 5 := by kernel_rfl
theorem b_3 : Tryz.prog.bytesOf 179 = 24 := by kernel_rfl
theorem b_2 : Tryz.prog.bytesOf 180 = 16 := by kernel_rfl
section
variable {H : Type} {enc : TypeId × Value → H} {w : World} {sp : Nat → Bool} {held : Bool} {n : Nat} {cs : List Value} {y : DataW H × List MemPlace} {v : Value} {d : DataW H} {p : List MemPlace} {r : Reach} {base : Nat}
theorem o_tris (hw : Wt Tryz.prog 73 y.1) (h : DataW.trod enc Tryz.prog w 0 sp held n 73 cs = some y) : ∃ (v : Value) (ls : List Tri), cs = [v] ∧ RS (hp w) 3 v (ls.map Tri.v) ∧ ls.length ≤ 17592186043904 := by
  obtain ⟨v, zs, h1, h2, h9, h3⟩ := trod_RA (k := 3) Tryz.underlying73 Tryz.underlying179 Tryz.underlying3 c_int (by decide) c_3 hw h
  obtain ⟨ls, h4⟩ := tris h3
  rw [b_3, reach_eq] at h9
  have h6 : zs.length = ls.length := by have := congrArg List.length h4; simpa using this
  exact ⟨v, ls, h1, by rw [← h4]; exact h2, by omega⟩
theorem o_twos (hw : Wt Tryz.prog 76 y.1) (h : DataW.trod enc Tryz.prog w 0 sp held n 76 cs = some y) : ∃ (v : Value) (ls : List Two), cs = [v] ∧ RS (hp w) 2 v (ls.map Two.v) ∧ TwosIn ls := by
  obtain ⟨v, zs, h1, h2, h9, h3⟩ := trod_RA (k := 2) Tryz.underlying76 Tryz.underlying180 Tryz.underlying3 c_int (by decide) c_2 hw h
  obtain ⟨ls, h4, h5⟩ := twos2 h3
  rw [b_2, reach_eq] at h9
  have h6 : zs.length = ls.length := by have := congrArg List.length h4; simpa using this
  exact ⟨v, ls, h1, by rw [← h4]; exact h2, by omega, h5⟩
theorem o_Raw (hw : Wt Tryz.prog 75 y.1) (h : DataW.trod enc Tryz.prog w 0 sp held n 75 cs = some y) : ∃ r, RRawC (hp w) cs r ∧ r.In := by
  obtain ⟨ys, m, _, rfl, hlen, hyl, hg⟩ := DataW.trod_struct Tryz.underlying75 h
  rw [c_Raw] at hlen
  obtain ⟨c0, c1, c2, c3, rfl⟩ := len4 hlen
  obtain ⟨_, h0, k0⟩ := fld hg hyl 0 rfl rfl rfl c_ints Tryz.underlying75 hw
  obtain ⟨_, h1, k1⟩ := fld hg hyl 1 rfl rfl rfl c_tris Tryz.underlying75 hw
  obtain ⟨_, h2, k2⟩ := fld hg hyl 2 rfl rfl rfl c_ints Tryz.underlying75 hw
  obtain ⟨_, h3, k3⟩ := fld hg hyl 3 rfl rfl rfl c_int Tryz.underlying75 hw
  obtain ⟨v0, hull, e0, r0, i0⟩ := o_ints k0 h0
  obtain ⟨v1, ls, e1, r1, i1⟩ := o_tris k1 h1
  obtain ⟨v2, ws, e2, r2, i2⟩ := o_ints k2 h2
  obtain ⟨m, e3, i3⟩ := trod_i Tryz.underlying3 h3
  cases e0; cases e1; cases e2; cases e3
  exact ⟨⟨hull, ls, ws, m⟩, ⟨_, _, _, rfl, r0, r1, r2⟩, i0, i2, i1, i3⟩
theorem open_Case (hv : Value.okWide Tryz.prog w r base 78 v) (h : DataW.Trod enc Tryz.prog w 0 sp held 78 v d p) (hw : Wt Tryz.prog 78 d) : ∃ c, RCaseV (hp w) v c ∧ c.In := by
  obtain ⟨cs, n, rfl, hn, _⟩ := arg_struct Tryz.underlying78 hv h
  obtain ⟨ys, m, _, e, hlen, hyl, hg⟩ := DataW.trod_struct Tryz.underlying78 hn
  cases e
  rw [c_Case] at hlen
  obtain ⟨c0, c1, c2, c3, c4, rfl⟩ := len5 hlen
  obtain ⟨_, h0, k0⟩ := fld hg hyl 0 rfl rfl rfl c_Raw Tryz.underlying78 hw
  obtain ⟨_, h1, k1⟩ := fld hg hyl 1 rfl rfl rfl c_twos Tryz.underlying78 hw
  obtain ⟨r, r0, i0⟩ := o_Raw k0 h0
  obtain ⟨vp, ls, e1, r1, i1⟩ := o_twos k1 h1
  cases e1
  exact ⟨⟨r, ls⟩, ⟨_, rfl, [c0, c1, c2, c3], c4, rfl, r0, r1⟩, i0, i1⟩
end
end Go.Proofs.YtiiokdeehlfeeaaGreat

namespace Go.Proofs.YtiiokdeehlfeeaaGreat
theorem cl_make : Tryz.prog.make = some .cut := by kernel_rfl
theorem cl_enter : Tryz.prog.mayEnter = true := by kernel_rfl
theorem cl_lifts : Tryz.prog.liftsFinal = false := by kernel_rfl
theorem cl_keys : Tryz.prog.plainKeys = true := by kernel_rfl
theorem cl_laid : laidOutB Tryz.prog = true := by kernel_rfl
theorem cl_maps : mapsRowed Tryz.prog = true := by kernel_rfl
theorem cl_heard : Tryz.prog.stopsHeard = true := by kernel_rfl
theorem cl_stops : Tryz.prog.stops = [] := by kernel_rfl
theorem cl_knobs : Tryz.prog.stopKnobs = [] := by kernel_rfl
theorem band {a b : Bool} (h : a = true) (k : b = true) : (a && b) = true := by rw [h, k]; rfl
theorem beqT {α : Type} [BEq α] [LawfulBEq α] {a b : α} (h : a = b) : (a == b) = true := by rw [h]; exact beq_self_eq_true _
theorem cl_own : ownKnob Tryz.prog.godebug = none := by kernel_rfl
end Go.Proofs.YtiiokdeehlfeeaaGreat

namespace Go.Proofs.YtiiokdeehlfeeaaGreat
open Go.MW
theorem mix : Tryz.prog.follows .mixedOrders = true := by kernel_rfl
theorem fa_api_System_0 : FA Tryz.prog 24 0 0 := by
  have h := faOf (k := 0) Tryz.runUnderlying24 rfl Tryz.sizeOf3
  exact h
theorem fa_api_System_1 : FA Tryz.prog 24 1 1 := by
  have h := faOf (k := 1) Tryz.runUnderlying24 rfl Tryz.sizeOf22
  exact h
theorem fa_api_Ask_0 : FA Tryz.prog 27 0 0 := by
  have h := faOf (k := 0) Tryz.runUnderlying27 rfl Tryz.sizeOf24
  exact h
theorem fa_api_Ask_1 : FA Tryz.prog 27 1 2 := by
  have h := faOf (k := 1) Tryz.runUnderlying27 rfl Tryz.sizeOf25
  exact h
theorem fa_api_Ask_2 : FA Tryz.prog 27 2 3 := by
  have h := faOf (k := 2) Tryz.runUnderlying27 rfl Tryz.sizeOf3
  exact h
theorem fa_api_Twins_0 : FA Tryz.prog 39 0 0 := by
  have h := faOf (k := 0) Tryz.runUnderlying39 rfl Tryz.sizeOf25
  exact h
theorem fa_api_Twins_1 : FA Tryz.prog 39 1 1 := by
  have h := faOf (k := 1) Tryz.runUnderlying39 rfl Tryz.sizeOf25
  exact h
theorem fa_api_Outcome_0 : FA Tryz.prog 42 0 0 := by
  have h := faOf (k := 0) Tryz.runUnderlying42 rfl Tryz.sizeOf25
  exact h
theorem fa_api_Probe_0 : FA Tryz.prog 54 0 0 := by
  have h := faOf (k := 0) Tryz.runUnderlying54 rfl Tryz.sizeOf3
  exact h
theorem fa_api_Probe_1 : FA Tryz.prog 54 1 1 := by
  have h := faOf (k := 1) Tryz.runUnderlying54 rfl Tryz.sizeOf3
  exact h
theorem fa_api_Proof_0 : FA Tryz.prog 63 0 0 := by
  have h := faOf (k := 0) Tryz.runUnderlying63 rfl Tryz.sizeOf3
  exact h
theorem fa_api_Proof_1 : FA Tryz.prog 63 1 1 := by
  have h := faOf (k := 1) Tryz.runUnderlying63 rfl Tryz.sizeOf61
  exact h
theorem fa_api_Pick_0 : FA Tryz.prog 66 0 0 := by
  have h := faOf (k := 0) Tryz.runUnderlying66 rfl Tryz.sizeOf25
  exact h
theorem fa_api_Pick_1 : FA Tryz.prog 66 1 1 := by
  have h := faOf (k := 1) Tryz.runUnderlying66 rfl Tryz.sizeOf3
  exact h
theorem fa_api_Pick_2 : FA Tryz.prog 66 2 2 := by
  have h := faOf (k := 2) Tryz.runUnderlying66 rfl Tryz.sizeOf63
  exact h
theorem fa_api_Pick_3 : FA Tryz.prog 66 3 4 := by
  have h := faOf (k := 3) Tryz.runUnderlying66 rfl Tryz.sizeOf64
  exact h
theorem fa_moorsomref09_Raw_0 : FA Tryz.prog 75 0 0 := by
  have h := faOf (k := 0) Tryz.runUnderlying75 rfl Tryz.sizeOf25
  exact h
theorem fa_moorsomref09_Raw_1 : FA Tryz.prog 75 1 1 := by
  have h := faOf (k := 1) Tryz.runUnderlying75 rfl Tryz.sizeOf73
  exact h
theorem fa_moorsomref09_Raw_2 : FA Tryz.prog 75 2 2 := by
  have h := faOf (k := 2) Tryz.runUnderlying75 rfl Tryz.sizeOf25
  exact h
theorem fa_moorsomref09_Raw_3 : FA Tryz.prog 75 3 3 := by
  have h := faOf (k := 3) Tryz.runUnderlying75 rfl Tryz.sizeOf3
  exact h
theorem fa_moorsomlaw09_Case_0 : FA Tryz.prog 78 0 0 := by
  have h := faOf (k := 0) Tryz.runUnderlying78 rfl Tryz.sizeOf75
  exact h
theorem fa_moorsomlaw09_Case_1 : FA Tryz.prog 78 1 4 := by
  have h := faOf (k := 1) Tryz.runUnderlying78 rfl Tryz.sizeOf76
  exact h
theorem fa_probe_doubled_0 : FA Tryz.prog 125 0 0 := by
  have h := faOf (k := 0) Tryz.runUnderlying125 rfl Tryz.sizeOf27
  exact h
theorem fa_probe_doubled_1 : FA Tryz.prog 125 1 4 := by
  have h := faOf (k := 1) Tryz.runUnderlying125 rfl Tryz.sizeOf24
  exact h
theorem fa_probe_doubled_2 : FA Tryz.prog 125 2 6 := by
  have h := faOf (k := 2) Tryz.runUnderlying125 rfl Tryz.sizeOf25
  exact h
theorem fa_api_Limit_0 : FA Tryz.prog 157 0 0 := by
  have h := faOf (k := 0) Tryz.runUnderlying157 rfl Tryz.sizeOf3
  exact h
theorem fa_api_Limit_1 : FA Tryz.prog 157 1 1 := by
  have h := faOf (k := 1) Tryz.runUnderlying157 rfl Tryz.sizeOf3
  exact h
theorem fa_api_Limit_2 : FA Tryz.prog 157 2 2 := by
  have h := faOf (k := 2) Tryz.runUnderlying157 rfl Tryz.sizeOf3
  exact h
theorem fa_api_Limit_3 : FA Tryz.prog 157 3 3 := by
  have h := faOf (k := 3) Tryz.runUnderlying157 rfl Tryz.sizeOf3
  exact h
theorem fa_bound_step_0 : FA Tryz.prog 197 0 0 := by
  have h := faOf (k := 0) Tryz.runUnderlying197 rfl Tryz.sizeOf3
  exact h
theorem fa_bound_step_1 : FA Tryz.prog 197 1 1 := by
  have h := faOf (k := 1) Tryz.runUnderlying197 rfl Tryz.sizeOf3
  exact h
theorem fa_bound_step_2 : FA Tryz.prog 197 2 2 := by
  have h := faOf (k := 2) Tryz.runUnderlying197 rfl Tryz.sizeOf3
  exact h
theorem fa_bound_step_3 : FA Tryz.prog 197 3 3 := by
  have h := faOf (k := 3) Tryz.runUnderlying197 rfl Tryz.sizeOf3
  exact h
theorem fa_bound_flow_0 : FA Tryz.prog 205 0 0 := by
  have h := faOf (k := 0) Tryz.runUnderlying205 rfl Tryz.sizeOf24
  exact h
theorem fa_bound_flow_1 : FA Tryz.prog 205 1 2 := by
  have h := faOf (k := 1) Tryz.runUnderlying205 rfl Tryz.sizeOf25
  exact h
theorem fa_bound_flow_2 : FA Tryz.prog 205 2 3 := by
  have h := faOf (k := 2) Tryz.runUnderlying205 rfl Tryz.sizeOf25
  exact h
theorem fa_api_Use_0 : FA Tryz.prog 208 0 0 := by
  have h := faOf (k := 0) Tryz.runUnderlying208 rfl Tryz.sizeOf3
  exact h
theorem fa_api_Use_1 : FA Tryz.prog 208 1 1 := by
  have h := faOf (k := 1) Tryz.runUnderlying208 rfl Tryz.sizeOf3
  exact h
theorem bld_api_System : BldT Tryz.prog 24 [(0, 1), (1, 1)] [.int .i64 0, .slice none 0 0] := bldOf Tryz.zeroValue24 rfl Tryz.runUnderlying24 (by simp [Tryz.sizeOf22, Tryz.sizeOf3])
theorem bld_api_Ask : BldT Tryz.prog 27 [(0, 2), (2, 1), (3, 1)] [.int .i64 0, .slice none 0 0, .slice none 0 0, .int .i64 0] := bldOf Tryz.zeroValue27 rfl Tryz.runUnderlying27 (by simp [Tryz.sizeOf24, Tryz.sizeOf25, Tryz.sizeOf3])
theorem bld_api_Twins : BldT Tryz.prog 39 [(0, 1), (1, 1)] [.slice none 0 0, .slice none 0 0] := bldOf Tryz.zeroValue39 rfl Tryz.runUnderlying39 (by simp [Tryz.sizeOf25])
theorem bld_api_Outcome : BldT Tryz.prog 42 [(0, 1)] [.slice none 0 0] := bldOf Tryz.zeroValue42 rfl Tryz.runUnderlying42 (by simp [Tryz.sizeOf25])
theorem bld_api_Probe : BldT Tryz.prog 54 [(0, 1), (1, 1)] [.int .i64 0, .int .i64 0] := bldOf Tryz.zeroValue54 rfl Tryz.runUnderlying54 (by simp [Tryz.sizeOf3])
theorem bld_api_Proof : BldT Tryz.prog 63 [(0, 1), (1, 1)] [.int .i64 0, .slice none 0 0] := bldOf Tryz.zeroValue63 rfl Tryz.runUnderlying63 (by simp [Tryz.sizeOf3, Tryz.sizeOf61])
theorem bld_api_Pick : BldT Tryz.prog 66 [(0, 1), (1, 1), (2, 2), (4, 1)] [.slice none 0 0, .int .i64 0, .int .i64 0, .slice none 0 0, .slice none 0 0] := bldOf Tryz.zeroValue66 rfl Tryz.runUnderlying66 (by simp [Tryz.sizeOf25, Tryz.sizeOf3, Tryz.sizeOf63, Tryz.sizeOf64])
theorem bld_probe_doubled : BldT Tryz.prog 125 [(0, 4), (4, 2), (6, 1)] [.int .i64 0, .slice none 0 0, .slice none 0 0, .int .i64 0, .int .i64 0, .slice none 0 0, .slice none 0 0] := bldOf Tryz.zeroValue125 rfl Tryz.runUnderlying125 (by simp [Tryz.sizeOf24, Tryz.sizeOf25, Tryz.sizeOf27])
theorem bld_struct : BldT Tryz.prog 130 [] [] := bldOf Tryz.zeroValue130 rfl Tryz.runUnderlying130 (by simp [])
theorem bld_api_Limit : BldT Tryz.prog 157 [(0, 1), (1, 1), (2, 1), (3, 1)] [.int .i64 0, .int .i64 0, .int .i64 0, .int .i64 0] := bldOf Tryz.zeroValue157 rfl Tryz.runUnderlying157 (by simp [Tryz.sizeOf3])
theorem bld_bound_step : BldT Tryz.prog 197 [(0, 1), (1, 1), (2, 1), (3, 1)] [.int .i64 0, .int .i64 0, .int .i64 0, .int .i64 0] := bldOf Tryz.zeroValue197 rfl Tryz.runUnderlying197 (by simp [Tryz.sizeOf3])
theorem bld_bound_flow : BldT Tryz.prog 205 [(0, 2), (2, 1), (3, 1)] [.int .i64 0, .slice none 0 0, .slice none 0 0, .slice none 0 0] := bldOf Tryz.zeroValue205 rfl Tryz.runUnderlying205 (by simp [Tryz.sizeOf24, Tryz.sizeOf25])
theorem bld_api_Use : BldT Tryz.prog 208 [(0, 1), (1, 1)] [.int .i64 0, .int .i64 0] := bldOf Tryz.zeroValue208 rfl Tryz.runUnderlying208 (by simp [Tryz.sizeOf3])
theorem bls_sl_api_Limit_0 : BldS Tryz.prog 22 0 4 [] := blsOf Tryz.runUnderlying22 Tryz.sizeOf157 Tryz.zeroValue157 (by decide) (by kernel_rfl)
theorem bls_sl_api_Limit_1 : BldS Tryz.prog 22 1 4 [.int .i64 0, .int .i64 0, .int .i64 0, .int .i64 0] := blsOf Tryz.runUnderlying22 Tryz.sizeOf157 Tryz.zeroValue157 (by decide) (by kernel_rfl)
theorem bls_sl_api_Limit_2 : BldS Tryz.prog 22 2 4 [.int .i64 0, .int .i64 0, .int .i64 0, .int .i64 0, .int .i64 0, .int .i64 0, .int .i64 0, .int .i64 0] := blsOf Tryz.runUnderlying22 Tryz.sizeOf157 Tryz.zeroValue157 (by decide) (by kernel_rfl)
theorem bls_sl_api_Limit_4 : BldS Tryz.prog 22 4 4 [.int .i64 0, .int .i64 0, .int .i64 0, .int .i64 0, .int .i64 0, .int .i64 0, .int .i64 0, .int .i64 0, .int .i64 0, .int .i64 0, .int .i64 0, .int .i64 0, .int .i64 0, .int .i64 0, .int .i64 0, .int .i64 0] := blsOf Tryz.runUnderlying22 Tryz.sizeOf157 Tryz.zeroValue157 (by decide) (by kernel_rfl)
theorem bls_sl_int_0 : BldS Tryz.prog 25 0 1 [] := blsOf Tryz.runUnderlying25 Tryz.sizeOf3 Tryz.zeroValue3 (by decide) (by kernel_rfl)
theorem bls_sl_int_1 : BldS Tryz.prog 25 1 1 [.int .i64 0] := blsOf Tryz.runUnderlying25 Tryz.sizeOf3 Tryz.zeroValue3 (by decide) (by kernel_rfl)
theorem bls_sl_int_3 : BldS Tryz.prog 25 3 1 [.int .i64 0, .int .i64 0, .int .i64 0] := blsOf Tryz.runUnderlying25 Tryz.sizeOf3 Tryz.zeroValue3 (by decide) (by kernel_rfl)
theorem bls_sl_api_Probe_1 : BldS Tryz.prog 28 1 2 [.int .i64 0, .int .i64 0] := blsOf Tryz.runUnderlying28 Tryz.sizeOf54 Tryz.zeroValue54 (by decide) (by kernel_rfl)
theorem bls_sl_api_Probe_3 : BldS Tryz.prog 28 3 2 [.int .i64 0, .int .i64 0, .int .i64 0, .int .i64 0, .int .i64 0, .int .i64 0] := blsOf Tryz.runUnderlying28 Tryz.sizeOf54 Tryz.zeroValue54 (by decide) (by kernel_rfl)
theorem bls_slLL_int_1 : BldS Tryz.prog 29 1 1 [.slice none 0 0] := blsOf Tryz.runUnderlying29 Tryz.sizeOf25 Tryz.zeroValue25 (by decide) (by kernel_rfl)
theorem bls_slLL_int_2 : BldS Tryz.prog 29 2 1 [.slice none 0 0, .slice none 0 0] := blsOf Tryz.runUnderlying29 Tryz.sizeOf25 Tryz.zeroValue25 (by decide) (by kernel_rfl)
theorem bls_sl_api_Use_1 : BldS Tryz.prog 61 1 2 [.int .i64 0, .int .i64 0] := blsOf Tryz.runUnderlying61 Tryz.sizeOf208 Tryz.zeroValue208 (by decide) (by kernel_rfl)
theorem bls_sl_api_Twins_1 : BldS Tryz.prog 64 1 2 [.slice none 0 0, .slice none 0 0] := blsOf Tryz.runUnderlying64 Tryz.sizeOf39 Tryz.zeroValue39 (by decide) (by kernel_rfl)
theorem bls_sl_bound_step_1 : BldS Tryz.prog 188 1 4 [.int .i64 0, .int .i64 0, .int .i64 0, .int .i64 0] := blsOf Tryz.runUnderlying188 Tryz.sizeOf197 Tryz.zeroValue197 (by decide) (by kernel_rfl)
theorem app_sl_api_Limit_api_Limit : AppT Tryz.prog 22 22 157 4 32 := ⟨Tryz.runUnderlying22, Tryz.runUnderlying22, Tryz.sizeOf157, ⟨_, Tryz.typeInfo157, rfl, by decide⟩, ⟨_, Tryz.zeroValue157, rfl⟩⟩
theorem app_sl_int_int : AppT Tryz.prog 25 25 3 1 8 := ⟨Tryz.runUnderlying25, Tryz.runUnderlying25, Tryz.sizeOf3, ⟨_, Tryz.typeInfo3, rfl, by decide⟩, ⟨_, Tryz.zeroValue3, rfl⟩⟩
theorem app_sl_api_Probe_api_Probe : AppT Tryz.prog 28 28 54 2 16 := ⟨Tryz.runUnderlying28, Tryz.runUnderlying28, Tryz.sizeOf54, ⟨_, Tryz.typeInfo54, rfl, by decide⟩, ⟨_, Tryz.zeroValue54, rfl⟩⟩
theorem app_slLL_int_LL_int : AppT Tryz.prog 29 29 25 1 24 := ⟨Tryz.runUnderlying29, Tryz.runUnderlying29, Tryz.sizeOf25, ⟨_, Tryz.typeInfo25, rfl, by decide⟩, ⟨_, Tryz.zeroValue25, rfl⟩⟩
theorem app_sl_api_Use_api_Use : AppT Tryz.prog 61 61 208 2 16 := ⟨Tryz.runUnderlying61, Tryz.runUnderlying61, Tryz.sizeOf208, ⟨_, Tryz.typeInfo208, rfl, by decide⟩, ⟨_, Tryz.zeroValue208, rfl⟩⟩
theorem app_sl_api_Twins_api_Twins : AppT Tryz.prog 64 64 39 2 48 := ⟨Tryz.runUnderlying64, Tryz.runUnderlying64, Tryz.sizeOf39, ⟨_, Tryz.typeInfo39, rfl, by decide⟩, ⟨_, Tryz.zeroValue39, rfl⟩⟩
theorem app_sl_bound_step_bound_step : AppT Tryz.prog 188 188 197 4 32 := ⟨Tryz.runUnderlying188, Tryz.runUnderlying188, Tryz.sizeOf197, ⟨_, Tryz.typeInfo197, rfl, by decide⟩, ⟨_, Tryz.zeroValue197, rfl⟩⟩
end Go.Proofs.YtiiokdeehlfeeaaGreat

namespace Go.Proofs.YtiiokdeehlfeeaaGreat
open Go.MW
theorem bound_within_spec {H : Heap} {w : World} {σ : List Ent} {a0 a1 a2 : Int} (hs : St H w σ) : Cl Tryz.prog 167 [I a0, I a1, I a2] w fun v w' => v = .bool (decide (a1 ≤ a0 ∧ a0 ≤ a2)) ∧ St H w' σ := by
  refine Cl.of Tryz.func167 rfl Tryz.ntmps167 (by simp) (args_cons (k := 0) rfl (args_cons (k := 1) rfl (args_cons (k := 2) rfl (args0)))) ?_
  refine .regSeq (.z zg (.nil (.regSeq (.z zm (.z zm (.z zleq (.z zm ?_)))))))
  refine .bifD (t' := 10) rfl (fun hb10 => ?_) (fun hb10 => ?_)
  · refine .gT rfl rfl ?_
    refine .z zm ?_
    refine .gT rfl rfl ?_
    refine .z zm ?_
    refine .gT rfl rfl ?_
    refine .z zleq (.z zpT (.z zg (.nil ?_)))
    refine .ret (Fin.ret1 Tryz.results167 rfl ?_)
    exact ⟨by simp [*], hs.out⟩
  · refine .gFs 3 3 true rfl rfl rfl ?_
    refine .z zpF (.z zg (.nil ?_))
    refine .ret (Fin.ret1 Tryz.results167 rfl ?_)
    exact ⟨by simp [*], hs.out⟩
theorem bound_isLimit_spec {H : Heap} {w : World} {σ : List Ent} {many : Int} {l : Lim} (hs : St H w σ) : Cl Tryz.prog 170 [I many, .agg l.c.toArray] w fun v w' => v = .bool (l.ok many) ∧ St H w' σ := by
  refine Cl.of Tryz.func170 rfl Tryz.ntmps170 (by simp) (args_cons (k := 0) rfl (args_cons (k := 1) rfl (args0))) ?_
  refine .regSeq ?_
  refine .o (.box hs rfl rfl ?_); intro b3 w hs
  refine .z zg (.nil (.regSeq (.z (zfa fa_api_Limit_0) (.y hs (zld Tryz.isAgg3) (.z zm ?_)))))
  refine .o (.call Tryz.call167 rfl (bound_within_spec hs) ?_); rintro _ w ⟨rfl, hs⟩
  refine .z zm ?_
  refine .bif (t' := 9) rfl (fun hb9 => ?_) (fun hb9 => ?_)
  · refine .gT rfl rfl ?_
    refine .z (zfa fa_api_Limit_1) ?_
    refine .gT rfl rfl ?_
    refine .y hs (zld Tryz.isAgg3) ?_
    refine .gT rfl rfl ?_
    refine .z zm ?_
    refine .gT rfl rfl ?_
    refine .o (.call Tryz.call167 rfl (bound_within_spec hs) ?_); rintro _ w ⟨rfl, hs⟩
    refine .z zpT (.z zm ?_)
    refine .bif (t' := 15) rfl (fun hb15 => ?_) (fun hb15 => ?_)
    · refine .gT rfl rfl ?_
      refine .z (zfa fa_api_Limit_0) ?_
      refine .gT rfl rfl ?_
      refine .y hs (zld Tryz.isAgg3) ?_
      refine .gT rfl rfl ?_
      refine .z (zfa fa_api_Limit_1) ?_
      refine .gT rfl rfl ?_
      refine .y hs (zld Tryz.isAgg3) ?_
      refine .gT rfl rfl ?_
      refine .z zneq (.z zpT (.z zm ?_))
      refine .bifN (t' := 22) rfl (fun hb22 => ?_) (fun hb22 => ?_)
      · refine .gT rfl rfl ?_
        refine .z (zfa fa_api_Limit_2) ?_
        refine .gT rfl rfl ?_
        refine .y hs (zld Tryz.isAgg3) ?_
        refine .gT rfl rfl ?_
        refine .o (.call Tryz.call167 rfl (bound_within_spec hs) ?_); rintro _ w ⟨rfl, hs⟩
        refine .z zpT (.z zm ?_)
        refine .bif (t' := 27) rfl (fun hb27 => ?_) (fun hb27 => ?_)
        · refine .gT rfl rfl ?_
          refine .z (zfa fa_api_Limit_3) ?_
          refine .gT rfl rfl ?_
          refine .y hs (zld Tryz.isAgg3) ?_
          refine .gT rfl rfl ?_
          refine .o (.call Tryz.call167 rfl (bound_within_spec hs) ?_); rintro _ w ⟨rfl, hs⟩
          refine .z zpT (.z zg (.nil ?_))
          refine .ret (Fin.ret1 Tryz.results170 rfl ?_)
          exact ⟨by simp [Lim.ok, *], hs.out⟩
        · refine .gFs 3 22 true rfl rfl rfl ?_
          refine .z zpF (.z zg (.nil ?_))
          refine .ret (Fin.ret1 Tryz.results170 rfl ?_)
          exact ⟨by simp [Lim.ok, *], hs.out⟩
      · refine .gFs 3 17 true rfl rfl rfl ?_
        refine .z zpF (.z zm ?_)
        refine .gFs 3 22 true rfl rfl rfl ?_
        refine .z zpF (.z zg (.nil ?_))
        refine .ret (Fin.ret1 Tryz.results170 rfl ?_)
        exact ⟨by simp [Lim.ok, *], hs.out⟩
    · refine .gFs 5 10 true rfl rfl rfl ?_
      refine .z zpF (.z zm ?_)
      refine .gFs 3 17 true rfl rfl rfl ?_
      refine .z zpF (.z zm ?_)
      refine .gFs 3 22 true rfl rfl rfl ?_
      refine .z zpF (.z zg (.nil ?_))
      refine .ret (Fin.ret1 Tryz.results170 rfl ?_)
      exact ⟨by simp [Lim.ok, *], hs.out⟩
  · refine .gFs 4 4 true rfl rfl rfl ?_
    refine .z zpF (.z zm ?_)
    refine .gFs 5 10 true rfl rfl rfl ?_
    refine .z zpF (.z zm ?_)
    refine .gFs 3 17 true rfl rfl rfl ?_
    refine .z zpF (.z zm ?_)
    refine .gFs 3 22 true rfl rfl rfl ?_
    refine .z zpF (.z zg (.nil ?_))
    refine .ret (Fin.ret1 Tryz.results170 rfl ?_)
    exact ⟨by simp [Lim.ok, *], hs.out⟩
theorem IndexFunc_Lim {H : Heap} {w : World} {σ : List Ent} {v : Value} {ls : List Lim} {g : Nat} {cap : List Value} {p : Lim → Bool} (hs : St H w σ) (hr : RL H v ls)
    (hc : ∀ args w, (callFunc g args).run Tryz.prog w = .ok (.enter g args) w) (hp : ∀ w l, St H w σ → Cl Tryz.prog g ([.agg l.c.toArray] ++ cap) w fun u w' => u = .bool (p l) ∧ St H w' σ) :
    Cl Tryz.prog 195 [v, .func (.func g) #[] cap.toArray] w fun u w' => u = I (match ls.findIdx? p with | some k => (k : Int) | none => -1) ∧ St H w' σ := by
  obtain ⟨a, c, rfl⟩ := RS.shape hr
  have hl := (RS.len hr).2.2
  refine Cl.of Tryz.func195 rfl Tryz.ntmps195 (by simp) (args_cons (k := 0) rfl (args_cons (k := 1) rfl (args0))) ?_
  refine .regSeq (.z zg (.nil (.seq (.regSeq (.z zm ?_)))))
  refine .q hs (q_lenR hr rfl Tryz.runUnderlying22) ?_
  refine .z zm (.nil ?_)
  refine .for (N := (ls.map Lim.c).length) (J := fun k fr w => fr = [(1, .func (.func g) #[] cap.toArray), (0, .slice a (ls.map Lim.c).length c)] ∧ St H w σ ∧ ∀ j < k, ∀ l, ls[j]? = some l → p l = false) (by omega) ?_ ?_ ?_
  · exact .mk ⟨rfl, hs, fun j hj => by omega⟩
  · rintro k fr w hk ⟨rfl, hs, hno⟩
    obtain ⟨l, hl⟩ := nth (l := ls) (by simpa using hk)
    refine .block (.regSeq (.z zm (.z zg (.nil (.regSeq (.z zm (.z zm (.z zm ?_))))))))
    refine .ixX hs hr rfl rfl Tryz.runUnderlying22 Tryz.sizeOf157 hl rfl ?_; intro b14 o14 hc14
    refine .y hs (zls [_, _, _, _] Tryz.isAgg157 Tryz.sizeOf157) ?_
    refine .o (.callG (first := []) rfl rfl hc (hp _ _ hs) ?_); rintro _ w ⟨rfl, hs⟩
    refine .nil ?_
    refine (.cond rfl (fun hc16 => ?_) (fun hc16 => ?_))
    · refine .regSeq (.z zm (.z zg (.nil ?_)))
      refine .ret (rB (rT (rB (rT (Fin.ret1 Tryz.results195 rfl ?_)))))
      exact ⟨by rw [findIdx_hit hl hc16 hno], hs⟩
    · refine .skip ?_
      refine nB (nT ?_)
      exact .mk ⟨rfl, hs, upto_succ hno hl hc16⟩
  · rintro fr w ⟨rfl, hs, hno⟩
    refine nT ?_
    refine .regSeq (.z zg (.nil ?_))
    refine .ret (Fin.ret1 Tryz.results195 rfl ?_)
    exact ⟨by rw [findIdx_miss (by simpa using hno)], hs⟩
theorem ContainsFunc_Lim {H : Heap} {w : World} {σ : List Ent} {v : Value} {ls : List Lim} {g : Nat} {cap : List Value} {p : Lim → Bool} (hs : St H w σ) (hr : RL H v ls)
    (hc : ∀ args w, (callFunc g args).run Tryz.prog w = .ok (.enter g args) w) (hp : ∀ w l, St H w σ → Cl Tryz.prog g ([.agg l.c.toArray] ++ cap) w fun u w' => u = .bool (p l) ∧ St H w' σ) :
    Cl Tryz.prog 168 [v, .func (.func g) #[] cap.toArray] w fun u w' => u = .bool (ls.any p) ∧ St H w' σ := by
  refine Cl.of Tryz.func168 rfl Tryz.ntmps168 (by simp) (args_cons (k := 0) rfl (args_cons (k := 1) rfl (args0))) ?_
  refine .regSeq (.z zg (.nil (.regSeq (.z zm (.z zm ?_)))))
  refine .o (.call Tryz.call195 rfl (IndexFunc_Lim hs hr hc hp) ?_); rintro _ w ⟨rfl, hs⟩
  refine .z zgeq (.z zg (.nil ?_))
  refine .ret (Fin.ret1 Tryz.results168 rfl ?_)
  exact ⟨by rw [any_findIdx]; cases ls.findIdx? p <;> simp <;> omega, hs⟩
theorem bound_Check_1 {H : Heap} {w : World} {σ : List Ent} {b : Nat} {many : Int} {v : Value} {l : Lim} (hs : St H w σ) (hm : Mem σ (.blk b [I many, v])) : Cl Tryz.prog 169 [.agg l.c.toArray, .pointer (some ⟨b, 0, none⟩)] w fun v w' => v = .bool (!l.ok many) ∧ St H w' σ := by
  refine Cl.of Tryz.func169 rfl Tryz.ntmps169 (by simp) (args_cons (k := 0) rfl (args_cons (k := 1) rfl (args0))) ?_
  refine .regSeq ?_
  refine .o (.box hs rfl rfl ?_); intro b2 w hs
  refine .z zg (.nil (.regSeq (.z (zfa fa_api_System_0) ?_)))
  refine .q hs (q_load rfl Tryz.isAgg3 (.there hm) rfl) ?_
  refine .q hs (q_loads (vs := l.c) rfl Tryz.isAgg157 Tryz.sizeOf157) ?_
  refine .o (.call Tryz.call170 rfl (bound_isLimit_spec hs) ?_); rintro _ w ⟨rfl, hs⟩
  refine .z znot (.z zg (.nil ?_))
  refine .ret (Fin.ret1 Tryz.results169 rfl ?_)
  exact ⟨rfl, hs.out⟩
theorem bound_Check_spec {H : Heap} {w : World} {σ : List Ent} {v : Value} {s : Syst} (hs : St H w σ) (hr : RSy H v s) : Cl Tryz.prog 113 [v] w fun v w' => v = I s.check ∧ St H w' σ := by
  obtain ⟨u, rfl, hr⟩ := hr
  obtain ⟨a, c, rfl⟩ := RS.shape hr
  refine Cl.of Tryz.func113 rfl Tryz.ntmps113 (by simp) (args_cons (k := 0) rfl (args0)) ?_
  refine .regSeq ?_
  refine .o (.box hs rfl rfl ?_); intro b1 w hs
  refine .z zg (.nil (.seq (.block (.regSeq (.z (zfa fa_api_System_0) (.y hs (zld Tryz.isAgg3) ?_))))))
  refine .o (.call Tryz.call167 rfl (bound_within_spec hs) ?_); rintro _ w ⟨rfl, hs⟩
  refine .z znot (.z zg (.nil ?_))
  refine (.cond rfl (fun hc3 => ?_) (fun hc3 => ?_))
  · refine .regSeq (.z zg (.nil ?_))
    refine .ret (rB (rT (Fin.ret1 Tryz.results113 rfl ?_)))
    exact ⟨congrArg I (by unfold Syst.check; (repeat' split) <;> simp_all <;> omega), hs.out⟩
  · refine .regSeq (.z (zfa fa_api_System_1) (.y hs (zld Tryz.isAgg22) ?_))
    refine .q hs (q_lenR hr rfl Tryz.runUnderlying22) ?_
    refine .z zgtr (.z zg (.nil ?_))
    refine (.condD rfl (fun hc8 => ?_) (fun hc8 => ?_))
    · refine .regSeq (.z zg (.nil ?_))
      refine .ret (rB (rT (Fin.ret1 Tryz.results113 rfl ?_)))
      exact ⟨congrArg I (by unfold Syst.check; (repeat' split) <;> simp_all <;> omega), hs.out⟩
    · refine .regSeq (.z (zfa fa_api_System_1) (.y hs (zld Tryz.isAgg22) ?_))
      refine .q hs (q_makeFunc (f := []) (c := [_]) rfl rfl) ?_
      refine .o (.call Tryz.call168 rfl (ContainsFunc_Lim (p := fun l => !l.ok s.many) hs hr Tryz.call169 (fun w l hs => bound_Check_1 hs .here)) ?_); rintro _ w ⟨rfl, hs⟩
      refine .z zg (.nil ?_)
      refine (.cond rfl (fun hc13 => ?_) (fun hc13 => ?_))
      · refine .regSeq (.z zg (.nil ?_))
        refine .ret (rB (rT (Fin.ret1 Tryz.results113 rfl ?_)))
        exact ⟨congrArg I (by unfold Syst.check; (repeat' split) <;> simp_all <;> omega), hs.out⟩
      · refine .skip ?_
        refine nB (nT ?_)
        refine .regSeq (.z zg (.nil ?_))
        refine .ret (Fin.ret1 Tryz.results113 rfl ?_)
        exact ⟨congrArg I (by unfold Syst.check; (repeat' split) <;> simp_all <;> omega), hs.out⟩
end Go.Proofs.YtiiokdeehlfeeaaGreat

namespace Go.Proofs.YtiiokdeehlfeeaaGreat
open Go.MW
theorem bound_steps_1_iter {H : Heap} {b : Nat} {s : Syst} {u : Value} (hok : s.Ok) (hb : Row H b [I s.many, u]) (hr : RL H u s.lims) : ItA Tryz.prog 196 [.pointer (some ⟨b, 0, none⟩)] H s.arcs := by
  intro l II Ix _ _ hy H0 σb0 σf w hle hI0 hs
  obtain ⟨a, c, rfl⟩ := RS.shape hr
  have hb1 : cellAt H0 b 1 = some (.slice a (s.lims.map Lim.c).length c) := cellAt.mono (by rw [hb.cell]; rfl) hle
  have hlen := hok.len
  refine Cl.of Tryz.func196 rfl Tryz.ntmps196 (by simp) (args_cons (k := 0) rfl (args_cons (k := 1) rfl (args0))) ?_
  refine .regSeq (.z (zfa fa_api_System_1) (.y hs (zld Tryz.isAgg22) ?_))
  refine .q hs (q_lenR (hr.mono hle) rfl Tryz.runUnderlying22) ?_
  refine .z zm (.nil ?_)
  refine .for (N := (s.lims.map Lim.c).length) (J := fun k fr w => fr = [(6, .slice a (s.lims.map Lim.c).length c), (0, .func (.yield l) #[] #[])] ∧ ∃ H1 σb, HLe H H1 ∧ HLe H0 H1 ∧ II k H1 σb ∧ St H1 w (σb ++ σf)) (by simp; omega) ?_ ?_ ?_
  · exact .mk ⟨rfl, H0, σb0, hle, HLe.refl _, hI0, hs⟩
  · rintro k fr w hk ⟨rfl, H1, σb, hle1, hle0, hI, hs⟩
    obtain ⟨x, hx⟩ := nth (l := s.lims) (by simpa using hk)
    obtain ⟨hA, hB, _⟩ := hok.arc (List.mem_of_getElem? hx) k
    refine .block (.regSeq (.z zm ?_))
    refine .ixX hs (hr.mono hle1) rfl rfl Tryz.runUnderlying22 Tryz.sizeOf157 hx rfl ?_; intro b11 o11 hc11
    refine .q hs (q_loadsR (vs := x.c) rfl Tryz.isAgg157 Tryz.sizeOf157 hc11) ?_
    refine .o (.alloc hs Tryz.zeroValue157 rfl ?_); intro b4 w hs
    refine .z zg ?_
    refine .o (.stores (vs := x.c) hs rfl rfl Tryz.sizeOf157 ?_); intro w hs
    refine .nil (.regSeq (.z zm (.z (zfa fa_api_Limit_0) (.y hs (zld Tryz.isAgg3) (.z (zfa fa_api_Limit_1) (.y hs (zld Tryz.isAgg3) (.z (zfa fa_api_Limit_2) (.y hs (zld Tryz.isAgg3) (.z zm ?_)))))))))
    refine .z (zbd [_, _, _, _] bld_bound_step) ?_
    have hk' : k < (s.arcs.map fun x => [Value.agg x.v.toArray]).length := by simp [Syst.arcs, arcsOf_length]; simpa using hk
    have hxk : (s.arcs.map fun x => [Value.agg x.v.toArray])[k] = [.agg (x.arc k).v.toArray] := by
      have := arcsOf_get hx
      rw [List.getElem_map]; rw [List.getElem?_eq_some_iff] at this; obtain ⟨h1, h2⟩ := this; simp only [Syst.arcs]; rw [h2]
    have hyd := hy k hk' H1 σb σf w hle1 hI hs.tail
    rw [hxk] at hyd
    refine .o (.yield (vs := [.agg (x.arc k).v.toArray]) rfl (by simp [Arc.v, hA, hB]; rfl) hyd ?_); rintro v22 w ⟨H2, σ2, g1, hs, g3⟩
    obtain ⟨bb, rfl, gT, gF⟩ := yd_bool g3
    refine .z znot (.nil ?_)
    refine (.cond rfl (fun hc23 => ?_) (fun hc23 => ?_))
    · refine .ret (rB (rT (rB (Fin.ret0 Tryz.results196 ?_))))
      exact ⟨H2, σ2, hle0.trans g1, hs, .inr (gF (by simpa using hc23))⟩
    · refine .skip ?_
      refine nB (nT ?_)
      exact .mk ⟨rfl, H2, σ2, hle1.trans g1, hle0.trans g1, gT (by simpa using hc23), hs⟩
  · rintro fr w ⟨rfl, H1, σb, hle1, hle0, hI, hs⟩
    exact Fin.end0 Tryz.results196 ⟨H1, σb, hle0, hs, .inl (by simpa [Syst.arcs, arcsOf_length] using hI)⟩
theorem bound_steps_spec {H : Heap} {w : World} {σ : List Ent} {v : Value} {s : Syst} (hs : St H w σ) (hok : s.Ok) (hr : RSy H v s) :
    Cl Tryz.prog 172 [v] w fun v w' => ∃ H1 b, HLe H H1 ∧ v = .func (.func 196) #[] #[.pointer (some ⟨b, 0, none⟩)] ∧ ItA Tryz.prog 196 [.pointer (some ⟨b, 0, none⟩)] H1 s.arcs ∧ St H1 w' σ := by
  obtain ⟨u, rfl, hr⟩ := hr
  refine Cl.of Tryz.func172 rfl Tryz.ntmps172 (by simp) (args_cons (k := 0) rfl (args0)) ?_
  refine .regSeq ?_
  refine .o (.box hs rfl rfl ?_); intro b1 w hs
  refine .z zg (.nil (.regSeq ?_))
  refine .q hs (q_makeFunc (f := []) (c := [_]) rfl rfl) ?_
  refine .z zg (.nil ?_)
  refine .ret (Fin.ret1 Tryz.results172 rfl ?_)
  obtain ⟨H1, g1, g2, hs⟩ := hs.publish .here
  exact ⟨H1, b1, g1, rfl, bound_steps_1_iter hok g2 (hr.mono g1), hs⟩
theorem bound_nearest_spec {H : Heap} {w : World} {σ : List Ent} {N gf : Nat} {ar : List Arc} {cap : List Value} (hs : St H w σ) (hN : N ≤ 64) (hok : ArcsOk ar (N + 1)) (hit : ItA Tryz.prog gf cap H ar) (hc : ∀ args w, (callFunc gf args).run Tryz.prog w = .ok (.enter gf args) w) :
    Cl Tryz.prog 171 [I N, .func (.func gf) #[] cap.toArray] w fun v w' => ∃ H1 bc bb s ov vo, HLe H H1 ∧ v = .tuple #[.slice (some ⟨bc, 0, none⟩) (N + 1) (N + 1), .slice (some ⟨bb, 0, none⟩) (N + 1) (N + 1), vo] ∧ OvR H1 vo ov ∧ NearR (N + 1) ar s ov ∧ St H1 w' (.blk bc (Is s.cost) :: .blk bb (Arcs s.by_) :: σ) := by
  refine Cl.of Tryz.func171 rfl Tryz.ntmps171 (by simp) (args_cons (k := 0) rfl (args_cons (k := 1) rfl (args0))) ?_
  refine .regSeq ?_
  refine .o (.alloc hs Tryz.zeroValue25 rfl ?_); intro b4 w hs
  refine .o (.alloc hs Tryz.zeroValue188 rfl ?_); intro b5 w hs
  refine .o (.alloc hs Tryz.zeroValue189 rfl ?_); intro b6 w hs
  refine .nil ?_
  refine .cut (fun fs w => ∃ bc bb, FSub fs ⟨70, [], [(1, .func (.func gf) #[] cap.toArray), (0, I N), (4, .pointer (some ⟨b4, 0, none⟩)), (5, .pointer (some ⟨b5, 0, none⟩)), (6, .pointer (some ⟨b6, 0, none⟩))]⟩ ∧ St H w (.blk b4 [.slice (some ⟨bc, 0, none⟩) (N + 1) (N + 1)] :: .blk b5 [.slice (some ⟨bb, 0, none⟩) (N + 1) (N + 1)] :: .blk b6 [.pointer none] :: .blk bc (Is (List.replicate (N + 1) 0)) :: .blk bb (Arcs (mkBy (N + 1) 0)) :: σ)) ?_ ?_
  · refine .draw mix rfl hs ?_; intro w hs
    refine .z 0 rfl zm ?_; refine .z 1 rfl zadd ?_; refine .z 3 rfl zm ?_; refine .z 4 rfl zadd ?_
    refine .e2 (i := 2) (j := 5) (by kernel_rfl) rfl rfl rfl rfl .none .none hs ?_ ?_
    · refine .makeI (N + 1) hs rfl rfl Tryz.runUnderlying25 Tryz.typeInfo3 rfl Tryz.sizeOf3 Tryz.zeroValue3 (by omega) ?_; intro b11 w hs
      refine .go ?_
      refine .e2 (i := 5) (j := 6) (by kernel_rfl) rfl rfl rfl rfl .none .none hs ?_ ?_
      · refine .makeA (N + 1) hs rfl rfl Tryz.runUnderlying188 Tryz.typeInfo197 rfl Tryz.sizeOf197 Tryz.zeroValue197 (by omega) ?_; intro b14 w hs
        refine .go ?_
        refine .e1 (i := 6) (by kernel_rfl) rfl rfl .none hs ?_
        refine .store hs rfl rfl Tryz.sizeOf25 ?_; intro w hs
        refine .go ?_
        refine .e1 (i := 7) (by kernel_rfl) rfl rfl .none hs ?_
        refine .store hs rfl rfl Tryz.sizeOf188 ?_; intro w hs
        refine .go ?_
        refine .done (by kernel_rfl) hs ?_
        exact nT ⟨b11, b14, by repeat (first | exact .nil rfl rfl | refine .cons rfl ?_), hs.sub (by repeat (first | exact Sub.refl _ | constructor | apply Sub.weaken))⟩
      · refine .store hs rfl rfl Tryz.sizeOf25 ?_; intro w hs
        refine .go ?_
        refine .e1 (i := 5) (by kernel_rfl) rfl rfl .none hs ?_
        refine .makeA (N + 1) hs rfl rfl Tryz.runUnderlying188 Tryz.typeInfo197 rfl Tryz.sizeOf197 Tryz.zeroValue197 (by omega) ?_; intro b14 w hs
        refine .go ?_
        refine .e1 (i := 7) (by kernel_rfl) rfl rfl .none hs ?_
        refine .store hs rfl rfl Tryz.sizeOf188 ?_; intro w hs
        refine .go ?_
        refine .done (by kernel_rfl) hs ?_
        exact nT ⟨b11, b14, by repeat (first | exact .nil rfl rfl | refine .cons rfl ?_), hs.sub (by repeat (first | exact Sub.refl _ | constructor | apply Sub.weaken))⟩
    · refine .makeA (N + 1) hs rfl rfl Tryz.runUnderlying188 Tryz.typeInfo197 rfl Tryz.sizeOf197 Tryz.zeroValue197 (by omega) ?_; intro b14 w hs
      refine .go ?_
      refine .e1 (i := 2) (by kernel_rfl) rfl rfl .none hs ?_
      refine .makeI (N + 1) hs rfl rfl Tryz.runUnderlying25 Tryz.typeInfo3 rfl Tryz.sizeOf3 Tryz.zeroValue3 (by omega) ?_; intro b11 w hs
      refine .go ?_
      refine .e1 (i := 6) (by kernel_rfl) rfl rfl .none hs ?_
      refine .store hs rfl rfl Tryz.sizeOf25 ?_; intro w hs
      refine .go ?_
      refine .e1 (i := 7) (by kernel_rfl) rfl rfl .none hs ?_
      refine .store hs rfl rfl Tryz.sizeOf188 ?_; intro w hs
      refine .go ?_
      refine .done (by kernel_rfl) hs ?_
      exact nT ⟨b11, b14, by repeat (first | exact .nil rfl rfl | refine .cons rfl ?_), hs.sub (by repeat (first | exact Sub.refl _ | constructor | apply Sub.weaken))⟩
  · rintro s w ⟨bc, bb, hfs, hs⟩
    refine WE.sub ?_ hfs
    refine .seq (.regSeq (.y hs (zld Tryz.isAgg188) (.z (zlen Tryz.runUnderlying188) (.z zm (.nil ?_)))))
    refine .for (N := N + 1) (J := fun k fr w => fr = [(1, .func (.func gf) #[] cap.toArray), (0, I N), (4, .pointer (some ⟨b4, 0, none⟩)), (5, .pointer (some ⟨b5, 0, none⟩)), (6, .pointer (some ⟨b6, 0, none⟩))] ∧ St H w (.blk b4 [.slice (some ⟨bc, 0, none⟩) (N + 1) (N + 1)] :: .blk b5 [.slice (some ⟨bb, 0, none⟩) (N + 1) (N + 1)] :: .blk b6 [.pointer none] :: .blk bc (Is (List.replicate (N + 1) 0)) :: .blk bb (Arcs (mkBy (N + 1) k)) :: σ)) (by omega) ?_ ?_ ?_
    · exact .mk ⟨rfl, hs⟩
    · rintro k fr w hk ⟨rfl, hs⟩
      have hkl : k < (mkBy (N + 1) k).length := by rw [mkBy_length (by omega)]; exact hk
      refine .block (.regSeq (.z zm (.z zg (.nil (.region (.y hs (zld Tryz.isAgg188) (.z zm ?_)))))))
      first | (refine .ixw hs Tryz.runUnderlying188 Tryz.sizeOf197 ?_; intro b22 o22 hc22) | refine .z (zixm Tryz.runUnderlying188 Tryz.sizeOf197) ?_
      refine .z (zfa fa_bound_step_3) ?_
      refine .o (.store hs rfl rfl Tryz.sizeOf3 ?_ (by repeat constructor) (blt_Arcs hkl (by omega)) ((Arcs_set3 hkl _).trans (congrArg Arcs (mkBy_set hk)))); intro w hs
      refine .nil ?_
      refine nB (nT ?_)
      exact .mk ⟨rfl, hs⟩
    · rintro fr w ⟨rfl, hs⟩
      refine nT ?_
      refine .seq (.regSeq (.z zm (.z zadd (.z zm (.nil ?_)))))
      refine .forD (N := N + 2) (J := fun r ds fr w => fr = [(1, .func (.func gf) #[] cap.toArray), (0, I N), (4, .pointer (some ⟨b4, 0, none⟩)), (5, .pointer (some ⟨b5, 0, none⟩)), (6, .pointer (some ⟨b6, 0, none⟩))] ∧ ∃ Ds H1 s vo, ds = marks Ds ∧ HLe H H1 ∧ NInv (N + 1) ar r 0 none s ∧ (r = 0 ∨ ∃ x, OvR H1 vo (some x) ∧ NInv (N + 1) ar (r - 1) ar.length (some x) s) ∧ St H1 w (.blk b4 [.slice (some ⟨bc, 0, none⟩) (N + 1) (N + 1)] :: .blk b5 [.slice (some ⟨bb, 0, none⟩) (N + 1) (N + 1)] :: .blk b6 [vo] :: .blk bc (Is s.cost) :: .blk bb (Arcs s.by_) :: (mes Ds ++ σ))) (by omega) ?_ ?_ ?_
      · exact .mk (ds := []) ⟨rfl, [], H, ⟨List.replicate (N + 1) 0, List.replicate (N + 1) ⟨0, 0, 0, -1⟩⟩, _, rfl, HLe.refl _, NInv.init (by omega), .inl rfl, by rw [mkBy_full] at hs; exact hs⟩
      · rintro r ds fr w hr ⟨rfl, Ds, H1, s, vo, rfl, hle1, hN0, -, hs⟩
        refine .block (.regSeq ?_)
        refine .o (.store hs rfl rfl Tryz.sizeOf189 ?_); intro w hs
        refine .nil (.seq (.regSeq (.z zm (.nil (.block ?_)))))
        refine .rangeFunc (gf := gf) (cap := cap) (xs := ar.map fun x => [.agg x.v.toArray]) (σb := [.blk b4 [.slice (some ⟨bc, 0, none⟩) (N + 1) (N + 1)], .blk b5 [.slice (some ⟨bb, 0, none⟩) (N + 1) (N + 1)], .blk b6 [.pointer none], .blk bc (Is s.cost), .blk bb (Arcs s.by_)]) (σf := mes Ds ++ σ) hs trivial rfl (hit.mono hle1) hc (by simp) rfl
          (I := fun k H' σb => ∃ s ov vo, σb = [.blk b4 [.slice (some ⟨bc, 0, none⟩) (N + 1) (N + 1)], .blk b5 [.slice (some ⟨bb, 0, none⟩) (N + 1) (N + 1)], .blk b6 [vo], .blk bc (Is s.cost), .blk bb (Arcs s.by_)] ∧ OvR H' vo ov ∧ NInv (N + 1) ar r k ov s) (Ix := fun _ _ _ => False) (by rintro k _ _ σ g1 ⟨s, ov, vo, g2, g3, g4⟩; exact ⟨s, ov, vo, g2, g3.mono g1, g4⟩) (fun _ _ _ _ _ h => h)
          ⟨s, none, _, rfl, rfl, hN0⟩ ?_ ?_ (fun D c H' σb w _ h _ => h.elim)
        · rintro l k hk H2 σb2 σf2 w hle2 ⟨s, ov, vo, rfl, hov, hN⟩ hs ⟨rr, hrr⟩
          obtain ⟨x, hx⟩ := nth (l := ar) (by simpa using hk)
          obtain ⟨c1, c2, c3, c4, c5, c6⟩ := hok.2 x (List.mem_of_getElem? hx)
          have hxk : (ar.map fun x => [Value.agg x.v.toArray])[k] = [.agg x.v.toArray] := by rw [List.getElem_map]; rw [List.getElem?_eq_some_iff] at hx; obtain ⟨h1, h2⟩ := hx; rw [h2]
          rw [hxk]
          have hkl : k < ar.length := by simpa using hk
          have hal := hok.1
          have hlc := hN.lc
          have hlb := hN.lb
          have lo1 := hN.lo x.f c1
          have hi1 := hN.hi x.f c1
          refine .region ?_
          refine .o (.alloc hs Tryz.zeroValue197 rfl ?_); intro b8 w hs
          refine .o (.stores (vs := x.v) hs rfl rfl Tryz.sizeOf197 ?_); intro w hs
          refine .nil ?_
          refine nT ?_
          refine ⟨H2, [.blk b8 x.v, .blk b4 [.slice (some ⟨bc, 0, none⟩) (N + 1) (N + 1)], .blk b5 [.slice (some ⟨bb, 0, none⟩) (N + 1) (N + 1)], .blk b6 [vo], .blk bc (Is s.cost), .blk bb (Arcs s.by_)], HLe.refl _, hs, ?_⟩; rintro w σf2 - hs
          refine .block ?_
          refine .seq (.draw mix rfl hs ?_); intro w hs
          refine .y 0 rfl hs Tryz.isAgg25 ?_; refine .z 1 rfl (zfa fa_bound_step_0) ?_; refine .y 2 rfl hs Tryz.isAgg3 ?_
          first | (refine .ixv 3 rfl hs Tryz.runUnderlying25 Tryz.sizeOf3 ?_; intro b34 o34 hc34) | refine .z 3 rfl (zix Tryz.runUnderlying25 Tryz.sizeOf3) ?_
          refine .y 4 rfl hs Tryz.isAgg3 ?_; refine .z 5 rfl (zfa fa_bound_step_2) ?_; refine .y 6 rfl hs Tryz.isAgg3 ?_; refine .z 7 rfl zadd ?_; refine .y 8 rfl hs Tryz.isAgg25 ?_; refine .z 9 rfl (zfa fa_bound_step_1) ?_; refine .y 10 rfl hs Tryz.isAgg3 ?_
          first | (refine .ixv 11 rfl hs Tryz.runUnderlying25 Tryz.sizeOf3 ?_; intro b42 o42 hc42) | refine .z 11 rfl (zix Tryz.runUnderlying25 Tryz.sizeOf3) ?_
          refine .y 12 rfl hs Tryz.isAgg3 ?_; refine .z 13 rfl zlss ?_; refine .done (by kernel_rfl) hs ?_
          refine (.condD rfl (fun hc44 => ?_) (fun hc44 => ?_))
          · refine .seq (.draw mix rfl hs ?_); intro w hs
            refine .y 0 rfl hs Tryz.isAgg25 ?_; refine .z 1 rfl (zfa fa_bound_step_1) ?_; refine .y 2 rfl hs Tryz.isAgg3 ?_; refine .y 3 rfl hs Tryz.isAgg188 ?_; refine .z 4 rfl (zfa fa_bound_step_1) ?_; refine .y 5 rfl hs Tryz.isAgg3 ?_; refine .y 6 rfl hs Tryz.isAgg25 ?_; refine .z 7 rfl (zfa fa_bound_step_0) ?_; refine .y 8 rfl hs Tryz.isAgg3 ?_
            first | (refine .ixv 9 rfl hs Tryz.runUnderlying25 Tryz.sizeOf3 ?_; intro b54 o54 hc54) | refine .z 9 rfl (zix Tryz.runUnderlying25 Tryz.sizeOf3) ?_
            refine .y 10 rfl hs Tryz.isAgg3 ?_; refine .z 11 rfl (zfa fa_bound_step_2) ?_; refine .y 12 rfl hs Tryz.isAgg3 ?_; refine .z 13 rfl zadd ?_
            refine .loads (i := 14) (vs := x.v) hs rfl (by kernel_rfl) .none rfl Tryz.isAgg197 Tryz.sizeOf197 ?_
            first | (refine .ixv 15 rfl hs Tryz.runUnderlying25 Tryz.sizeOf3 ?_; intro b60 o60 hc60) | refine .z 15 rfl (zix Tryz.runUnderlying25 Tryz.sizeOf3) ?_
            refine .e1 (i := 16) (by kernel_rfl) rfl rfl .none hs ?_
            refine .store hs rfl rfl Tryz.sizeOf3 ?_; intro w hs
            refine .go ?_
            first | (refine .ixw 17 rfl hs Tryz.runUnderlying188 Tryz.sizeOf197 ?_; intro b61 o61 hc61) | refine .z 17 rfl (zixm Tryz.runUnderlying188 Tryz.sizeOf197) ?_
            refine .e1 (i := 18) (by kernel_rfl) rfl rfl .none hs ?_
            refine .stores (vs := x.v) hs rfl rfl Tryz.sizeOf197 ?_; intro w hs
            refine .go ?_
            refine .done (by kernel_rfl) hs ?_
            refine .region ?_
            refine .o (.store hs rfl rfl Tryz.sizeOf189 ?_); intro w hs
            refine .nil ?_
            refine nB ?_
            obtain ⟨H3, g1, g2, hs⟩ := hs.publish .here
            exact ⟨H3, _, g1, hs, s.rlx x, some x, _, rfl, ⟨b8, rfl, g2⟩, hN.relax hok hx hc44⟩
          · refine .skip ?_
            refine nB ?_
            exact ⟨H2, _, HLe.refl _, hs.tail, s, ov, vo, rfl, hov, hN.skip hok hx (by unfold BS.can; omega)⟩
        · rintro D H2 σb2 w hle2 ⟨s, ov, vo, rfl, hov, hN⟩ hs
          obtain ⟨a', rfl, ha'⟩ := hov.ptr
          replace hs : St H2 w (.blk b4 [.slice (some ⟨bc, 0, none⟩) (N + 1) (N + 1)] :: .blk b5 [.slice (some ⟨bb, 0, none⟩) (N + 1) (N + 1)] :: .blk b6 [.pointer a'] :: .blk bc (Is s.cost) :: .blk bb (Arcs s.by_) :: (mes (D :: Ds) ++ σ)) := St.deep (σ1 := [_, _, _, _, _]) hs
          have hN : NInv (N + 1) ar r ar.length ov s := by simpa using hN
          refine nB (nT ?_)
          refine .regSeq (.y hs (zld Tryz.isAgg189) ?_)
          refine .q hs (q_eqPN rfl rfl Tryz.runUnderlying189) ?_
          refine .nil ?_
          refine (.cond rfl (fun hc63 => ?_) (fun hc63 => ?_))
          · refine .seq (.draw mix rfl hs ?_); intro w hs
            refine .y 0 rfl hs Tryz.isAgg25 ?_; refine .y 1 rfl hs Tryz.isAgg188 ?_
            refine .e1 (i := 2) (by kernel_rfl) rfl rfl .none hs ?_
            refine .store hs rfl rfl Tryz.sizeOf25 ?_; intro w hs
            refine .go ?_
            refine .e1 (i := 3) (by kernel_rfl) rfl rfl .none hs ?_
            refine .store hs rfl rfl Tryz.sizeOf188 ?_; intro w hs
            refine .go ?_
            refine .e1 (i := 4) (by kernel_rfl) rfl rfl .none hs ?_
            refine .store hs rfl rfl Tryz.sizeOf189 ?_; intro w hs
            refine .go ?_
            refine .done (by kernel_rfl) hs ?_
            refine .ret (rB (rT (rB (rT (?_)))))
            obtain ⟨rfl, rfl⟩ := OvR.no ha' hc63
            refine Fin.retD (D :: Ds) [_, _, _, _, _] hs fun w hs => ⟨_, results3 Tryz.results171 (rcell hs rfl Tryz.isAgg25) (rcell hs rfl Tryz.isAgg188) (rcell hs rfl Tryz.isAgg189), H2, bc, bb, s, none, _, hle1.trans hle2, rfl, hov, ⟨r, hN, fun h => (h rfl).elim⟩, hs.sub (by repeat (first | exact Sub.refl _ | constructor | apply Sub.weaken))⟩
          · refine .skip ?_
            refine nB (nT ?_)
            obtain ⟨x, rfl⟩ := OvR.yes ha' hc63
            exact .mk (ds := marks (D :: Ds)) ⟨rfl, D :: Ds, H2, s, _, rfl, hle1.trans hle2, hN.next hok, .inr ⟨x, hov, hN⟩, hs⟩
      · rintro ds fr w ⟨rfl, Ds, H1, s, vo, rfl, hle1, hN0, hor, hs⟩
        obtain ⟨x, hov, hN⟩ : ∃ x, OvR H1 vo (some x) ∧ NInv (N + 1) ar (N + 2 - 1) ar.length (some x) s := hor.resolve_left (by omega)
        obtain ⟨b3, rfl, hrow⟩ := hov
        refine nT ?_
        refine .seq (.draw mix rfl hs ?_); intro w hs
        refine .y 0 rfl hs Tryz.isAgg25 ?_; refine .y 1 rfl hs Tryz.isAgg188 ?_; refine .y 2 rfl hs Tryz.isAgg189 ?_
        refine .e1 (i := 3) (by kernel_rfl) rfl rfl .none hs ?_
        refine .store hs rfl rfl Tryz.sizeOf25 ?_; intro w hs
        refine .go ?_
        refine .e1 (i := 4) (by kernel_rfl) rfl rfl .none hs ?_
        refine .store hs rfl rfl Tryz.sizeOf188 ?_; intro w hs
        refine .go ?_
        refine .e1 (i := 5) (by kernel_rfl) rfl rfl .none hs ?_
        refine .store hs rfl rfl Tryz.sizeOf189 ?_; intro w hs
        refine .go ?_
        refine .done (by kernel_rfl) hs ?_
        refine .ret ?_
        refine Fin.retD Ds [_, _, _, _, _] hs fun w hs => ⟨_, results3 Tryz.results171 (rcell hs rfl Tryz.isAgg25) (rcell hs rfl Tryz.isAgg188) (rcell hs rfl Tryz.isAgg189), H1, bc, bb, s, some x, _, hle1, rfl, ⟨b3, rfl, hrow⟩, ⟨N + 1, hN, fun _ => rfl⟩, hs.sub (by repeat (first | exact Sub.refl _ | constructor | apply Sub.weaken))⟩
theorem bound_isSound_spec {H : Heap} {w : World} {σ : List Ent} {v : Value} {s : Syst} (hs : St H w σ) (hok : s.Ok) (hr : RSy H v s) :
    Cl Tryz.prog 114 [v] w fun v w' => ∃ H1 b, HLe H H1 ∧ v = .bool b ∧ (b = true ↔ s.Sound) ∧ St H1 w' σ := by
  obtain ⟨u, rfl, hr⟩ := hr
  obtain ⟨N, hN⟩ := Int.eq_ofNat_of_zero_le hok.m0
  have hN1 := hok.m1
  have hn : s.n = N + 1 := by simp [Syst.n, hN]
  have hoka := hok.arcs
  rw [hn] at hoka
  rw [hN]
  refine Cl.of Tryz.func114 rfl Tryz.ntmps114 (by simp) (args_cons (k := 0) rfl (args0)) ?_
  refine .regSeq ?_
  refine .o (.box hs rfl rfl ?_); intro b1 w hs
  refine .z zg (.nil ?_)
  refine .seq (.draw mix rfl hs ?_); intro w hs
  refine .z 0 rfl (zfa fa_api_System_0) ?_; refine .y 1 rfl hs Tryz.isAgg3 ?_; refine .ys 2 rfl hs [_, _] Tryz.isAgg24 Tryz.sizeOf24 ?_
  refine .e1 (i := 3) (by kernel_rfl) rfl rfl .none hs ?_
  refine .call Tryz.call172 rfl (bound_steps_spec (s := s) hs hok ⟨u, by rw [hN], hr⟩) ?_; rintro _ w ⟨H1, b10, hle1, rfl, hit, hs⟩
  refine .go ?_
  refine .e1 (i := 4) (by kernel_rfl) rfl rfl .none hs ?_
  refine .call Tryz.call171 rfl (bound_nearest_spec hs (by omega) hoka hit Tryz.call196) ?_; rintro _ w ⟨H2, bc, bb, st, ov, vo, hle2, rfl, hov, hnr, hs⟩
  obtain ⟨a', rfl, ha'⟩ := hov.ptr
  refine .go ?_
  refine .z 5 rfl zm ?_; refine .z 6 rfl zex ?_; refine .z 7 rfl zex ?_; refine .z 8 rfl zex ?_; refine .z 9 rfl zg ?_; refine .z 10 rfl zg ?_; refine .z 11 rfl zg ?_; refine .done (by kernel_rfl) hs ?_
  refine .regSeq (.z zm ?_)
  refine .q hs (q_eqPN rfl rfl Tryz.runUnderlying189) ?_
  refine .z zg (.nil ?_)
  refine .ret (Fin.ret1 Tryz.results114 rfl ?_)
  refine ⟨H2, _, hle1.trans hle2, rfl, ?_, hs.out⟩
  obtain ⟨r, hN2, hr2⟩ := hnr
  cases ov with
  | none =>
    rw [ha']
    exact ⟨fun _ => ⟨_, (hN2.sol hoka (by omega)).1⟩, fun _ => rfl⟩
  | some x =>
    rw [ha']
    exact ⟨fun h => (by cases h), fun h => (hN2.none hoka (by omega) (by have := hr2 (by simp); omega) h).elim⟩
end Go.Proofs.YtiiokdeehlfeeaaGreat

namespace Go.Proofs.YtiiokdeehlfeeaaGreat
open Go.MW
theorem math_bits_Mul64_one {H : Heap} {w : World} {σ : List Ent} {c : Int} (hs : St H w σ) (hc : 0 ≤ c ∧ c < 4294967296) : Cl Tryz.prog 210 [.int .u64 1, .int .u64 c] w fun v w' => v = .tuple #[.int .u64 0, .int .u64 c] ∧ St H w' σ := by
  refine Cl.of Tryz.func210 rfl Tryz.ntmps210 (by simp) (args_cons (k := 0) rfl (args_cons (k := 1) rfl (args0))) ?_
  refine .regSeq (.z zg (.z zg (.nil (.regSeq (.z zm ?_)))))
  first | refine .q hs (q_low rfl rfl ⟨by omega, by omega⟩) ?_ | refine .q hs (q_bits rfl rfl) ?_
  refine .z zg (.nil (.regSeq (.z zm ?_)))
  first | refine .q hs (q_high rfl rfl ⟨by omega, by omega⟩) ?_ | refine .q hs (q_shr rfl rfl (by decide)) ?_
  refine .z zg (.nil (.regSeq (.z zm ?_)))
  first | refine .q hs (q_low rfl rfl ⟨by omega, by omega⟩) ?_ | refine .q hs (q_bits rfl rfl) ?_
  refine .z zg (.nil (.regSeq (.z zm ?_)))
  first | refine .q hs (q_high rfl rfl ⟨by omega, by omega⟩) ?_ | refine .q hs (q_shr rfl rfl (by decide)) ?_
  refine .z zg (.nil (.regSeq (.z zm (.z zm (.z zmul (.z zg (.nil (.regSeq (.z zm ?_)))))))))
  refine .z zm (.z zmul (.z zm ?_))
  first | refine .q hs (q_high rfl rfl ⟨by omega, by omega⟩) ?_ | refine .q hs (q_shr rfl rfl (by decide)) ?_
  refine .z zadd (.z zg (.nil (.regSeq (.z zm ?_))))
  first | refine .q hs (q_low rfl rfl ⟨by omega, by omega⟩) ?_ | refine .q hs (q_bits rfl rfl) ?_
  refine .z zg (.nil (.regSeq (.z zm ?_)))
  first | refine .q hs (q_high rfl rfl ⟨by omega, by omega⟩) ?_ | refine .q hs (q_shr rfl rfl (by decide)) ?_
  refine .z zg (.nil (.regSeq (.z zm (.z zm (.z zm (.z zmul (.z zadd (.z zg (.nil ?_)))))))))
  refine .regSeq (.z zm (.z zm (.z zmul (.z zm (.z zadd (.z zm ?_))))))
  first | refine .q hs (q_high rfl rfl ⟨by omega, by omega⟩) ?_ | refine .q hs (q_shr rfl rfl (by decide)) ?_
  refine .z zadd (.z zg (.nil (.regSeq (.z zm (.z zm (.z zmul (.z zg (.nil ?_))))))))
  refine .ret (Fin.ret2 Tryz.results210 rfl rfl ?_)
  exact ⟨by simp, hs⟩
theorem math_bits_Mul_one {H : Heap} {w : World} {σ : List Ent} {c : Int} (hs : St H w σ) (hc : 0 ≤ c ∧ c < 4294967296) : Cl Tryz.prog 197 [.int .u64 1, .int .u64 c] w fun v w' => v = .tuple #[.int .u64 0, .int .u64 c] ∧ St H w' σ := by
  refine Cl.of Tryz.func197 rfl Tryz.ntmps197 (by simp) (args_cons (k := 0) rfl (args_cons (k := 1) rfl (args0))) ?_
  refine .regSeq (.z zg (.z zg (.nil ?_)))
  refine .seq (.condF rfl rfl ?_)
  refine .skip ?_
  refine nT ?_
  refine .regSeq (.z zm (.z zm ?_))
  refine .o (.call Tryz.call210 rfl (math_bits_Mul64_one hs hc) ?_); rintro _ w ⟨rfl, hs⟩
  refine .z zm (.z zex (.z zex (.z zg (.z zg (.nil (.regSeq (.z zm (.z zm (.z zg ?_)))))))))
  refine .z zg (.nil ?_)
  refine .ret (Fin.ret2 Tryz.results197 rfl rfl ?_)
  exact ⟨rfl, hs⟩
theorem fill_step {c k : Nat} {z : Int} : let n := min k (c - k); (List.replicate k z ++ List.replicate (c - k) 0).take k ++ List.replicate n z ++ (List.replicate k z ++ List.replicate (c - k) 0).drop (k + n) = List.replicate (k + n) z ++ List.replicate (c - (k + n)) (0 : Int) := by
  intro n
  have hn : n ≤ c - k := Nat.min_le_right _ _
  have e0 : (List.replicate k z).length = k := by simp
  rw [List.take_left' e0]
  have e1 : (List.replicate k z ++ List.replicate (c - k) 0).drop (k + n) = List.replicate (c - (k + n)) (0 : Int) := by
    rw [show k + n = (List.replicate k z).length + n by simp, List.drop_append]
    simp
    omega
  rw [e1, List.replicate_append_replicate]
theorem slices_Repeat_int {H : Heap} {w : World} {σ : List Ent} {z : Int} {bx c : Nat} (hs : St H w σ) (hm : Mem σ (.blk bx (Is [z]))) (h1 : 1 ≤ c) (h2 : c ≤ 1000000) : Cl Tryz.prog 176 [.slice (some ⟨bx, 0, none⟩) 1 1, I c] w fun v w' => ∃ b, v = .slice (some ⟨b, 0, none⟩) c c ∧ St H w' (.blk b (Is (List.replicate c z)) :: σ) := by
  refine Cl.of Tryz.func176 rfl Tryz.ntmps176 (by simp) (args_cons (k := 0) rfl (args_cons (k := 1) rfl (args0))) ?_
  refine .regSeq (.z zg (.nil (.seq (.regSeq (.z zm (.z zlss (.nil ?_)))))))
  refine (.condD rfl (fun hc10 => ?_) (fun hc10 => ?_))
  · omega
  · refine .skip ?_
    refine nT ?_
    refine .regSeq (.z zm (.z (zlen Tryz.runUnderlying25) ?_))
    first | refine .q hs (q_convI rfl Tryz.runUnderlying3 Tryz.runUnderlying106 ⟨by omega, by omega⟩) ?_ | refine .q hs (q_convU rfl Tryz.runUnderlying3 Tryz.runUnderlying106 ⟨by omega, by omega⟩) ?_ | refine .q hs (q_conv rfl Tryz.runUnderlying3 Tryz.runUnderlying106) ?_
    refine .z zm ?_
    first | refine .q hs (q_convI rfl Tryz.runUnderlying3 Tryz.runUnderlying106 ⟨by omega, by omega⟩) ?_ | refine .q hs (q_convU rfl Tryz.runUnderlying3 Tryz.runUnderlying106 ⟨by omega, by omega⟩) ?_ | refine .q hs (q_conv rfl Tryz.runUnderlying3 Tryz.runUnderlying106) ?_
    refine .o (.call Tryz.call197 rfl (math_bits_Mul_one (c := c) hs (by omega)) ?_); rintro _ w ⟨rfl, hs⟩
    refine .z zm (.z zex (.z zex (.z zg (.z zg (.nil (.seq (.regSeq (.z zm (.z zgtr ?_)))))))))
    refine .z zm ?_
    refine .bifD (t' := 23) rfl (fun hb23 => ?_) (fun hb23 => ?_)
    · refine .gFs 2 2 false rfl rfl rfl ?_
      refine .z zpT (.nil ?_)
      refine (.condT rfl rfl ?_)
      first | omega | (simp at hc26; omega)
    · refine .gT rfl rfl ?_
      refine .z zm ?_
      refine .gT rfl rfl ?_
      refine .z zgtr (.z zpF (.nil ?_))
      refine (.condD rfl (fun hc26 => ?_) (fun hc26 => ?_))
      · first | omega | (simp at hc26; omega)
      · refine .skip ?_
        refine nT ?_
        refine .regSeq (.z zm ?_)
        first | refine .q hs (q_convI rfl Tryz.runUnderlying106 Tryz.runUnderlying3 ⟨by omega, by omega⟩) ?_ | refine .q hs (q_convU rfl Tryz.runUnderlying106 Tryz.runUnderlying3 ⟨by omega, by omega⟩) ?_ | refine .q hs (q_conv rfl Tryz.runUnderlying106 Tryz.runUnderlying3) ?_
        refine .o (.makeI c hs rfl rfl Tryz.runUnderlying25 Tryz.typeInfo3 rfl Tryz.sizeOf3 Tryz.zeroValue3 (by omega) ?_); intro b30 w hs
        refine .z zg (.nil (.regSeq (.z zm (.z zm ?_))))
        refine .o (.copyI (k := 1) (xs := List.replicate c 0) (zs := [z]) hs rfl rfl ⟨_, _, rfl⟩ Tryz.runUnderlying25 Tryz.sizeOf3 (by omega) rfl (first_own (xs := [z]) (.there hm) rfl rfl) (by simp; omega) ?_); intro w hs
        refine .z zg (.nil (.seq (.block ?_)))
        refine .loop (fun k : Nat => ⟨48, [], [(8, I k), (7, .slice (some ⟨b30, 0, none⟩) c c)]⟩) (fun k w => (1 ≤ k ∧ k ≤ c) ∧ St H w (.blk b30 (Is (List.replicate k z ++ List.replicate (c - k) 0)) :: σ)) (fun k => c - k) 1 (by repeat (first | exact .nil rfl rfl | refine .cons rfl ?_)) ⟨⟨by omega, by omega⟩, by
            have e : List.take 0 (List.replicate c (0 : Int)) ++ [z] ++ List.drop (0 + 1) (List.replicate c 0) = List.replicate 1 z ++ List.replicate (c - 1) 0 := by simp
            rw [e] at hs; exact hs⟩ ?_
        rintro k w ⟨⟨k1, k2⟩, hs⟩
        refine .seq (.regSeq (.z zm (.z zm (.z (zlen Tryz.runUnderlying25) (.z zlss (.nil ?_))))))
        refine (.condD rfl (fun hc37 => ?_) (fun hc37 => ?_))
        · refine .skip ?_
          refine nT ?_
          refine .block ?_
          refine .draw mix rfl hs ?_; intro w hs
          refine .z 0 rfl zm ?_; refine .z 1 rfl zm ?_; refine .z 2 rfl zm ?_
          refine .p (i := 3) rfl (by kernel_rfl) .none (q_sliceLI (k := k) rfl rfl Tryz.runUnderlying25 Tryz.sizeOf3 (by omega) (by omega)) ?_
          refine .z 4 rfl zm ?_; refine .z 5 rfl zm ?_
          refine .p (i := 6) rfl (by kernel_rfl) .none (q_sliceHI (k := k) rfl rfl Tryz.runUnderlying25 Tryz.sizeOf3 (by omega)) ?_
          refine .e1 (i := 7) (by kernel_rfl) rfl rfl .none hs ?_
          refine .copyI (k := min k (c - k)) (xs := List.replicate k z ++ List.replicate (c - k) 0) (zs := List.replicate (min k (c - k)) z) hs rfl rfl ⟨_, _, rfl⟩ Tryz.runUnderlying25 Tryz.sizeOf3 rfl (by simp) (first_own (xs := List.replicate k z ++ List.replicate (c - k) 0) .here (by rw [List.drop_zero, List.take_append_of_le_length (by simp; omega)]; simp) (by simp)) (by simp; omega) ?_; intro w hs
          refine .go ?_
          refine .z 8 rfl zadd ?_; refine .z 9 rfl zg ?_; refine .done (by kernel_rfl) hs ?_
          refine nB (nT ?_)
          exact ⟨k + min k (c - k), by repeat (first | exact .nil rfl rfl | refine .cons rfl ?_), ⟨⟨by omega, by omega⟩, by
              have e := fill_step (z := z) (c := c) (k := k)
              simp only [Nat.mul_one, Nat.zero_add] at hs
              rw [e] at hs; exact hs⟩, by omega⟩
        · refine .exit ?_
          refine xT (xT (xB (nT ?_)))
          refine .regSeq (.z zm (.z zg (.nil ?_)))
          refine .ret (Fin.ret1 Tryz.results176 rfl ?_)
          obtain rfl : k = c := by omega
          exact ⟨b30, rfl, by simpa using hs⟩
theorem slices_Clone_intN {H : Heap} {w : World} {σ : List Ent} {v : Value} {xs : List Int} (hs : St H w σ) (hr : RI H v xs) (hx : xs.length ≤ 17592186044416) : Cl Tryz.prog 81 [v] w fun u w' => ∃ en, (nnil v = true → nnil u = true) ∧ OwnS 1 u (Is xs) en ∧ St H w' (en :: σ) := by
  obtain ⟨a, c, rfl⟩ := RI.shape hr
  have hl := (RI.len hr).2.2
  refine Cl.of Tryz.func81 rfl Tryz.ntmps81 (by simp) (args_cons (k := 0) rfl (args0)) ?_
  refine .regSeq (.z zg (.nil (.seq (.regSeq (.z zm ?_)))))
  refine .q hs (q_eqSN rfl rfl Tryz.runUnderlying25) ?_
  refine .nil ?_
  refine (.cond rfl (fun hc4 => ?_) (fun hc4 => ?_))
  · refine .regSeq (.z zg (.nil ?_))
    refine .ret (rT (Fin.ret1 Tryz.results81 rfl ?_))
    obtain rfl : a = none := by simpa using hc4
    obtain rfl := hr.nilOf
    exact ⟨.nul, fun h => h, .nil 1 none, hs.nul⟩
  · refine .skip ?_
    refine nT ?_
    refine .regSeq ?_
    refine .o (.buildSlice (cells := []) hs bls_sl_int_0 rfl rfl ?_); intro b5 w hs
    refine .z zm ?_
    refine .o (.appendN (xs := []) (ys := Is xs) hs app_sl_int_int rfl rfl (.full rfl) (.ints hr) (by simp [Value.oneCell']) (fun l h => by simp at h; omega) ?_); intro v7 en7 w hnn hO hs
    refine .z zg (.nil ?_)
    refine .ret (Fin.ret1 Tryz.results81 rfl ?_)
    exact ⟨en7, fun _ => hnn rfl, hO, hs⟩
theorem slices_Clone_int {H : Heap} {w : World} {σ : List Ent} {v : Value} {xs : List Int} (hs : St H w σ) (hr : RI H v xs) (hx : xs.length ≤ 17592186044416) : Cl Tryz.prog 81 [v] w fun v w' => ∃ en, OwnS 1 v (Is xs) en ∧ St H w' (en :: σ) :=
  (slices_Clone_intN hs hr hx).mono fun _ _ ⟨en, _, h⟩ => ⟨en, h⟩
theorem slices_Reverse_step {H : Heap} {w : World} {σ : List Ent} {v : Value} {l : List Arc} {en : Ent} (hs : St H w (en :: σ)) (ho : OwnS 4 v (Arcs l) en) (hl : l.length ≤ 1000000) :
    Cl Tryz.prog 212 [v] w fun _ w' => ∃ en', OwnS 4 v (Arcs l.reverse) en' ∧ St H w' (en' :: σ) := by
  rcases ho with ⟨a, rfl, h2, rfl⟩ | ⟨b, len, cap, sp, rfl, rfl, h2, h3, h4⟩
  · obtain rfl : l = [] := by
      have := congrArg List.length h2
      rw [Arcs_length] at this
      exact List.length_eq_zero_iff.1 (by simp at this; omega)
    have hs := hs.tail
    refine Cl.of Tryz.func212 rfl Tryz.ntmps212 (by simp) (args_cons (k := 0) rfl (args0)) ?_
    refine .regSeq (.z zm (.z (zlen Tryz.runUnderlying188) (.z zsub (.z zg (.z zg (.nil (.block ?_)))))))
    refine .loop (fun _ : Unit => ⟨28, [], [(2, I 0), (3, I (-1))]⟩) (fun _ w => St H w σ) (fun _ => 0) () (by repeat (first | exact .nil rfl rfl | refine .cons rfl ?_)) hs ?_
    rintro _ w hs
    refine .seq (.regSeq (.z zm (.z zm (.z zlss (.nil ?_)))))
    refine (.condD rfl (fun hc9 => ?_) (fun hc9 => ?_))
    · omega
    · refine .exit ?_
      refine xT (xT (xB ?_))
      exact Fin.end0 Tryz.results212 ⟨.nul, .nil 4 a, hs.nul⟩
  obtain rfl : len = l.length := by rw [Arcs_length] at h2; omega
  refine Cl.of Tryz.func212 rfl Tryz.ntmps212 (by simp) (args_cons (k := 0) rfl (args0)) ?_
  refine .regSeq (.z zm (.z (zlen Tryz.runUnderlying188) (.z zsub (.z zg (.z zg (.nil (.block ?_)))))))
  refine .loop (fun p : Nat × List Arc => ⟨28, [], [(2, I p.1), (3, I ((l.length : Int) - 1 - p.1)), (0, .slice (some ⟨b, 0, none⟩) l.length cap)]⟩) (fun p w => (2 * p.1 ≤ l.length + 1 ∧ Turned l p.2 p.1) ∧ St H w (.blk b (Arcs p.2 ++ sp) :: σ)) (fun p => l.length - p.1) (0, l) (.cons rfl (.consI rfl (by simp) (.cons rfl (.nil rfl rfl)))) ⟨⟨by simp, .start l⟩, hs⟩ ?_
  rintro ⟨i, L⟩ w ⟨⟨h5, h6⟩, hs⟩
  dsimp only at h5 h6 hs ⊢
  have hL := h6.1
  refine .seq (.regSeq (.z zm (.z zm (.z zlss (.nil ?_)))))
  refine (.condD rfl (fun hc9 => ?_) (fun hc9 => ?_))
  · refine .skip ?_
    refine nT ?_
    refine .seq (.block ?_)
    refine .draw mix rfl hs ?_; intro w hs
    refine .z 0 rfl zm ?_; refine .z 1 rfl zm ?_; refine .z 2 rfl zm ?_; refine .z 3 rfl zm ?_; refine .z 4 rfl zm ?_; refine .z 5 rfl zm ?_
    refine .p (i := 6) rfl (by kernel_rfl) .none (q_ixOm (k := l.length - 1 - i) rfl rfl Tryz.runUnderlying188 Tryz.sizeOf197 (by omega) (by omega)) ?_
    refine .loads (i := 7) (vs := (ga L (l.length - 1 - i)).v) hs rfl (by kernel_rfl) .none rfl Tryz.isAgg197 Tryz.sizeOf197 ?_ (hv := Arcs_sub_sp (by omega) sp)
    refine .z 8 rfl zm ?_; refine .z 9 rfl zm ?_
    first | (refine .ixw 10 rfl hs Tryz.runUnderlying188 Tryz.sizeOf197 ?_; intro b24 o24 hc24) | refine .z 10 rfl (zixm Tryz.runUnderlying188 Tryz.sizeOf197) ?_
    refine .loads (i := 11) (vs := (ga L i).v) hs rfl (by kernel_rfl) .none rfl Tryz.isAgg197 Tryz.sizeOf197 ?_ (hv := Arcs_sub_sp (by omega) sp)
    first | (refine .ixw 12 rfl hs Tryz.runUnderlying188 Tryz.sizeOf197 ?_; intro b26 o26 hc26) | refine .z 12 rfl (zixm Tryz.runUnderlying188 Tryz.sizeOf197) ?_
    refine .e1 (i := 13) (by kernel_rfl) rfl rfl .none hs ?_
    refine .stores (vs := (ga L (l.length - 1 - i)).v) hs rfl rfl Tryz.sizeOf197 ?_ (by repeat constructor) (ble_Arcs_sp (by omega) sp) (setL_Arcs_sp (by omega) _ sp); intro w hs
    refine .go ?_
    refine .p (i := 14) rfl (by kernel_rfl) .none (q_ixOm (k := l.length - 1 - i) rfl rfl Tryz.runUnderlying188 Tryz.sizeOf197 (by omega) (by omega)) ?_
    refine .e1 (i := 15) (by kernel_rfl) rfl rfl .none hs ?_
    refine .stores (vs := (ga L i).v) hs rfl rfl Tryz.sizeOf197 ?_ (by repeat constructor) (ble_Arcs_sp (by simp; omega) sp) (setL_Arcs_sp (by simp; omega) _ sp); intro w hs
    refine .go ?_
    refine .done (by kernel_rfl) hs ?_
    refine nB (nT ?_)
    refine .region (.z zm (.z zadd (.z zm (.z zsub (.z zg (.z zg (.nil ?_)))))))
    refine nT ?_
    exact ⟨(i + 1, _), .cons rfl (.consI rfl (by push_cast; omega) (.cons rfl (.nil rfl rfl))), ⟨⟨by dsimp only; omega, h6.step (by omega)⟩, hs⟩, by dsimp only; omega⟩
  · refine .exit ?_
    refine xT (xT (xB ?_))
    rw [h6.done (by omega)] at hs
    exact Fin.end0 Tryz.results212 ⟨_, .inr ⟨b, l.length, cap, sp, rfl, rfl, by rw [Arcs_length]; simp, by rw [← h3]; simp [Arcs_length], h4⟩, hs⟩
end Go.Proofs.YtiiokdeehlfeeaaGreat

namespace Go.Proofs.YtiiokdeehlfeeaaGreat
open Go.MW
theorem bound_flow_rest_1_iter {H : Heap} {b1 bf bt bl cl : Nat} {s : Syst} {ts lf : List Int} {vl : Value} {sp : List Value} (hok : s.Ok) (hb : Row H b1 [.pointer (some ⟨bf, 0, none⟩)]) (hF : FlowH H bf s ts lf vl bt bl cl sp) (hlt : ts.length = s.lims.length) :
    ItA Tryz.prog 211 [.pointer (some ⟨b1, 0, none⟩)] H (resid s.arcs ts) := by
  intro l II Ix hmI hmX hy H0 σb0 σf w hle hI0 hs
  have hb0 : cellAt H0 b1 0 = some (.pointer (some ⟨bf, 0, none⟩)) := (hb.mono hle).at 0
  have hF0 := hF.mono hle
  have hsys := hF0.f.cells 0 [I s.many, vl]
  have hlen : s.arcs.length = ts.length := by simp [Syst.arcs, arcsOf_length, hlt]
  refine Cl.of Tryz.func211 rfl Tryz.ntmps211 (by simp) (args_cons (k := 0) rfl (args_cons (k := 1) rfl (args0))) ?_
  refine .regSeq ?_
  refine .o (.box hs rfl rfl ?_); intro b2 w hs
  refine .nil (.regSeq (.y hs (zld Tryz.isAgg171) (.z znc (.z (zfa fa_bound_flow_0) ?_))))
  refine .q hs (q_loadsR (vs := [I s.many, vl]) rfl Tryz.isAgg24 Tryz.sizeOf24 hsys) ?_
  refine .o (.call Tryz.call172 rfl (bound_steps_spec (s := s) hs hok ⟨vl, rfl, hF0.l⟩) ?_); rintro _ w ⟨H1, b8, hle1, rfl, hit, hs⟩
  refine .nil (.block ?_)
  refine .rangeFunc (gf := 196) (cap := [.pointer (some ⟨b8, 0, none⟩)]) (xs := s.arcs.map fun x : Arc => [Value.agg x.v.toArray]) (σb := .blk b2 [.func (.yield l) #[] #[]] :: σb0) (σf := σf) hs trivial rfl hit Tryz.call196 (by simp) rfl
    (I := fun k H' σb => ∃ σo, σb = .blk b2 [.func (.yield l) #[] #[]] :: σo ∧ HLe H0 H' ∧ II (preN s.arcs ts k) H' σo)
    (Ix := fun c H' σb => c = .ret ∧ ∃ σo, σb = .blk b2 [.func (.yield l) #[] #[]] :: σo ∧ HLe H0 H' ∧ Ix H' σo)
    (fun k _ _ σ g1 ⟨σo, g2, g3, g4⟩ => ⟨σo, g2, g3.trans g1, hmI _ _ _ _ g1 g4⟩) (fun c _ _ σ g1 ⟨g0, σo, g2, g3, g4⟩ => ⟨g0, σo, g2, g3.trans g1, hmX _ _ _ g1 g4⟩)
    ⟨σb0, rfl, hle1, by rw [preN_zero]; exact hmI _ _ _ _ hle1 hI0⟩ ?_ ?_ ?_
  · rintro l2 k hk H2 σb2 σf2 w hle2 ⟨σo, rfl, hle0, hIk⟩ hs ⟨rr, hrr⟩
    obtain ⟨x, hx⟩ := nth (l := s.arcs) (by simpa using hk)
    obtain ⟨c1, c2, c3, c4, c5, c6⟩ := hok.arcs.2 x (List.mem_of_getElem? hx)
    have hxk : (s.arcs.map fun x => [Value.agg x.v.toArray])[k] = [.agg x.v.toArray] := by rw [List.getElem_map]; rw [List.getElem?_eq_some_iff] at hx; obtain ⟨h1, h2⟩ := hx; rw [h2]
    rw [hxk]
    have hkt : k < ts.length := by rw [← hlen]; simpa using hk
    have hxl : x.l = (k : Int) := arcsOf_l hx
    obtain ⟨r1, r2, r3⟩ := resid_get (ts := ts) hx hkt
    refine .region ?_
    refine .o (.alloc hs Tryz.zeroValue197 rfl ?_); intro b3 w hs
    refine .o (.stores (vs := x.v) hs rfl rfl Tryz.sizeOf197 ?_); intro w hs
    refine .nil ?_
    refine nT ?_
    refine ⟨H2, .blk b3 x.v :: .blk b2 [.func (.yield l) #[] #[]] :: σo, HLe.refl _, hs, ?_⟩; rintro w σf2 - hs
    refine .block (.seq (.regSeq ?_))
    refine .y hs (zld Tryz.isAgg212) ?_
    refine .q hs (q_loads (vs := x.v) rfl Tryz.isAgg197 Tryz.sizeOf197) ?_
    have hyd := hy (preN s.arcs ts k) (by simpa using (List.getElem?_eq_some_iff.1 r1).1) H2 σo (.blk b3 x.v :: .blk b2 [.func (.yield l) #[] #[]] :: σf2) w (hle.trans hle0) hIk (St.deep (σ1 := σo) (St.deep (σ1 := .blk b3 x.v :: σo) (hs.perm (.swap _ _ _))))
    rw [map_at r1] at hyd
    refine .o (.yield (vs := [.agg x.v.toArray]) rfl rfl hyd ?_); rintro v12 w ⟨H3, σ3, hle3, hs, g3⟩
    obtain ⟨bb, rfl, gT, gF⟩ := yd_bool g3
    replace hs : St H3 w (.blk b3 x.v :: .blk b2 [.func (.yield l) #[] #[]] :: (σ3 ++ σf2)) := (St.shallow (σ1 := .blk b3 x.v :: σ3) (St.shallow (σ1 := σ3) hs)).perm (.swap _ _ _)
    refine .z znot (.nil ?_)
    refine (.cond rfl (fun hc13 => ?_) (fun hc13 => ?_))
    · refine .ret (rT (rB (?_)))
      exact ⟨H3, .blk b2 [.func (.yield l) #[] #[]] :: σ3, hle3, hs.tail, rfl, σ3, rfl, hle0.trans hle3, gF (by simpa using hc13)⟩
    · refine .skip ?_
      refine nT ?_
      refine .seq (.draw mix rfl hs ?_); intro w hs
      have hb3 : cellAt H3 b1 0 = some (.pointer (some ⟨bf, 0, none⟩)) := cellAt.mono hb0 (hle0.trans hle3)
      have hf3 : cellAt H3 bf 2 = some (.slice (some ⟨bt, 0, none⟩) ts.length ts.length) := ((hF0.mono (hle0.trans hle3)).f).at 2
      have ht3 : cellAt H3 bt k = some (I (gi ts k)) := ((hF0.mono (hle0.trans hle3)).t).at k (Is_gi hkt)
      have hI3 := gT (by simpa using hc13)
      refine .r (i := 0) hs rfl (by kernel_rfl) .none (q_loadR rfl Tryz.isAgg171 hb3) ?_
      refine .z 1 rfl znc ?_; refine .z 2 rfl (zfa fa_bound_flow_1) ?_; refine .y 3 rfl hs Tryz.isAgg25 ?_; refine .z 4 rfl (zfa fa_bound_step_3) ?_; refine .y 5 rfl hs Tryz.isAgg3 ?_
      refine .p (i := 6) rfl (by kernel_rfl) .none (q_ixO (k := k) rfl rfl Tryz.runUnderlying25 Tryz.sizeOf3 hxl hkt) ?_
      refine .r (i := 7) hs rfl (by kernel_rfl) .none (q_loadR rfl Tryz.isAgg3 ht3) ?_
      refine .z 8 rfl zgtr ?_; refine .z 9 rfl zm ?_
      refine .bifD (t' := 23) rfl (fun hb23 => ?_) (fun hb23 => ?_)
      · refine .y 10 rfl hs Tryz.isAgg212 ?_
        refine .z 11 rfl (zfa fa_bound_step_1) ?_; refine .y 12 rfl hs Tryz.isAgg3 ?_; refine .z 13 rfl (zfa fa_bound_step_0) ?_; refine .y 14 rfl hs Tryz.isAgg3 ?_; refine .z 15 rfl (zfa fa_bound_step_2) ?_; refine .y 16 rfl hs Tryz.isAgg3 ?_; refine .z 17 rfl zneg ?_; refine .z 18 rfl (zfa fa_bound_step_3) ?_; refine .y 19 rfl hs Tryz.isAgg3 ?_; refine .z 20 rfl (zbd [_, _, _, _] bld_bound_step) ?_
        refine .e1 (i := 21) (by kernel_rfl) rfl rfl (.some rfl rfl) hs ?_
        obtain ⟨r4, r5⟩ := r2 hb23
        have hyd := hy (preN s.arcs ts k + 1) (by simpa using (List.getElem?_eq_some_iff.1 r4).1) H3 σ3 (.blk b3 x.v :: .blk b2 [.func (.yield l) #[] #[]] :: σf2) w (hle.trans (hle0.trans hle3)) hI3 (St.deep (σ1 := σ3) (St.deep (σ1 := .blk b3 x.v :: σ3) (hs.perm (.swap _ _ _))))
        rw [map_at r4] at hyd
        refine .yield (vs := [.agg x.back.v.toArray]) rfl rfl hyd ?_; rintro v35 w ⟨H4, σ4, hle4, hs, g4⟩
        obtain ⟨bb4, rfl, gT4, gF4⟩ := yd_bool g4
        replace hs : St H4 w (.blk b3 x.v :: .blk b2 [.func (.yield l) #[] #[]] :: (σ4 ++ σf2)) := (St.shallow (σ1 := .blk b3 x.v :: σ4) (St.shallow (σ1 := σ4) hs)).perm (.swap _ _ _)
        refine .go ?_
        refine .z 22 rfl znot ?_; refine .z 23 rfl zpT ?_; refine .done (by kernel_rfl) hs ?_
        refine (.cond rfl (fun hc37 => ?_) (fun hc37 => ?_))
        · refine .ret (rB (?_))
          exact ⟨H4, .blk b2 [.func (.yield l) #[] #[]] :: σ4, hle3.trans hle4, hs.tail, rfl, σ4, rfl, hle0.trans (hle3.trans hle4), gF4 (by simpa using hc37)⟩
        · refine .skip ?_
          refine nB ?_
          exact ⟨H4, .blk b2 [.func (.yield l) #[] #[]] :: σ4, hle3.trans hle4, hs.tail, σ4, rfl, hle0.trans (hle3.trans hle4), by rw [r5]; exact gT4 (by simpa using hc37)⟩
      · refine .qF (i := 10) rfl (by kernel_rfl) rfl rfl ?_
        refine .qF (i := 11) rfl (by kernel_rfl) rfl rfl ?_
        refine .qF (i := 12) rfl (by kernel_rfl) rfl rfl ?_
        refine .qF (i := 13) rfl (by kernel_rfl) rfl rfl ?_
        refine .qF (i := 14) rfl (by kernel_rfl) rfl rfl ?_
        refine .qF (i := 15) rfl (by kernel_rfl) rfl rfl ?_
        refine .qF (i := 16) rfl (by kernel_rfl) rfl rfl ?_
        refine .qF (i := 17) rfl (by kernel_rfl) rfl rfl ?_
        refine .qF (i := 18) rfl (by kernel_rfl) rfl rfl ?_
        refine .qF (i := 19) rfl (by kernel_rfl) rfl rfl ?_
        refine .qF (i := 20) rfl (by kernel_rfl) rfl rfl ?_
        refine .qF (i := 21) rfl (by kernel_rfl) rfl rfl ?_
        refine .qF (i := 22) rfl (by kernel_rfl) rfl rfl ?_
        refine .z 23 rfl zpF ?_; refine .done (by kernel_rfl) hs ?_
        refine (.condF rfl rfl ?_)
        refine .skip ?_
        refine nB ?_
        exact ⟨H3, .blk b2 [.func (.yield l) #[] #[]] :: σ3, hle3, hs.tail, σ3, rfl, hle0.trans hle3, by rw [r3 hb23]; exact hI3⟩
  · rintro D H2 σb2 w hle2 ⟨σo, rfl, hle0, hIk⟩ hs
    refine nB ?_
    exact Fin.endD [D] [] hs.shallowD fun w hs => ⟨_, results0 Tryz.results211, H2, σo, hle0, hs, .inl (by simpa [preN_end hlen] using hIk)⟩
  · rintro D c H2 σb2 w hle2 ⟨rfl, σo, rfl, hle0, hx⟩ hs
    exact .ret (rB (Fin.retD [D] [] hs.shallowD fun w hs => ⟨_, results0 Tryz.results211, H2, σo, hle0, hs, .inr hx⟩))
theorem bound_flow_rest_spec {H : Heap} {w : World} {σ : List Ent} {bf bt bl cl : Nat} {s : Syst} {ts lf : List Int} {vl : Value} {sp : List Value} (hs : St H w σ) (hok : s.Ok) (hF : FlowH H bf s ts lf vl bt bl cl sp) (hlt : ts.length = s.lims.length) :
    Cl Tryz.prog 198 [.pointer (some ⟨bf, 0, none⟩)] w fun v w' => ∃ H1 b, HLe H H1 ∧ v = .func (.func 211) #[] #[.pointer (some ⟨b, 0, none⟩)] ∧ ItA Tryz.prog 211 [.pointer (some ⟨b, 0, none⟩)] H1 (resid s.arcs ts) ∧ St H1 w' σ := by
  refine Cl.of Tryz.func198 rfl Tryz.ntmps198 (by simp) (args_cons (k := 0) rfl (args0)) ?_
  refine .regSeq ?_
  refine .o (.box hs rfl rfl ?_); intro b1 w hs
  refine .z zg (.nil (.regSeq ?_))
  refine .q hs (q_makeFunc (f := []) (c := [_]) rfl rfl) ?_
  refine .z zg (.nil ?_)
  refine .ret (Fin.ret1 Tryz.results198 rfl ?_)
  obtain ⟨H1, g1, g2, hs⟩ := hs.publish .here
  exact ⟨H1, b1, g1, rfl, bound_flow_rest_1_iter hok g2 (hF.mono g1) hlt, hs⟩
theorem bound_flow_way_spec {H : Heap} {w : World} {σ : List Ent} {bf bt bl cl to : Nat} {s : Syst} {ts lf : List Int} {vl : Value} {sp : List Value} (hs : St H w σ) (hok : s.Ok) (hF : FlowH H bf s ts lf vl bt bl cl sp) (hlt : ts.length = s.lims.length) (hll : lf.length = s.n)
    (hD : ∃ p, Feas (resid s.arcs ts) p) (hto : to < s.n) (hpos : 0 < gi lf to) :
    Cl Tryz.prog 202 [.pointer (some ⟨bf, 0, none⟩), I to] w fun v w' => ∃ H1 p en, HLe H H1 ∧ OwnS 4 v (Arcs p) en ∧ St H1 w' (en :: σ) ∧ WayR s.n s.arcs ts lf p to := by
  obtain ⟨N, hN⟩ := Int.eq_ofNat_of_zero_le hok.m0
  have hN1 := hok.m1
  have hn : s.n = N + 1 := by simp [Syst.n, hN]
  have hoka := hok.arcs
  have hlen : s.arcs.length = ts.length := by simp [Syst.arcs, arcsOf_length, hlt]
  rw [hn] at hoka hll hto ⊢
  obtain ⟨D, hg⟩ := resid_WG (by omega) (by omega) hoka hlen hD
  have hf0 : cellAt H bf 0 = some (I (N : Int)) := by have := hF.f.at 0 (v := I s.many); rwa [hN] at this
  have hf3 : cellAt H bf 3 = some (.slice (some ⟨bl, 0, none⟩) lf.length cl) := hF.f.at 3
  refine Cl.of Tryz.func202 rfl Tryz.ntmps202 (by simp) (args_cons (k := 0) rfl (args_cons (k := 1) rfl (args0))) ?_
  refine .regSeq ?_
  refine .o (.box hs rfl rfl ?_); intro b2 w hs
  refine .z zg (.nil (.regSeq ?_))
  refine .o (.buildSlice (cells := [_]) hs bls_sl_int_1 rfl rfl ?_); intro b13 w hs
  refine .y hs (zld Tryz.isAgg171) (.z znc (.z (zfa fa_bound_flow_0) (.z (zfa fa_api_System_0) (.y hs (zld Tryz.isAgg3) (.z zadd ?_)))))
  refine .o (.call Tryz.call176 rfl (slices_Repeat_int (z := far) (c := N + 1) hs .here (by omega) (by omega)) ?_); rintro _ w ⟨bc, rfl, hs⟩
  refine .o (.alloc hs Tryz.zeroValue25 rfl ?_); intro b5 w hs
  refine .o (.store hs rfl rfl Tryz.sizeOf25 ?_); intro w hs
  refine .nil (.regSeq (.y hs (zld Tryz.isAgg171) (.z znc (.z (zfa fa_bound_flow_0) (.z (zfa fa_api_System_0) (.y hs (zld Tryz.isAgg3) (.z zadd ?_)))))))
  refine .o (.makeA (N + 1) hs rfl rfl Tryz.runUnderlying188 Tryz.typeInfo197 rfl Tryz.sizeOf197 Tryz.zeroValue197 (by omega) ?_); intro b27 w hs
  refine .o (.alloc hs Tryz.zeroValue188 rfl ?_); intro b6 w hs
  refine .o (.store hs rfl rfl Tryz.sizeOf188 ?_); intro w hs
  refine .nil (.seq (.regSeq (.y hs (zld Tryz.isAgg171) (.z znc (.z (zfa fa_bound_flow_2) (.y hs (zld Tryz.isAgg25) (.z (zlen Tryz.runUnderlying25) (.z zm (.nil ?_)))))))))
  refine .for (N := lf.length) (J := fun k fr w => fr = [(31, .slice (some ⟨bl, 0, none⟩) lf.length cl), (5, .pointer (some ⟨b5, 0, none⟩)), (6, .pointer (some ⟨b6, 0, none⟩)), (2, .pointer (some ⟨b2, 0, none⟩)), (1, I to)] ∧ ∃ st, WInit (N + 1) lf k st ∧   St H w (.blk b6 [.slice (some ⟨b27, 0, none⟩) (N + 1) (N + 1)] :: .blk b27 (Arcs st.by_) :: .blk b5 [.slice (some ⟨bc, 0, none⟩) (N + 1) (N + 1)] :: .blk bc (Is st.cost) :: .blk b2 [.pointer (some ⟨bf, 0, none⟩)] :: σ)) (by omega) ?_ ?_ ?_
  · exact .mk ⟨rfl, _, .start _ _, hs.sub (by repeat (first | exact Sub.refl _ | constructor | apply Sub.weaken))⟩
  · rintro k fr w hk ⟨rfl, st, hI, hs⟩
    have hck : cellAt H bl k = some (I (gi lf k)) := hF.d.at k (Is_get (gi_get hk) sp)
    have hlc := hI.lc
    have hlb := hI.lb
    have hkb : k < st.by_.length := by omega
    refine .block (.regSeq (.z zm ?_))
    first | (refine .ixv hs Tryz.runUnderlying25 Tryz.sizeOf3 ?_; intro b36 o36 hc36) | refine .z (zix Tryz.runUnderlying25 Tryz.sizeOf3) ?_
    refine .q hs (q_loadR rfl Tryz.isAgg3 hck) ?_
    refine .z zg (.z zg (.nil (.regSeq (.z zm (.z zlss (.nil ?_))))))
    refine (.condD rfl (fun hc39 => ?_) (fun hc39 => ?_))
    · refine .regSeq (.y hs (zld Tryz.isAgg25) (.z zm ?_))
      first | (refine .ixv hs Tryz.runUnderlying25 Tryz.sizeOf3 ?_; intro b42 o42 hc42) | refine .z (zix Tryz.runUnderlying25 Tryz.sizeOf3) ?_
      refine .o (.store hs rfl rfl Tryz.sizeOf3 ?_); intro w hs
      refine .nil (.region (.y hs (zld Tryz.isAgg188) (.z zm ?_)))
      first | (refine .ixw hs Tryz.runUnderlying188 Tryz.sizeOf197 ?_; intro b45 o45 hc45) | refine .z (zixm Tryz.runUnderlying188 Tryz.sizeOf197) ?_
      refine .z (zfa fa_bound_step_3) ?_
      refine .o (.store hs rfl rfl Tryz.sizeOf3 ?_ (by repeat constructor) (blt_Arcs hkb (by omega)) (Arcs_set3 hkb _)); intro w hs
      refine .nil ?_
      refine nB (nT ?_)
      exact .mk ⟨rfl, _, hI.take (by omega) hc39, hs⟩
    · refine .skip ?_
      refine nB (nT ?_)
      exact .mk ⟨rfl, _, hI.skip hc39, hs⟩
  · rintro fr w ⟨rfl, st0, hI0, hs⟩
    rw [hll] at hI0
    have hW0 := hI0.inv hg
    refine nT ?_
    refine .seq (.regSeq ?_)
    refine .o (.alloc hs Tryz.zeroValue4 rfl ?_); intro b9 w hs
    refine .o (.store hs rfl rfl Tryz.sizeOf4 ?_); intro w hs
    refine .nil (.block ?_)
    refine .loop (fun p : Nat × List Nat × Heap × BS × Bool => ⟨141, marks p.2.1, [(9, .pointer (some ⟨p.1, 0, none⟩)), (5, .pointer (some ⟨b5, 0, none⟩)), (6, .pointer (some ⟨b6, 0, none⟩)), (2, .pointer (some ⟨b2, 0, none⟩)), (1, I to)]⟩)
      (fun p w => HLe H p.2.2.1 ∧ (∃ j, WInv (N + 1) (resid s.arcs ts) (fun v => gi lf v < 0) D j p.2.2.2.2 p.2.2.2.1 ∧ (p.2.2.2.2 = false → j = (resid s.arcs ts).length)) ∧
        St p.2.2.1 w (.blk p.1 [.bool p.2.2.2.2] :: .blk b6 [.slice (some ⟨b27, 0, none⟩) (N + 1) (N + 1)] :: .blk b27 (Arcs p.2.2.2.1.by_) :: .blk b5 [.slice (some ⟨bc, 0, none⟩) (N + 1) (N + 1)] :: .blk bc (Is p.2.2.2.1.cost) :: .blk b2 [.pointer (some ⟨bf, 0, none⟩)] :: (mes p.2.1 ++ σ)))
      (fun p => 2 * WM (N + 1) D p.2.2.2.1 + (if p.2.2.2.2 = true then 1 else 0)) (b9, [], H, st0, true) (by repeat (first | exact .nil rfl rfl | refine .cons rfl ?_)) ⟨HLe.refl _, ⟨0, hW0, fun h => by cases h⟩, hs⟩ ?_
    rintro ⟨b9, Ds, H1, st, ag⟩ w ⟨hle1, ⟨j, hW, hj⟩, hs⟩
    dsimp only at hle1 hW hj hs ⊢
    have hlc := hW.lc
    have hlb := hW.lb
    refine .seq (.regSeq (.y hs (zld Tryz.isAgg4) (.nil ?_)))
    refine (.cond rfl (fun hc48 => ?_) (fun hc48 => ?_))
    · refine .skip ?_
      refine nT ?_
      refine .seq (.block (.regSeq ?_))
      subst hc48
      refine .o (.store hs rfl rfl Tryz.sizeOf4 ?_); intro w hs
      refine .nil (.regSeq (.y hs (zld Tryz.isAgg171) ?_))
      refine .o (.call Tryz.call198 rfl (bound_flow_rest_spec hs hok (hF.mono hle1) hlt) ?_); rintro _ w ⟨H2, b50, hle2, rfl, hit, hs⟩
      refine .nil (.block ?_)
      refine .rangeFunc (gf := 211) (cap := [.pointer (some ⟨b50, 0, none⟩)]) (xs := (resid s.arcs ts).map fun x : Arc => [Value.agg x.v.toArray])
        (σb := [.blk b9 [.bool false], .blk b6 [.slice (some ⟨b27, 0, none⟩) (N + 1) (N + 1)], .blk b27 (Arcs st.by_), .blk b5 [.slice (some ⟨bc, 0, none⟩) (N + 1) (N + 1)], .blk bc (Is st.cost), .blk b2 [.pointer (some ⟨bf, 0, none⟩)]]) (σf := mes Ds ++ σ) hs trivial rfl hit Tryz.call211 (by simp) rfl
        (I := fun k H' σb => HLe H2 H' ∧ ∃ st' ag, σb = [.blk b9 [.bool ag], .blk b6 [.slice (some ⟨b27, 0, none⟩) (N + 1) (N + 1)], .blk b27 (Arcs st'.by_), .blk b5 [.slice (some ⟨bc, 0, none⟩) (N + 1) (N + 1)], .blk bc (Is st'.cost), .blk b2 [.pointer (some ⟨bf, 0, none⟩)]] ∧
          WInv (N + 1) (resid s.arcs ts) (fun v => gi lf v < 0) D k ag st' ∧ WM (N + 1) D st' ≤ WM (N + 1) D st ∧ (ag = true → WM (N + 1) D st' < WM (N + 1) D st)) (Ix := fun _ _ _ => False)
        (by rintro k _ _ σ g1 ⟨g2, g3⟩; exact ⟨g2.trans g1, g3⟩) (fun _ _ _ _ _ h => h) ⟨HLe.refl _, st, false, rfl, hW.next, Nat.le_refl _, fun h => by cases h⟩ ?_ ?_ (fun D c H' σb w _ h _ => h.elim)
      · rintro l k hk H3 σb3 σf3 w hle3 ⟨hle23, st', ag, rfl, hW', hm1, hm2⟩ hs ⟨rr, hrr⟩
        obtain ⟨x, hx⟩ := nth (l := resid s.arcs ts) (by simpa using hk)
        obtain ⟨c1, c2, c3, c4, c5, c6⟩ := hg.ok x (List.mem_of_getElem? hx)
        rw [map_at hx]
        have hlc' := hW'.lc
        have hlb' := hW'.lb
        have lo1 := hW'.lo x.f c1
        have lo2 := hg.d1 x.f c1
        have hx3 : cellAt H3 bl x.t = some (I (gi lf x.t)) := ((hF.mono (hle1.trans (hle2.trans hle3))).d).at x.t (Is_get (gi_get (by omega)) sp)
        have hf33 : cellAt H3 bf 3 = some (.slice (some ⟨bl, 0, none⟩) lf.length cl) := cellAt.mono hf3 (hle1.trans (hle2.trans hle3))
        refine .region ?_
        refine .o (.alloc hs Tryz.zeroValue197 rfl ?_); intro b10 w hs
        refine .o (.stores (vs := x.v) hs rfl rfl Tryz.sizeOf197 ?_); intro w hs
        refine .nil ?_
        refine nT ?_
        refine ⟨H3, [.blk b10 x.v, .blk b9 [.bool ag], .blk b6 [.slice (some ⟨b27, 0, none⟩) (N + 1) (N + 1)], .blk b27 (Arcs st'.by_), .blk b5 [.slice (some ⟨bc, 0, none⟩) (N + 1) (N + 1)], .blk bc (Is st'.cost), .blk b2 [.pointer (some ⟨bf, 0, none⟩)]], HLe.refl _, hs, ?_⟩; rintro w σf4 - hs
        refine .block ?_
        refine .seq (.draw mix rfl hs ?_); intro w hs
        refine .y 0 rfl hs Tryz.isAgg25 ?_; refine .z 1 rfl (zfa fa_bound_step_0) ?_; refine .y 2 rfl hs Tryz.isAgg3 ?_
        first | (refine .ixv 3 rfl hs Tryz.runUnderlying25 Tryz.sizeOf3 ?_; intro b55 o55 hc55) | refine .z 3 rfl (zix Tryz.runUnderlying25 Tryz.sizeOf3) ?_
        refine .y 4 rfl hs Tryz.isAgg3 ?_; refine .z 5 rfl zlss ?_; refine .z 6 rfl zm ?_
        refine .bifD (t' := 58) rfl (fun hb58 => ?_) (fun hb58 => ?_)
        · refine .y 7 rfl hs Tryz.isAgg25 ?_; refine .z 8 rfl (zfa fa_bound_step_0) ?_; refine .y 9 rfl hs Tryz.isAgg3 ?_
          first | (refine .ixv 10 rfl hs Tryz.runUnderlying25 Tryz.sizeOf3 ?_; intro b62 o62 hc62) | refine .z 10 rfl (zix Tryz.runUnderlying25 Tryz.sizeOf3) ?_
          refine .y 11 rfl hs Tryz.isAgg3 ?_; refine .z 12 rfl (zfa fa_bound_step_2) ?_; refine .y 13 rfl hs Tryz.isAgg3 ?_; refine .z 14 rfl zadd ?_; refine .y 15 rfl hs Tryz.isAgg25 ?_; refine .z 16 rfl (zfa fa_bound_step_1) ?_; refine .y 17 rfl hs Tryz.isAgg3 ?_
          first | (refine .ixv 18 rfl hs Tryz.runUnderlying25 Tryz.sizeOf3 ?_; intro b70 o70 hc70) | refine .z 18 rfl (zix Tryz.runUnderlying25 Tryz.sizeOf3) ?_
          refine .y 19 rfl hs Tryz.isAgg3 ?_; refine .z 20 rfl zlss ?_; refine .z 21 rfl zpT ?_; refine .z 22 rfl zm ?_
          refine .bifD (t' := 74) rfl (fun hb74 => ?_) (fun hb74 => ?_)
          · refine .y 23 rfl hs Tryz.isAgg171 ?_; refine .z 24 rfl znc ?_; refine .z 25 rfl (zfa fa_bound_flow_2) ?_; refine .y 26 rfl hs Tryz.isAgg25 ?_; refine .z 27 rfl (zfa fa_bound_step_1) ?_; refine .y 28 rfl hs Tryz.isAgg3 ?_
            first | (refine .ixv 29 rfl hs Tryz.runUnderlying25 Tryz.sizeOf3 ?_; intro b81 o81 hc81) | refine .z 29 rfl (zix Tryz.runUnderlying25 Tryz.sizeOf3) ?_
            refine .y 30 rfl hs Tryz.isAgg3 ?_; refine .z 31 rfl zgeq ?_; refine .z 32 rfl zm ?_
            refine .bifD (t' := 84) rfl (fun hb84 => ?_) (fun hb84 => ?_)
            · refine .qF (i := 33) rfl (by kernel_rfl) rfl rfl ?_
              refine .qF (i := 34) rfl (by kernel_rfl) rfl rfl ?_
              refine .qF (i := 35) rfl (by kernel_rfl) rfl rfl ?_
              refine .qF (i := 36) rfl (by kernel_rfl) rfl rfl ?_
              refine .qF (i := 37) rfl (by kernel_rfl) rfl rfl ?_
              refine .qF (i := 38) rfl (by kernel_rfl) rfl rfl ?_
              refine .qF (i := 39) rfl (by kernel_rfl) rfl rfl ?_
              refine .qF (i := 40) rfl (by kernel_rfl) rfl rfl ?_
              refine .qF (i := 41) rfl (by kernel_rfl) rfl rfl ?_
              refine .z 42 rfl zpT ?_; refine .z 43 rfl zpT ?_; refine .done (by kernel_rfl) hs ?_
              refine (.condT rfl rfl ?_)
              refine .draw mix rfl hs ?_; intro w hs
              refine .y 0 rfl hs Tryz.isAgg25 ?_; refine .z 1 rfl (zfa fa_bound_step_1) ?_; refine .y 2 rfl hs Tryz.isAgg3 ?_; refine .y 3 rfl hs Tryz.isAgg188 ?_; refine .z 4 rfl (zfa fa_bound_step_1) ?_; refine .y 5 rfl hs Tryz.isAgg3 ?_; refine .y 6 rfl hs Tryz.isAgg25 ?_; refine .z 7 rfl (zfa fa_bound_step_0) ?_; refine .y 8 rfl hs Tryz.isAgg3 ?_
              first | (refine .ixv 9 rfl hs Tryz.runUnderlying25 Tryz.sizeOf3 ?_; intro b105 o105 hc105) | refine .z 9 rfl (zix Tryz.runUnderlying25 Tryz.sizeOf3) ?_
              refine .y 10 rfl hs Tryz.isAgg3 ?_; refine .z 11 rfl (zfa fa_bound_step_2) ?_; refine .y 12 rfl hs Tryz.isAgg3 ?_; refine .z 13 rfl zadd ?_
              refine .loads (i := 14) (vs := x.v) hs rfl (by kernel_rfl) .none rfl Tryz.isAgg197 Tryz.sizeOf197 ?_
              first | (refine .ixv 15 rfl hs Tryz.runUnderlying25 Tryz.sizeOf3 ?_; intro b111 o111 hc111) | refine .z 15 rfl (zix Tryz.runUnderlying25 Tryz.sizeOf3) ?_
              refine .e1 (i := 16) (by kernel_rfl) rfl rfl .none hs ?_
              refine .store hs rfl rfl Tryz.sizeOf3 ?_; intro w hs
              refine .go ?_
              first | (refine .ixw 17 rfl hs Tryz.runUnderlying188 Tryz.sizeOf197 ?_; intro b112 o112 hc112) | refine .z 17 rfl (zixm Tryz.runUnderlying188 Tryz.sizeOf197) ?_
              refine .e1 (i := 18) (by kernel_rfl) rfl rfl .none hs ?_
              refine .stores (vs := x.v) hs rfl rfl Tryz.sizeOf197 ?_; intro w hs
              refine .go ?_
              refine .e1 (i := 19) (by kernel_rfl) rfl rfl .none hs ?_
              refine .store hs rfl rfl Tryz.sizeOf4 ?_; intro w hs
              refine .go ?_
              refine .done (by kernel_rfl) hs ?_
              refine nB ?_
              have := hW'.less hg hx hb58 hb74
              exact ⟨H3, _, HLe.refl _, hs.tail, hle23, st'.rlx x, true, rfl, hW'.relax hg hx hb58 hb74, by omega, fun _ => by omega⟩
            · refine .y 33 rfl hs Tryz.isAgg25 ?_; refine .z 34 rfl (zfa fa_bound_step_0) ?_; refine .y 35 rfl hs Tryz.isAgg3 ?_
              first | (refine .ixv 36 rfl hs Tryz.runUnderlying25 Tryz.sizeOf3 ?_; intro b88 o88 hc88) | refine .z 36 rfl (zix Tryz.runUnderlying25 Tryz.sizeOf3) ?_
              refine .y 37 rfl hs Tryz.isAgg3 ?_; refine .z 38 rfl (zfa fa_bound_step_2) ?_; refine .y 39 rfl hs Tryz.isAgg3 ?_; refine .z 40 rfl zadd ?_; refine .z 41 rfl zlss ?_; refine .z 42 rfl zpF ?_; refine .z 43 rfl zpT ?_; refine .done (by kernel_rfl) hs ?_
              refine (.condD rfl (fun hc95 => ?_) (fun hc95 => ?_))
              · refine .draw mix rfl hs ?_; intro w hs
                refine .y 0 rfl hs Tryz.isAgg25 ?_; refine .z 1 rfl (zfa fa_bound_step_1) ?_; refine .y 2 rfl hs Tryz.isAgg3 ?_; refine .y 3 rfl hs Tryz.isAgg188 ?_; refine .z 4 rfl (zfa fa_bound_step_1) ?_; refine .y 5 rfl hs Tryz.isAgg3 ?_; refine .y 6 rfl hs Tryz.isAgg25 ?_; refine .z 7 rfl (zfa fa_bound_step_0) ?_; refine .y 8 rfl hs Tryz.isAgg3 ?_
                first | (refine .ixv 9 rfl hs Tryz.runUnderlying25 Tryz.sizeOf3 ?_; intro b105 o105 hc105) | refine .z 9 rfl (zix Tryz.runUnderlying25 Tryz.sizeOf3) ?_
                refine .y 10 rfl hs Tryz.isAgg3 ?_; refine .z 11 rfl (zfa fa_bound_step_2) ?_; refine .y 12 rfl hs Tryz.isAgg3 ?_; refine .z 13 rfl zadd ?_
                refine .loads (i := 14) (vs := x.v) hs rfl (by kernel_rfl) .none rfl Tryz.isAgg197 Tryz.sizeOf197 ?_
                first | (refine .ixv 15 rfl hs Tryz.runUnderlying25 Tryz.sizeOf3 ?_; intro b111 o111 hc111) | refine .z 15 rfl (zix Tryz.runUnderlying25 Tryz.sizeOf3) ?_
                refine .e1 (i := 16) (by kernel_rfl) rfl rfl .none hs ?_
                refine .store hs rfl rfl Tryz.sizeOf3 ?_; intro w hs
                refine .go ?_
                first | (refine .ixw 17 rfl hs Tryz.runUnderlying188 Tryz.sizeOf197 ?_; intro b112 o112 hc112) | refine .z 17 rfl (zixm Tryz.runUnderlying188 Tryz.sizeOf197) ?_
                refine .e1 (i := 18) (by kernel_rfl) rfl rfl .none hs ?_
                refine .stores (vs := x.v) hs rfl rfl Tryz.sizeOf197 ?_; intro w hs
                refine .go ?_
                refine .e1 (i := 19) (by kernel_rfl) rfl rfl .none hs ?_
                refine .store hs rfl rfl Tryz.sizeOf4 ?_; intro w hs
                refine .go ?_
                refine .done (by kernel_rfl) hs ?_
                refine nB ?_
                have := hW'.less hg hx hb58 hb74
                exact ⟨H3, _, HLe.refl _, hs.tail, hle23, st'.rlx x, true, rfl, hW'.relax hg hx hb58 hb74, by omega, fun _ => by omega⟩
              · refine .skip ?_
                refine nB ?_
                have := hW'.src x.t c2 (by omega)
                omega
          · refine .qF (i := 23) rfl (by kernel_rfl) rfl rfl ?_
            refine .qF (i := 24) rfl (by kernel_rfl) rfl rfl ?_
            refine .qF (i := 25) rfl (by kernel_rfl) rfl rfl ?_
            refine .qF (i := 26) rfl (by kernel_rfl) rfl rfl ?_
            refine .qF (i := 27) rfl (by kernel_rfl) rfl rfl ?_
            refine .qF (i := 28) rfl (by kernel_rfl) rfl rfl ?_
            refine .qF (i := 29) rfl (by kernel_rfl) rfl rfl ?_
            refine .qF (i := 30) rfl (by kernel_rfl) rfl rfl ?_
            refine .qF (i := 31) rfl (by kernel_rfl) rfl rfl ?_
            refine .qF (i := 32) rfl (by kernel_rfl) rfl rfl ?_
            refine .qF (i := 33) rfl (by kernel_rfl) rfl rfl ?_
            refine .qF (i := 34) rfl (by kernel_rfl) rfl rfl ?_
            refine .qF (i := 35) rfl (by kernel_rfl) rfl rfl ?_
            refine .qF (i := 36) rfl (by kernel_rfl) rfl rfl ?_
            refine .qF (i := 37) rfl (by kernel_rfl) rfl rfl ?_
            refine .qF (i := 38) rfl (by kernel_rfl) rfl rfl ?_
            refine .qF (i := 39) rfl (by kernel_rfl) rfl rfl ?_
            refine .qF (i := 40) rfl (by kernel_rfl) rfl rfl ?_
            refine .qF (i := 41) rfl (by kernel_rfl) rfl rfl ?_
            refine .qF (i := 42) rfl (by kernel_rfl) rfl rfl ?_
            refine .z 43 rfl zpF ?_; refine .done (by kernel_rfl) hs ?_
            refine (.condF rfl rfl ?_)
            refine .skip ?_
            refine nB ?_
            exact ⟨H3, _, HLe.refl _, hs.tail, hle23, st', ag, rfl, hW'.skip hx (fun h => hb74 h.2), hm1, hm2⟩
        · refine .qF (i := 7) rfl (by kernel_rfl) rfl rfl ?_
          refine .qF (i := 8) rfl (by kernel_rfl) rfl rfl ?_
          refine .qF (i := 9) rfl (by kernel_rfl) rfl rfl ?_
          refine .qF (i := 10) rfl (by kernel_rfl) rfl rfl ?_
          refine .qF (i := 11) rfl (by kernel_rfl) rfl rfl ?_
          refine .qF (i := 12) rfl (by kernel_rfl) rfl rfl ?_
          refine .qF (i := 13) rfl (by kernel_rfl) rfl rfl ?_
          refine .qF (i := 14) rfl (by kernel_rfl) rfl rfl ?_
          refine .qF (i := 15) rfl (by kernel_rfl) rfl rfl ?_
          refine .qF (i := 16) rfl (by kernel_rfl) rfl rfl ?_
          refine .qF (i := 17) rfl (by kernel_rfl) rfl rfl ?_
          refine .qF (i := 18) rfl (by kernel_rfl) rfl rfl ?_
          refine .qF (i := 19) rfl (by kernel_rfl) rfl rfl ?_
          refine .qF (i := 20) rfl (by kernel_rfl) rfl rfl ?_
          refine .z 21 rfl zpF ?_; refine .z 22 rfl zm ?_
          refine .qF (i := 23) rfl (by kernel_rfl) rfl rfl ?_
          refine .qF (i := 24) rfl (by kernel_rfl) rfl rfl ?_
          refine .qF (i := 25) rfl (by kernel_rfl) rfl rfl ?_
          refine .qF (i := 26) rfl (by kernel_rfl) rfl rfl ?_
          refine .qF (i := 27) rfl (by kernel_rfl) rfl rfl ?_
          refine .qF (i := 28) rfl (by kernel_rfl) rfl rfl ?_
          refine .qF (i := 29) rfl (by kernel_rfl) rfl rfl ?_
          refine .qF (i := 30) rfl (by kernel_rfl) rfl rfl ?_
          refine .qF (i := 31) rfl (by kernel_rfl) rfl rfl ?_
          refine .qF (i := 32) rfl (by kernel_rfl) rfl rfl ?_
          refine .qF (i := 33) rfl (by kernel_rfl) rfl rfl ?_
          refine .qF (i := 34) rfl (by kernel_rfl) rfl rfl ?_
          refine .qF (i := 35) rfl (by kernel_rfl) rfl rfl ?_
          refine .qF (i := 36) rfl (by kernel_rfl) rfl rfl ?_
          refine .qF (i := 37) rfl (by kernel_rfl) rfl rfl ?_
          refine .qF (i := 38) rfl (by kernel_rfl) rfl rfl ?_
          refine .qF (i := 39) rfl (by kernel_rfl) rfl rfl ?_
          refine .qF (i := 40) rfl (by kernel_rfl) rfl rfl ?_
          refine .qF (i := 41) rfl (by kernel_rfl) rfl rfl ?_
          refine .qF (i := 42) rfl (by kernel_rfl) rfl rfl ?_
          refine .z 43 rfl zpF ?_; refine .done (by kernel_rfl) hs ?_
          refine (.condF rfl rfl ?_)
          refine .skip ?_
          refine nB ?_
          exact ⟨H3, _, HLe.refl _, hs.tail, hle23, st', ag, rfl, hW'.skip hx (fun h => hb58 h.1), hm1, hm2⟩
      · rintro D3 H3 σb3 w hle3 ⟨hle23, st', ag, rfl, hW', hm1, hm2⟩ hs
        replace hs : St H3 w (.blk b9 [.bool ag] :: .blk b6 [.slice (some ⟨b27, 0, none⟩) (N + 1) (N + 1)] :: .blk b27 (Arcs st'.by_) :: .blk b5 [.slice (some ⟨bc, 0, none⟩) (N + 1) (N + 1)] :: .blk bc (Is st'.cost) :: .blk b2 [.pointer (some ⟨bf, 0, none⟩)] :: (mes (D3 :: Ds) ++ σ)) := St.deep (σ1 := [_, _, _, _, _, _]) hs
        rw [List.length_map] at hW'
        refine nB (nB (nT ?_))
        refine .regSeq (.y hs (zld Tryz.isAgg4) (.nil (.region ?_)))
        refine .o (.alloc hs Tryz.zeroValue4 rfl ?_); intro b9 w hs
        refine .o (.store hs rfl rfl Tryz.sizeOf4 ?_); intro w hs
        refine .nil ?_
        refine nT ?_
        exact ⟨(b9, D3 :: Ds, H3, st', ag), by repeat (first | exact .nil rfl rfl | refine .cons rfl ?_), ⟨hle1.trans (hle2.trans hle3), ⟨_, hW', fun _ => rfl⟩, hs.sub (by repeat (first | exact Sub.refl _ | constructor | apply Sub.weaken))⟩, by
            dsimp only
            cases ag with
            | false => simp; omega
            | true => have := hm2 rfl; simp; omega⟩
    · refine .exit ?_
      refine xT (xT (xB (nT ?_)))
      refine .seq (.regSeq ?_)
      subst hc48
      obtain rfl := hj rfl
      refine .y hs (zld Tryz.isAgg25) (.z zm ?_)
      first | (refine .ixv hs Tryz.runUnderlying25 Tryz.sizeOf3 ?_; intro b116 o116 hc116) | refine .z (zix Tryz.runUnderlying25 Tryz.sizeOf3) ?_
      refine .y hs (zld Tryz.isAgg3) (.z zeql (.nil ?_))
      refine (.condD rfl (fun hc118 => ?_) (fun hc118 => ?_))
      · refine .regSeq (.z zg (.nil ?_))
        refine .ret (rT (?_))
        refine Fin.retD Ds [_, _, _, _, _, _] hs fun w hs => ⟨_, results1 Tryz.results202 rfl, H1, [], .nul, hle1, .nil 4 none, (hs.sub (by repeat (first | exact Sub.refl _ | constructor | apply Sub.weaken))).nul, hW.none hg hc118⟩
      · refine .skip ?_
        refine nT ?_
        refine .regSeq (.z zg (.nil (.seq (.regSeq (.z zm (.z zg (.nil (.block ?_))))))))
        have hreach : gi st.cost to < far := by have := hW.top to hto; have e : far = 1152921504606846976 := rfl; omega
        obtain ⟨kk, cc, u, hbk, hroot, hkn, hk0, hcl, hway⟩ := hW.back hg hto hreach hpos
        refine .loop (fun p : Nat × Nat × Value × Ent => ⟨141, marks Ds, [(11, p.2.2.1), (12, I p.2.1), (6, .pointer (some ⟨b6, 0, none⟩))]⟩)
          (fun p w => p.1 ≤ kk ∧ (p.2.1 < N + 1 ∧ gi st.cost p.2.1 < far) ∧ OwnS 4 p.2.2.1 (Arcs (trail st.by_ to p.1)) p.2.2.2 ∧ (∃ d, Back st.by_ to p.1 d p.2.1) ∧ (∃ d, Back st.by_ p.2.1 (kk - p.1) d u) ∧
            St H1 w (p.2.2.2 :: .blk b9 [.bool false] :: .blk b6 [.slice (some ⟨b27, 0, none⟩) (N + 1) (N + 1)] :: .blk b27 (Arcs st.by_) :: .blk b5 [.slice (some ⟨bc, 0, none⟩) (N + 1) (N + 1)] :: .blk bc (Is st.cost) :: .blk b2 [.pointer (some ⟨bf, 0, none⟩)] :: (mes Ds ++ σ)))
          (fun p => kk - p.1) (0, to, .slice none 0 0, .nul) (by repeat (first | exact .nil rfl rfl | refine .cons rfl ?_)) ⟨Nat.zero_le _, ⟨hto, hreach⟩, .nil 4 none, ⟨0, .nil⟩, ⟨cc, hbk⟩, hs.nul⟩ ?_
        rintro ⟨i, v, v11, en⟩ w ⟨hik, ⟨hv1, hv2⟩, hO, ⟨d1, hb1⟩, ⟨d2, hb2⟩, hs⟩
        dsimp only at hik hv1 hv2 hO hb1 hb2 hs ⊢
        have hvb : v < st.by_.length := by omega
        refine .seq (.regSeq (.y hs (zld Tryz.isAgg188) (.z zm ?_)))
        first | (refine .ixw hs Tryz.runUnderlying188 Tryz.sizeOf197 ?_; intro b122 o122 hc122) | refine .z (zixm Tryz.runUnderlying188 Tryz.sizeOf197) ?_
        refine .z (zfa fa_bound_step_3) ?_
        refine .q hs (q_load rfl Tryz.isAgg3 (hv := (Arcs_get hvb (j := 3) (by omega)).trans rfl)) ?_
        refine .z zgeq (.nil ?_)
        refine (.condD rfl (fun hc125 => ?_) (fun hc125 => ?_))
        · refine .skip ?_
          refine nT ?_
          refine .seq (.block (.region (.z zm (.y hs (zld Tryz.isAgg188) (.z zm ?_)))))
          first | (refine .ixw hs Tryz.runUnderlying188 Tryz.sizeOf197 ?_; intro b134 o134 hc134) | refine .z (zixm Tryz.runUnderlying188 Tryz.sizeOf197) ?_
          refine .q hs (q_loads (vs := (ga st.by_ v).v) rfl Tryz.isAgg197 Tryz.sizeOf197 (hv := Arcs_sub hvb)) ?_
          refine .o (.buildSlice (cells := (ga st.by_ v).v) hs bls_sl_bound_step_1 rfl rfl ?_); intro b136 w hs
          refine .o (.append (ys := (ga st.by_ v).v) hs app_sl_bound_step_bound_step rfl rfl hO (.own .here rfl rfl) (by simp [Arc.v, Value.oneCell']) (fun l h => by rw [Arcs_length, trail_length] at h; omega) ?_); intro v137 en137 w hO2 hs
          refine .z zg (.nil ?_)
          refine nB (nT ?_)
          refine .region (.y hs (zld Tryz.isAgg188) (.z zm ?_))
          first | (refine .ixw hs Tryz.runUnderlying188 Tryz.sizeOf197 ?_; intro b128 o128 hc128) | refine .z (zixm Tryz.runUnderlying188 Tryz.sizeOf197) ?_
          refine .z (zfa fa_bound_step_0) ?_
          refine .q hs (q_load rfl Tryz.isAgg3 (hv := (Arcs_get hvb (j := 0) (by omega)).trans rfl)) ?_
          refine .z zg (.nil ?_)
          refine nT ?_
          obtain ⟨g1, g2⟩ := hcl v hv1 hv2 hc125
          obtain ⟨m, hm⟩ : ∃ m, kk - i = m + 1 := by
            refine ⟨kk - i - 1, ?_⟩
            rcases Nat.lt_or_ge i kk with h | h
            · omega
            · obtain e : kk - i = 0 := by omega
              rw [e] at hb2
              cases hb2
              omega
          rw [hm] at hb2
          obtain ⟨d3, hb3⟩ : ∃ d, Back st.by_ (ga st.by_ v).f m d u := by cases hb2 with | cons _ t => exact ⟨_, t⟩
          rw [← Arcs_snoc, ← trail_succ hb1] at hO2
          exact ⟨(i + 1, (ga st.by_ v).f, v137, en137), by repeat (first | exact .nil rfl rfl | refine .cons rfl ?_), ⟨by dsimp only; omega, ⟨g1, g2⟩, hO2, ⟨_, hb1.trans (.cons hc125 .nil)⟩, ⟨d3, by rw [show kk - (i + 1) = m by omega]; exact hb3⟩, hs.sub (by repeat (first | exact Sub.refl _ | constructor | apply Sub.weaken))⟩, by dsimp only; omega⟩
        · refine .exit ?_
          refine xT (xT (xB (nT ?_)))
          refine .regSeq ?_
          obtain rfl : i = kk := by
            rcases Nat.lt_or_ge i kk with h | h
            · obtain ⟨m, hm⟩ : ∃ m, kk - i = m + 1 := ⟨kk - i - 1, by omega⟩
              rw [hm] at hb2
              cases hb2 with
              | cons hl _ => omega
            · omega
          refine .z zm ?_
          refine .o (.call Tryz.call212 rfl (slices_Reverse_step hs hO (by rw [trail_length]; omega)) ?_); rintro v139 w ⟨en', hO', hs⟩
          refine .nil (.regSeq (.z zm (.z zg (.nil ?_))))
          refine .ret ?_
          refine Fin.retD Ds [_, _, _, _, _, _, _] hs fun w hs => ⟨_, results1 Tryz.results202 rfl, H1, _, en', hle1, hO', hs.sub (by repeat (first | exact Sub.refl _ | constructor | apply Sub.weaken)), hway _ rfl⟩
end Go.Proofs.YtiiokdeehlfeeaaGreat

namespace Go.Proofs.YtiiokdeehlfeeaaGreat
open Go.MW
theorem OfEs_lim {s : Syst} {x : Arc} (hok : s.Ok) (hx : OfEs s.arcs x) : ∃ (i : Nat) (l : Lim), s.lims[i]? = some l ∧ x.l = (i : Int) ∧ (l.A = (x.f : Int) ↔ fwd s.arcs x) ∧ i < s.lims.length := by
  obtain ⟨i, y, h1, h2⟩ := hx
  have hl := arcsOf_l h1
  have hlt : i < s.lims.length := by have := (List.getElem?_eq_some_iff.1 h1).1; simpa [Syst.arcs, arcsOf_length] using this
  obtain ⟨l, hl2⟩ := nth hlt
  have h3 := arcsOf_get hl2
  have h1' : (arcsOf s.lims)[i]? = some y := h1
  rw [h3] at h1'
  cases h1'
  obtain ⟨a1, a2, _⟩ := hok.arc (List.mem_of_getElem? hl2) i
  refine ⟨i, l, hl2, ?_, ?_, hlt⟩
  · rcases h2 with rfl | rfl <;> rfl
  · have hg : ga s.arcs i = l.arc i := by simp [ga, Syst.arcs, h3]
    have hxl : x.l.toNat = i := by rcases h2 with rfl | rfl <;> rfl
    unfold fwd
    rw [hxl, hg, ← a1]
    exact ⟨fun e => by exact_mod_cast e, fun e => by exact_mod_cast e⟩
theorem bound_flow_along_spec {H : Heap} {w : World} {σ : List Ent} {bf : Nat} {s : Syst} {vl vt vd : Value} {x : Arc} (hs : St H w σ) (hok : s.Ok) (hf : Row H bf [I s.many, vl, vt, vd]) (hl : RL H vl s.lims) (hx : OfEs s.arcs x) :
    Cl Tryz.prog 213 [.pointer (some ⟨bf, 0, none⟩), .agg x.v.toArray] w fun v w' => v = .bool (decide (fwd s.arcs x)) ∧ St H w' σ := by
  obtain ⟨i, l, hl1, hxl, hfw, hil⟩ := OfEs_lim hok hx
  have hf1 : cellAt H bf 1 = some vl := hf.at 1
  refine Cl.of Tryz.func213 rfl Tryz.ntmps213 (by simp) (args_cons (k := 0) rfl (args_cons (k := 1) rfl (args0))) ?_
  refine .regSeq ?_
  refine .o (.box hs rfl rfl ?_); intro b3 w hs
  refine .z zg (.nil ?_)
  refine .seq (.draw mix rfl hs ?_); intro w hs
  refine .z 0 rfl zm ?_; refine .z 1 rfl znc ?_; refine .z 2 rfl (zfa fa_bound_flow_0) ?_; refine .z 3 rfl (zfa fa_api_System_1) ?_; refine .y 4 rfl hs Tryz.isAgg22 ?_; refine .z 5 rfl (zfa fa_bound_step_3) ?_; refine .y 6 rfl hs Tryz.isAgg3 ?_
  refine .ixX (i := 7) hs rfl (by kernel_rfl) .none hl rfl rfl Tryz.runUnderlying22 Tryz.sizeOf157 hl1 hxl ?_; intro b12 o12 hc12
  have hA : cellAt H b12 o12 = some (I l.A) := hc12.get 0 rfl
  refine .z 8 rfl (zfa fa_api_Limit_0) ?_; refine .y 9 rfl hs Tryz.isAgg3 ?_; refine .z 10 rfl (zfa fa_bound_step_0) ?_; refine .y 11 rfl hs Tryz.isAgg3 ?_; refine .z 12 rfl zeql ?_; refine .z 13 rfl zg ?_; refine .done (by kernel_rfl) hs ?_
  refine .ret (Fin.ret1 Tryz.results213 rfl ?_)
  exact ⟨by simp only [decide_eq_decide.2 hfw], hs.out⟩
theorem bound_flow_send_spec {H : Heap} {w : World} {σ : List Ent} {bf bt bl cl u v : Nat} {s : Syst} {ts lf : List Int} {wt : Nat → Int} {vl vp : Value} {sp : List Value} {p : List Arc} (hs : St H w (.blk bt (Is ts) :: .blk bl (Is lf ++ sp) :: σ)) (hok : s.Ok)
    (hf : Row H bf [I s.many, vl, .slice (some ⟨bt, 0, none⟩) ts.length ts.length, .slice (some ⟨bl, 0, none⟩) lf.length cl]) (hl : RL H vl s.lims) (hp : RS H 4 vp (p.map Arc.v)) (hI : FInv s.n s.arcs wt ts lf) (hw : WayP s.arcs ts lf s.n p u v) (hpn : p ≠ []) (hpl : p.length < s.n) :
    Cl Tryz.prog 203 [.pointer (some ⟨bf, 0, none⟩), vp] w fun _ w' => St H w' (.blk bt (Is (pushes s.arcs (much s.arcs ts lf p u v) ts p)) :: .blk bl (Is (lfTo lf (much s.arcs ts lf p u v) u v) ++ sp) :: σ) := by
  have hN1 := hok.m1
  have hn65 : s.n ≤ 65 := by simp only [Syst.n]; have := hok.m0; omega
  have hnum : Numb s.arcs := fun i x hx => ⟨arcsOf_l hx, (hok.arcs.2 x (List.mem_of_getElem? hx)).2.2.2.2.2⟩
  have hlt := hI.lt
  have hll := hI.ll
  obtain ⟨m0, m1, m2, m3⟩ := much_pos hlt.symm hnum hw
  have hsu := hI.sg u hw.un
  have hsv := hI.sg v hw.vn
  have hun : u < lf.length := by rw [hll]; exact hw.un
  have hvn : v < lf.length := by rw [hll]; exact hw.vn
  obtain ⟨a, cap, hvp⟩ := hp.shape
  rw [List.length_map] at hvp
  subst hvp
  have hp0 : 0 < p.length := List.length_pos_iff.2 hpn
  obtain ⟨x0, hx0⟩ := nth hp0
  obtain ⟨x1, hx1⟩ := nth (l := p) (k := p.length - 1) (by omega)
  have hh := hw.ch.head hx0
  have hla := hw.ch.last hx1
  have hf2 : cellAt H bf 2 = some (.slice (some ⟨bt, 0, none⟩) ts.length ts.length) := hf.at 2
  have hf3 : cellAt H bf 3 = some (.slice (some ⟨bl, 0, none⟩) lf.length cl) := hf.at 3
  have hix : ∀ x ∈ p, OfEs s.arcs x ∧ x.l.toNat < ts.length ∧ x.l = (x.l.toNat : Int) := fun x hx => by
    obtain ⟨g1, g2, _⟩ := of_resid hlt.symm hnum (hw.mem x hx)
    obtain ⟨i, l, _, g3, _⟩ := OfEs_lim hok g1
    exact ⟨g1, g2, by rw [g3]; simp⟩
  simp only [FF] at hsu hsv
  have huv : v ≠ u := fun e => by have := hw.lu; have := hw.lv; rw [e] at *; omega
  have htt : ∀ i < ts.length, 0 ≤ gi ts i ∧ gi ts i ≤ 3600000000000 := fun i hi => by
    have h1 := hI.nn i (by omega)
    have h2 := hI.tb i (by omega)
    have h3 : 0 ≤ rem s.n lf := sumTo_nonneg fun v _ => by omega
    simp only [FF] at h2
    omega
  have hM : much s.arcs ts lf p u v = least s.arcs ts (min (-gi lf u) (gi lf v)) p := rfl
  generalize much s.arcs ts lf p u v = M at *
  have hgv : gi (lf.set u (gi lf u + M)) v = gi lf v := by rw [gi_set hun, if_neg huv]
  refine Cl.of Tryz.func203 rfl Tryz.ntmps203 (by simp) (args_cons (k := 0) rfl (args_cons (k := 1) rfl (args0))) ?_
  refine .seq (.draw mix rfl hs ?_); intro w hs
  refine .z 0 rfl zm ?_
  refine .ixX (i := 1) hs rfl (by kernel_rfl) .none hp rfl rfl Tryz.runUnderlying188 Tryz.sizeOf197 hx0 rfl ?_; intro b12 o12 hc12
  have h14 : cellAt H b12 (o12 + 0) = some (I u) := by rw [← hh]; exact hc12.get 0 rfl
  refine .z 2 rfl (zfa fa_bound_step_0) ?_; refine .y 3 rfl hs Tryz.isAgg3 ?_; refine .z 4 rfl zm ?_; refine .z 5 rfl zm ?_; refine .z 6 rfl (zlen Tryz.runUnderlying188) ?_; refine .z 7 rfl zsub ?_
  refine .ixX (i := 8) hs rfl (by kernel_rfl) .none hp rfl rfl Tryz.runUnderlying188 Tryz.sizeOf197 hx1 (by omega) ?_; intro b19 o19 hc19
  have h21 : cellAt H b19 (o19 + 1) = some (I v) := by rw [← hla]; exact hc19.get 1 rfl
  refine .z 9 rfl (zfa fa_bound_step_1) ?_; refine .y 10 rfl hs Tryz.isAgg3 ?_; refine .z 11 rfl zg ?_; refine .z 12 rfl zg ?_; refine .done (by kernel_rfl) hs ?_
  refine .seq (.draw mix rfl hs ?_); intro w hs
  refine .z 0 rfl zm ?_; refine .z 1 rfl znc ?_; refine .z 2 rfl (zfa fa_bound_flow_2) ?_; refine .y 3 rfl hs Tryz.isAgg25 ?_; refine .z 4 rfl zm ?_
  first | (refine .ixv 5 rfl hs Tryz.runUnderlying25 Tryz.sizeOf3 ?_; intro b27 o27 hc27) | refine .z 5 rfl (zix Tryz.runUnderlying25 Tryz.sizeOf3) ?_
  refine .load (i := 6) hs rfl (by kernel_rfl) .none rfl Tryz.isAgg3 ?_ (hv := Is_gi_sp hun sp)
  refine .z 7 rfl zneg ?_; refine .z 8 rfl zm ?_; refine .z 9 rfl znc ?_; refine .z 10 rfl (zfa fa_bound_flow_2) ?_; refine .y 11 rfl hs Tryz.isAgg25 ?_; refine .z 12 rfl zm ?_
  first | (refine .ixv 13 rfl hs Tryz.runUnderlying25 Tryz.sizeOf3 ?_; intro b35 o35 hc35) | refine .z 13 rfl (zix Tryz.runUnderlying25 Tryz.sizeOf3) ?_
  refine .load (i := 14) hs rfl (by kernel_rfl) .none rfl Tryz.isAgg3 ?_ (hv := Is_gi_sp hvn sp)
  refine .z 15 rfl zmin ?_; refine .z 16 rfl zg ?_; refine .done (by kernel_rfl) hs ?_
  refine .seq (.regSeq (.z zm (.z (zlen Tryz.runUnderlying188) (.z zm (.nil ?_)))))
  refine .for (N := p.length) (J := fun k fr w => fr = [(38, .slice a p.length cap), (6, I (least s.arcs ts (min (-gi lf u) (gi lf v)) (p.take k))), (0, .pointer (some ⟨bf, 0, none⟩)), (1, .slice a p.length cap), (4, I u), (5, I v)] ∧   St H w (.blk bt (Is ts) :: .blk bl (Is lf ++ sp) :: σ)) (by omega) ?_ ?_ ?_
  · exact .mk ⟨rfl, hs⟩
  · rintro k fr w hk ⟨rfl, hs⟩
    obtain ⟨x, hx⟩ := nth hk
    obtain ⟨g1, g2, g3⟩ := hix x (List.mem_of_getElem? hx)
    refine .block (.regSeq ?_)
    refine .ixX hs hp rfl rfl Tryz.runUnderlying188 Tryz.sizeOf197 hx rfl ?_; intro b42 o42 hc42
    refine .q hs (q_loadsR (vs := x.v) rfl Tryz.isAgg197 Tryz.sizeOf197 hc42) ?_
    refine .o (.alloc hs Tryz.zeroValue197 rfl ?_); intro b8 w hs
    refine .o (.stores (vs := x.v) hs rfl rfl Tryz.sizeOf197 ?_); intro w hs
    refine .nil (.regSeq (.z zm ?_))
    refine .q hs (q_loads (vs := x.v) rfl Tryz.isAgg197 Tryz.sizeOf197) ?_
    refine .o (.call Tryz.call213 rfl (bound_flow_along_spec hs hok hf hl g1) ?_); rintro _ w ⟨rfl, hs⟩
    refine .z znot (.nil ?_)
    refine (.cond rfl (fun hc47 => ?_) (fun hc47 => ?_))
    · refine .draw mix rfl hs ?_; intro w hs
      refine .z 0 rfl zm ?_; refine .z 1 rfl zm ?_; refine .z 2 rfl znc ?_; refine .z 3 rfl (zfa fa_bound_flow_1) ?_; refine .y 4 rfl hs Tryz.isAgg25 ?_; refine .z 5 rfl (zfa fa_bound_step_3) ?_; refine .y 6 rfl hs Tryz.isAgg3 ?_
      refine .p (i := 7) rfl (by kernel_rfl) .none (q_ixO (k := x.l.toNat) rfl rfl Tryz.runUnderlying25 Tryz.sizeOf3 g3 g2) ?_
      refine .y 8 rfl hs Tryz.isAgg3 ?_; refine .z 9 rfl zmin ?_; refine .z 10 rfl zg ?_; refine .done (by kernel_rfl) hs ?_
      refine nB (nT ?_)
      have e : min (least s.arcs ts (min (-gi lf u) (gi lf v)) (p.take k)) (gi ts x.l.toNat) = least s.arcs ts (min (-gi lf u) (gi lf v)) (p.take (k + 1)) := by rw [take_snoc hx, least_snoc, if_neg (by simpa using hc47)]
      exact .mk ⟨rfl, hs.tail⟩ (hs := .cons rfl (.cons rfl (.cons rfl (.consI rfl e (.cons rfl (.cons rfl (.cons rfl (.cons rfl (.nil rfl rfl)))))))))
    · refine .skip ?_
      refine nB (nT ?_)
      have e : least s.arcs ts (min (-gi lf u) (gi lf v)) (p.take k) = least s.arcs ts (min (-gi lf u) (gi lf v)) (p.take (k + 1)) := by rw [take_snoc hx, least_snoc, if_pos (by simpa using hc47)]
      exact .mk ⟨rfl, hs.tail⟩ (hs := .cons rfl (.cons rfl (.cons rfl (.consI rfl e (.cons rfl (.cons rfl (.cons rfl (.cons rfl (.nil rfl rfl)))))))))
  · rintro fr w ⟨rfl, hs⟩
    have e6 : least s.arcs ts (min (-gi lf u) (gi lf v)) (List.take p.length p) = M := by rw [List.take_length]; exact hM.symm
    rw [e6]
    refine nT ?_
    refine .seq (.regSeq (.z zm (.z (zlen Tryz.runUnderlying188) (.z zm (.nil ?_)))))
    refine .for (N := p.length) (J := fun k fr w => fr = [(59, .slice a p.length cap), (6, I M), (0, .pointer (some ⟨bf, 0, none⟩)), (1, .slice a p.length cap), (4, I u), (5, I v)] ∧   St H w (.blk bt (Is (pushes s.arcs M ts (p.take k))) :: .blk bl (Is lf ++ sp) :: σ)) (by omega) ?_ ?_ ?_
    · exact .mk ⟨rfl, hs⟩
    · rintro k fr w hk ⟨rfl, hs⟩
      obtain ⟨x, hx⟩ := nth hk
      obtain ⟨g1, g2, g3⟩ := hix x (List.mem_of_getElem? hx)
      have hpl2 := pushes_length s.arcs M (p.take k) ts
      have hbd := pushes_bd (es := s.arcs) (m := M) (ts := ts) (p := p.take k) (by omega) (by simp only [FF]; omega) (by rw [List.length_take]; omega) (fun y hy => (hix y (List.mem_of_mem_take hy)).2.1) x.l.toNat
      have h9 := htt _ g2
      refine .block (.regSeq ?_)
      refine .ixX hs hp rfl rfl Tryz.runUnderlying188 Tryz.sizeOf197 hx rfl ?_; intro b63 o63 hc63
      refine .q hs (q_loadsR (vs := x.v) rfl Tryz.isAgg197 Tryz.sizeOf197 hc63) ?_
      refine .o (.alloc hs Tryz.zeroValue197 rfl ?_); intro b10 w hs
      refine .o (.stores (vs := x.v) hs rfl rfl Tryz.sizeOf197 ?_); intro w hs
      refine .nil (.regSeq (.z zm ?_))
      refine .q hs (q_loads (vs := x.v) rfl Tryz.isAgg197 Tryz.sizeOf197) ?_
      refine .o (.call Tryz.call213 rfl (bound_flow_along_spec hs hok hf hl g1) ?_); rintro _ w ⟨rfl, hs⟩
      refine .nil ?_
      refine (.cond rfl (fun hc67 => ?_) (fun hc67 => ?_))
      · refine .draw mix rfl hs ?_; intro w hs
        refine .z 0 rfl zm ?_; refine .z 1 rfl znc ?_; refine .z 2 rfl (zfa fa_bound_flow_1) ?_; refine .y 3 rfl hs Tryz.isAgg25 ?_; refine .z 4 rfl (zfa fa_bound_step_3) ?_; refine .y 5 rfl hs Tryz.isAgg3 ?_
        refine .p (i := 6) rfl (by kernel_rfl) .none (q_ixO (k := x.l.toNat) rfl rfl Tryz.runUnderlying25 Tryz.sizeOf3 g3 g2) ?_
        refine .y 7 rfl hs Tryz.isAgg3 ?_; refine .z 8 rfl zm ?_; refine .z 9 rfl zadd ?_
        refine .p (i := 10) rfl (by kernel_rfl) .none (q_ixO (k := x.l.toNat) rfl rfl Tryz.runUnderlying25 Tryz.sizeOf3 g3 g2) ?_
        refine .e1 (i := 11) (by kernel_rfl) rfl rfl .none hs ?_
        refine .store hs rfl rfl Tryz.sizeOf3 ?_; intro w hs
        refine .go ?_
        refine .done (by kernel_rfl) hs ?_
        refine nB (nT ?_)
        have e : pushes s.arcs M ts (p.take (k + 1)) = (pushes s.arcs M ts (p.take k)).set x.l.toNat (gi (pushes s.arcs M ts (p.take k)) x.l.toNat + M) := by rw [take_snoc hx, pushes_snoc, push, if_pos (by simpa using hc67)]
        exact .mk ⟨rfl, by rw [e]; exact hs.tail⟩
      · refine .draw mix rfl hs ?_; intro w hs
        refine .z 0 rfl zm ?_; refine .z 1 rfl znc ?_; refine .z 2 rfl (zfa fa_bound_flow_1) ?_; refine .y 3 rfl hs Tryz.isAgg25 ?_; refine .z 4 rfl (zfa fa_bound_step_3) ?_; refine .y 5 rfl hs Tryz.isAgg3 ?_
        refine .p (i := 6) rfl (by kernel_rfl) .none (q_ixO (k := x.l.toNat) rfl rfl Tryz.runUnderlying25 Tryz.sizeOf3 g3 g2) ?_
        refine .y 7 rfl hs Tryz.isAgg3 ?_; refine .z 8 rfl zm ?_; refine .z 9 rfl zsub ?_
        refine .p (i := 10) rfl (by kernel_rfl) .none (q_ixO (k := x.l.toNat) rfl rfl Tryz.runUnderlying25 Tryz.sizeOf3 g3 g2) ?_
        refine .e1 (i := 11) (by kernel_rfl) rfl rfl .none hs ?_
        refine .store hs rfl rfl Tryz.sizeOf3 ?_; intro w hs
        refine .go ?_
        refine .done (by kernel_rfl) hs ?_
        refine nB (nT ?_)
        have e : pushes s.arcs M ts (p.take (k + 1)) = (pushes s.arcs M ts (p.take k)).set x.l.toNat (gi (pushes s.arcs M ts (p.take k)) x.l.toNat - M) := by rw [take_snoc hx, pushes_snoc, push, if_neg (by simpa using hc67)]
        exact .mk ⟨rfl, by rw [e]; exact hs.tail⟩
    · rintro fr w ⟨rfl, hs⟩
      rw [List.take_length] at hs
      refine nT ?_
      refine .regSeq (.z zm (.z znc (.z (zfa fa_bound_flow_2) (.y hs (zld Tryz.isAgg25) (.z zm ?_)))))
      first | (refine .ixv hs Tryz.runUnderlying25 Tryz.sizeOf3 ?_; intro b96 o96 hc96) | refine .z (zix Tryz.runUnderlying25 Tryz.sizeOf3) ?_
      refine .q hs (q_load rfl Tryz.isAgg3 (hv := Is_gi_sp hun sp)) ?_
      refine .z zm (.z zadd ?_)
      first | (refine .ixv hs Tryz.runUnderlying25 Tryz.sizeOf3 ?_; intro b100 o100 hc100) | refine .z (zix Tryz.runUnderlying25 Tryz.sizeOf3) ?_
      refine .o (.store hs rfl rfl Tryz.sizeOf3 ?_ (by repeat constructor) (blt_Is_sp hun sp) (Is_set_sp hun sp _)); intro w hs
      refine .nil (.region (.z zm (.z znc (.z (zfa fa_bound_flow_2) (.y hs (zld Tryz.isAgg25) (.z zm ?_))))))
      first | (refine .ixv hs Tryz.runUnderlying25 Tryz.sizeOf3 ?_; intro b106 o106 hc106) | refine .z (zix Tryz.runUnderlying25 Tryz.sizeOf3) ?_
      refine .q hs (q_load rfl Tryz.isAgg3 (hv := Is_gi_sp (by rw [List.length_set]; exact hvn) sp)) ?_
      refine .z zm (.z zsub ?_)
      first | (refine .ixv hs Tryz.runUnderlying25 Tryz.sizeOf3 ?_; intro b110 o110 hc110) | refine .z (zix Tryz.runUnderlying25 Tryz.sizeOf3) ?_
      refine .o (.store hs rfl rfl Tryz.sizeOf3 ?_ (by repeat constructor) (blt_Is_sp (by rw [List.length_set]; exact hvn) sp) (Is_set_sp (by rw [List.length_set]; exact hvn) sp _)); intro w hs
      refine .nil ?_
      exact Fin.end0 Tryz.results203 hs
end Go.Proofs.YtiiokdeehlfeeaaGreat

namespace Go.Proofs.YtiiokdeehlfeeaaGreat
open Go.MW
theorem left_step {w : List Int} {N k : Nat} (hw : w.length = N + 1) : gi (w.set 0 (-tailTo w k)) 0 - gi (w.set 0 (-tailTo w k)) (k + 1) = -tailTo w (k + 1) := by
  rw [gi_set (by omega), gi_set (by omega), if_pos rfl, if_neg (by omega)]
  simp only [tailTo, sumTo]; omega
theorem bound_sent_spec {H : Heap} {w : World} {σ : List Ent} {v vw : Value} {s : Syst} {ws : List Int} (hs : St H w σ) (hok : s.Ok) (hr : RSy H v s) (hrw : RI H vw ws) (hwl : ws.length = s.n) (hsz : SizedW ws) (hsnd : s.Sound) :
    Cl Tryz.prog 189 [v, vw] w fun v w' => (v = .tuple #[.pointer none, .bool false] ∧ OpenS s.arcs (wtOf ws s.n) s.n ∧ St H w' σ) ∨
      (∃ H1 bf bt bl cl ts lf vl sp, HLe H H1 ∧ v = .tuple #[.pointer (some ⟨bf, 0, none⟩), .bool true] ∧ FlowH H1 bf s ts lf vl bt bl cl sp ∧ FlowOk s.n s.arcs (wtOf ws s.n) ts ∧ St H1 w' σ) := by
  obtain ⟨vl, rfl, hr⟩ := hr
  obtain ⟨al, cpl, rfl⟩ := RL.shape hr
  obtain ⟨aw, cw, rfl⟩ := RI.shape hrw
  obtain ⟨N, hN⟩ := Int.eq_ofNat_of_zero_le hok.m0
  have hN1 := hok.m1
  have hn : s.n = N + 1 := by simp [Syst.n, hN]
  have hlim := hok.len
  have hoka := hok.arcs
  have hal : s.arcs.length = s.lims.length := by simp [Syst.arcs, arcsOf_length]
  have hnum : Numb s.arcs := fun i x hx => ⟨arcsOf_l hx, (hok.arcs.2 x (List.mem_of_getElem? hx)).2.2.2.2.2⟩
  have hin : ∀ x ∈ s.arcs, x.f < s.n ∧ x.t < s.n := fun x hx => by have := hoka.2 x hx; omega
  have hwt0 := wt_sum ws (n := s.n) (by omega)
  unfold SizedW at hsz
  rw [hwl] at hsz
  refine Cl.of Tryz.func189 rfl Tryz.ntmps189 (by simp) (args_cons (k := 0) rfl (args_cons (k := 1) rfl (args0))) ?_
  refine .regSeq ?_
  refine .o (.box hs rfl rfl ?_); intro b2 w hs
  refine .z zg (.z zg (.nil ?_))
  refine .scope ?_
  refine .cut (fun fs w => ∃ bf bt bl cl sp, FSub fs ⟨73, [], [(6, .pointer (some ⟨bf, 0, none⟩))]⟩ ∧ St H w (.blk bf [I s.many, .slice al s.lims.length cpl, .slice (some ⟨bt, 0, none⟩) s.lims.length s.lims.length, .slice (some ⟨bl, 0, none⟩) ws.length cl] :: .blk bt (Is (List.replicate s.lims.length 0)) :: .blk bl (Is ws ++ sp) :: σ)) ?_ ?_
  · refine .draw mix rfl hs ?_; intro w hs
    refine .ys 0 rfl hs [_, _] Tryz.isAgg24 Tryz.sizeOf24 ?_; refine .z 1 rfl (zfa fa_api_System_1) ?_; refine .y 2 rfl hs Tryz.isAgg22 ?_; refine .z 3 rfl (zlen Tryz.runUnderlying22) ?_; refine .z 5 rfl zm ?_
    refine .e2 (i := 4) (j := 6) (by kernel_rfl) rfl rfl rfl rfl .none .none hs ?_ ?_
    · refine .makeI s.lims.length hs rfl rfl Tryz.runUnderlying25 Tryz.typeInfo3 rfl Tryz.sizeOf3 Tryz.zeroValue3 (by omega) ?_; intro b15 w hs
      refine .go ?_
      refine .e1 (i := 6) (by kernel_rfl) rfl rfl .none hs ?_
      refine .call Tryz.call81 rfl (slices_Clone_int hs hrw (by omega)) ?_; rintro v17 w ⟨en17, hO, hs⟩
      obtain ⟨bl, cl, sp, rfl, rfl, hsp⟩ := hO.some (by omega)
      refine .go ?_
      refine .z 7 rfl (zbd [_, _, _, _] bld_bound_flow) ?_
      refine .e1 (i := 8) (by kernel_rfl) rfl rfl .none hs ?_
      refine .box hs rfl rfl ?_; intro b19 w hs
      refine .go ?_
      refine .z 9 rfl zg ?_; refine .done (by kernel_rfl) hs ?_
      exact nT ⟨b19, b15, bl, cl, sp, by repeat (first | exact .nil rfl rfl | refine .cons rfl ?_), hs.sub (by repeat (first | exact Sub.refl _ | constructor | apply Sub.weaken))⟩
    · refine .call Tryz.call81 rfl (slices_Clone_int hs hrw (by omega)) ?_; rintro v17 w ⟨en17, hO, hs⟩
      obtain ⟨bl, cl, sp, rfl, rfl, hsp⟩ := hO.some (by omega)
      refine .go ?_
      refine .e1 (i := 4) (by kernel_rfl) rfl rfl .none hs ?_
      refine .makeI s.lims.length hs rfl rfl Tryz.runUnderlying25 Tryz.typeInfo3 rfl Tryz.sizeOf3 Tryz.zeroValue3 (by omega) ?_; intro b15 w hs
      refine .go ?_
      refine .z 7 rfl (zbd [_, _, _, _] bld_bound_flow) ?_
      refine .e1 (i := 8) (by kernel_rfl) rfl rfl .none hs ?_
      refine .box hs rfl rfl ?_; intro b19 w hs
      refine .go ?_
      refine .z 9 rfl zg ?_; refine .done (by kernel_rfl) hs ?_
      exact nT ⟨b19, b15, bl, cl, sp, by repeat (first | exact .nil rfl rfl | refine .cons rfl ?_), hs.sub (by repeat (first | exact Sub.refl _ | constructor | apply Sub.weaken))⟩
  · rintro fs w ⟨bf, bt, bl, cl, sp, hfs, hs⟩
    refine WE.sub ?_ hfs
    obtain ⟨H1, hle1, hRf, hs⟩ := hs.publish .here
    have hf0 : cellAt H1 bf 0 = some (I (N : Int)) := by have := hRf.at 0 (v := I s.many); rwa [hN] at this
    have hf3 : cellAt H1 bf 3 = some (.slice (some ⟨bl, 0, none⟩) ws.length cl) := hRf.at 3
    have hrl := hr.mono hle1
    refine .regSeq (.z zm (.z znc (.z (zfa fa_bound_flow_2) (.y hs (zld Tryz.isAgg25) ?_))))
    refine .q hs (q_ixO (k := 0) rfl rfl Tryz.runUnderlying25 Tryz.sizeOf3 rfl (by omega)) ?_
    refine .o (.store hs rfl rfl Tryz.sizeOf3 ?_ (by repeat constructor) (blt_Is_sp (by omega) sp) (Is_set_sp (by omega) sp _)); intro w hs
    refine .nil (.seq (.regSeq (.z zm (.z znc (.z (zfa fa_bound_flow_0) (.z (zfa fa_api_System_0) (.y hs (zld Tryz.isAgg3) (.z zm (.nil ?_)))))))))
    refine .for (N := N) (J := fun k fr w => fr = [(6, .pointer (some ⟨bf, 0, none⟩))] ∧ St H1 w (.blk bt (Is (List.replicate s.lims.length 0)) :: .blk bl (Is (ws.set 0 (-tailTo ws k)) ++ sp) :: σ)) (by omega) ?_ ?_ ?_
    · exact .mk ⟨rfl, by simpa [tailTo, sumTo] using hs⟩
    · rintro k fr w hk ⟨rfl, hs⟩
      have e := left_step (w := ws) (N := N) (k := k) (by omega)
      have hb1 := tail_bound ws (k + 1)
      have hb2 : sizesTo ws (k + 1 + 1) ≤ sizesTo ws s.n := sumTo_mono (fun v => by omega) (by omega)
      simp only [FF] at hsz
      refine .block (.regSeq (.z zm (.z zg (.nil ?_))))
      refine .draw mix rfl hs ?_; intro w hs
      refine .z 0 rfl zm ?_; refine .z 1 rfl znc ?_; refine .z 2 rfl (zfa fa_bound_flow_2) ?_; refine .y 3 rfl hs Tryz.isAgg25 ?_
      refine .p (i := 4) rfl (by kernel_rfl) .none (q_ixO (k := 0) rfl rfl Tryz.runUnderlying25 Tryz.sizeOf3 rfl (by omega)) ?_
      refine .load (i := 5) hs rfl (by kernel_rfl) .none rfl Tryz.isAgg3 ?_ (hv := Is_gi_sp (by rw [List.length_set]; omega) sp)
      refine .z 6 rfl zm ?_; refine .z 7 rfl znc ?_; refine .z 8 rfl (zfa fa_bound_flow_2) ?_; refine .y 9 rfl hs Tryz.isAgg25 ?_; refine .z 10 rfl zm ?_; refine .z 11 rfl zadd ?_
      refine .p (i := 12) rfl (by kernel_rfl) .none (q_ixO (k := k + 1) rfl rfl Tryz.runUnderlying25 Tryz.sizeOf3 (by omega) (by omega)) ?_
      refine .load (i := 13) hs rfl (by kernel_rfl) .none rfl Tryz.isAgg3 ?_ (hv := Is_gi_sp (by rw [List.length_set]; omega) sp)
      refine .z 14 rfl zsub ?_
      refine .p (i := 15) rfl (by kernel_rfl) .none (q_ixO (k := 0) rfl rfl Tryz.runUnderlying25 Tryz.sizeOf3 rfl (by omega)) ?_
      refine .e1 (i := 16) (by kernel_rfl) rfl rfl .none hs ?_
      refine .store hs rfl rfl Tryz.sizeOf3 ?_ (by repeat constructor) (blt_Is_sp (by rw [List.length_set]; omega) sp) (Is_set_sp (by rw [List.length_set]; omega) sp _); intro w hs
      refine .go ?_
      refine .done (by kernel_rfl) hs ?_
      refine nB (nT ?_)
      rw [e, List.set_set] at hs
      exact .mk ⟨rfl, hs⟩
    · rintro fr w ⟨rfl, hs⟩
      have hI0 : FInv s.n s.arcs (wtOf ws s.n) (List.replicate s.lims.length 0) (ws.set 0 (-tailTo ws N)) := by
        rw [← hal, hn]
        rw [hn] at hsz
        refine FInv.start hsz (by rw [List.length_set]; omega) (fun v hv => ?_) hsnd
        rw [gi_set (by omega)]
        cases v with
        | zero => rw [if_pos rfl, wt_zero]
        | succ v => rw [if_neg (by omega), wt_succ]
      refine nT ?_
      refine .seq ?_
      refine .label ?_
      refine nT ?_
      refine .block ?_
      refine .loop (fun _ : Heap × List Int × List Int => ⟨73, [], [(6, .pointer (some ⟨bf, 0, none⟩))]⟩)
        (fun p w => HLe H1 p.1 ∧ FInv s.n s.arcs (wtOf ws s.n) p.2.1 p.2.2 ∧ St p.1 w (.blk bt (Is p.2.1) :: .blk bl (Is p.2.2 ++ sp) :: σ)) (fun p => (rem s.n p.2.2).toNat) (H1, List.replicate s.lims.length 0, ws.set 0 (-tailTo ws N))
        (by repeat (first | exact .nil rfl rfl | refine .cons rfl ?_)) ⟨HLe.refl _, hI0, hs⟩ ?_
      rintro ⟨H2, ts, lf⟩ w ⟨hle2, hI, hs⟩
      dsimp only at hle2 hI hs ⊢
      have hlt := hI.lt
      have hll := hI.ll
      have hRf2 : Row H2 bf [I s.many, .slice al s.lims.length cpl, .slice (some ⟨bt, 0, none⟩) ts.length ts.length, .slice (some ⟨bl, 0, none⟩) lf.length cl] := by
        rw [hlt, hal, hll, ← hwl]; exact hRf.mono hle2
      have hf32 : cellAt H2 bf 3 = some (.slice (some ⟨bl, 0, none⟩) lf.length cl) := hRf2.at 3
      refine .block (.seq (.regSeq (.z zm (.z znc (.z (zfa fa_bound_flow_2) (.y hs (zld Tryz.isAgg25) (.z (zlen Tryz.runUnderlying25) (.z zm (.nil ?_)))))))))
      refine .for (N := lf.length) (J := fun k fr w => fr = [(53, .slice (some ⟨bl, 0, none⟩) lf.length cl), (6, .pointer (some ⟨bf, 0, none⟩))] ∧ (∀ v < k, gi lf v ≤ 0) ∧ St H2 w (.blk bt (Is ts) :: .blk bl (Is lf ++ sp) :: σ)) (by omega) ?_ ?_ ?_
      · exact .mk ⟨rfl, fun v hv => by omega, hs⟩
      · rintro k fr w hk ⟨rfl, hle0, hs⟩
        refine .block (.regSeq (.z zm ?_))
        first | (refine .ixv hs Tryz.runUnderlying25 Tryz.sizeOf3 ?_; intro b58 o58 hc58) | refine .z (zix Tryz.runUnderlying25 Tryz.sizeOf3) ?_
        refine .q hs (q_load rfl Tryz.isAgg3 (hv := Is_gi_sp hk sp)) ?_
        refine .z zg (.z zg (.nil (.seq (.regSeq (.z zm (.z zleq (.nil ?_)))))))
        refine (.condD rfl (fun hc61 => ?_) (fun hc61 => ?_))
        · refine .exit ?_
          refine xT (xB (nT ?_))
          exact .mk ⟨rfl, fun v hv => by
              by_cases e : v = k
              · subst e; exact hc61
              · exact hle0 v (by omega), hs⟩
        · refine .skip ?_
          refine nT ?_
          refine .regSeq (.z zm (.z zm ?_))
          obtain ⟨Ha, hla, hra, hsa, -, hba⟩ := hs.lend
          obtain ⟨Hb, hlb, hrb, hsb, -, hbb⟩ := hsa.lend
          refine .o (.call Tryz.call202 rfl (bound_flow_way_spec (s := s) (to := k) hsb hok ⟨hRf2.mono (hla.trans hlb), hr.mono (hle1.trans (hle2.trans (hla.trans hlb))), hra.mono hlb, hrb⟩ (by omega) (by omega) hI.fe (by omega) (by omega)) ?_); rintro v64 w ⟨Hc, p, en, hlc, hO, hsc, hWR⟩
          have hs := hba (HLe.refl _) (hbb hlc hsc)
          obtain ⟨ap, lp, cp, rfl, hlp⟩ := hO.shape
          obtain rfl : lp = p.length := by rw [Arcs_length] at hlp; omega
          refine .z zg (.nil (.seq (.regSeq (.z zm (.z (zlen Tryz.runUnderlying188) (.z zeql (.nil ?_)))))))
          refine (.condD rfl (fun hc67 => ?_) (fun hc67 => ?_))
          · refine .regSeq (.z zg (.z zg (.nil ?_)))
            refine .ret (rT (rB (rT (rB (rT (rB (rT (rB (rS (Fin.ret2 Tryz.results189 rfl rfl ?_))))))))))
            rcases hWR with ⟨_, R, hS, hR, hto⟩ | ⟨hp, _⟩
            · exact .inl ⟨rfl, hI.open hin hS hR (by omega) hto (by omega), (hs.le (hle1.trans hle2)).out⟩
            · exact (hp (List.length_eq_zero_iff.1 (by omega))).elim
          · refine .skip ?_
            refine nT ?_
            refine .regSeq (.z zm (.z zm ?_))
            obtain ⟨hp, hpl, u, hw⟩ := hWR.resolve_left fun h => by rw [h.1] at hc67; exact hc67 rfl
            obtain ⟨H3, hle3, hRS, hs⟩ := OwnS.publish (cs := p.map Arc.v) hO (fun c hc => by simp only [List.mem_map] at hc; obtain ⟨x, _, rfl⟩ := hc; rfl) (by omega) (by rw [List.length_map]; omega) hs (by repeat constructor)
            refine .o (.call Tryz.call203 rfl (bound_flow_send_spec hs hok (hRf2.mono hle3) (hr.mono (hle1.trans (hle2.trans hle3))) hRS hI hw hp hpl) ?_); rintro v70 w hs
            refine .nil ?_
            refine .exit ?_
            refine xN (xT (xN (xT (xB (nT ?_)))))
            obtain ⟨q1, q2⟩ := hI.send hnum hw (by omega)
            have q3 : 0 ≤ rem s.n (lfTo lf (much s.arcs ts lf p u k) u k) := sumTo_nonneg fun v _ => by omega
            exact ⟨(H3, pushes s.arcs (much s.arcs ts lf p u k) ts p, lfTo lf (much s.arcs ts lf p u k) u k), by repeat (first | exact .nil rfl rfl | refine .cons rfl ?_), ⟨hle2.trans hle3, q1, hs⟩, by dsimp only; omega⟩
      · rintro fr w ⟨rfl, hle0, hs⟩
        refine nT ?_
        refine .regSeq (.z zm (.z zg (.z zg (.nil ?_))))
        refine .ret (rB (rT (rB (rS (Fin.ret2 Tryz.results189 rfl rfl ?_)))))
        obtain ⟨H3, l3, r3, hs⟩ := hs.publish .here
        obtain ⟨H4, l4, r4, hs⟩ := hs.publish .here
        exact .inr ⟨H4, bf, bt, bl, cl, ts, lf, _, sp, hle1.trans (hle2.trans (l3.trans l4)), rfl, ⟨hRf2.mono (l3.trans l4), hr.mono (hle1.trans (hle2.trans (l3.trans l4))), r3.mono l4, r4⟩, hI.ok hin hwt0 (fun v hv => hle0 v (by omega)), hs⟩
end Go.Proofs.YtiiokdeehlfeeaaGreat

namespace Go.Proofs.YtiiokdeehlfeeaaGreat
open Go.MW
theorem bound_isSized_spec {H : Heap} {w : World} {σ : List Ent} {v : Value} {ws : List Int} (hs : St H w σ) (hr : RI H v ws) : Cl Tryz.prog 191 [v] w fun v w' => ∃ b, v = .bool b ∧ (b = true ↔ SizedW ws) ∧ St H w' σ := by
  obtain ⟨a, c, rfl⟩ := RI.shape hr
  have hl := (RI.len hr).2.2
  refine Cl.of Tryz.func191 rfl Tryz.ntmps191 (by simp) (args_cons (k := 0) rfl (args0)) ?_
  refine .regSeq (.z zg (.nil (.regSeq (.z zg (.nil (.seq (.regSeq (.z zm (.z (zlen Tryz.runUnderlying25) ?_)))))))))
  refine .z zm (.nil ?_)
  refine .for (N := ws.length) (J := fun k fr w => fr = [(6, .slice a ws.length c), (3, I (3600000000000 - sizesTo ws k))] ∧ sizesTo ws k ≤ 3600000000000 ∧ St H w σ) (by omega) ?_ ?_ ?_
  · exact .mk ⟨rfl, by simp [sizesTo, sumTo], hs⟩
  · rintro k fr w hk ⟨rfl, hle, hs⟩
    have hx := gi_get hk
    have h0 : 0 ≤ sizesTo ws k := sumTo_nonneg fun v _ => by omega
    have h1 : sizesTo ws (k + 1) = sizesTo ws k + max (gi ws k) (-gi ws k) := rfl
    refine .block (.regSeq ?_)
    first | (refine .ixv hs Tryz.runUnderlying25 Tryz.sizeOf3 ?_; intro b10 o10 hc10) | refine .z (zix Tryz.runUnderlying25 Tryz.sizeOf3) ?_
    refine .y hs (zld Tryz.isAgg3) (.z zg (.nil (.seq (.regSeq (.z zm (.z zm (.z zneg (.z zlss (.z zm ?_)))))))))
    refine .bifD (t' := 16) rfl (fun hb16 => ?_) (fun hb16 => ?_)
    · refine .gFs 3 4 false rfl rfl rfl ?_
      refine .z zpT (.nil ?_)
      refine (.condT rfl rfl ?_)
      refine .regSeq (.z zg (.nil ?_))
      refine .ret (rT (rB (rT (rB (rT (Fin.ret1 Tryz.results191 rfl ?_))))))
      exact ⟨false, rfl, ⟨fun h => (by cases h), fun h => (sizes_over (k := k + 1) hk (by simp only [FF]; omega) h).elim⟩, hs⟩
    · refine .gT rfl rfl ?_
      refine .z zm ?_
      refine .gT rfl rfl ?_
      refine .z zm ?_
      refine .gT rfl rfl ?_
      refine .z zgtr (.z zpF (.nil ?_))
      refine (.condD rfl (fun hc20 => ?_) (fun hc20 => ?_))
      · refine .regSeq (.z zg (.nil ?_))
        refine .ret (rT (rB (rT (rB (rT (Fin.ret1 Tryz.results191 rfl ?_))))))
        exact ⟨false, rfl, ⟨fun h => (by cases h), fun h => (sizes_over (k := k + 1) hk (by simp only [FF]; omega) h).elim⟩, hs⟩
      · refine .skip ?_
        refine nT ?_
        refine .region (.z zm (.z zm (.z zm (.z zneg (.z zmax (.z zsub (.z zg (.nil ?_))))))))
        refine nB (nT ?_)
        exact .mk ⟨rfl, by omega, hs⟩ (hs := .cons rfl (.cons rfl (.cons rfl (.consI rfl (by omega) (.nil rfl rfl)))))
  · rintro fr w ⟨rfl, hle, hs⟩
    refine nT ?_
    refine .regSeq (.z zg (.nil ?_))
    refine .ret (Fin.ret1 Tryz.results191 rfl ?_)
    exact ⟨true, rfl, ⟨fun _ => hle, fun _ => rfl⟩, hs⟩
theorem bound_checkWeights_spec {H : Heap} {w : World} {σ : List Ent} {v vw : Value} {s : Syst} {ws : List Int} (hs : St H w σ) (hr : RSy H v s) (hrw : RI H vw ws) : Cl Tryz.prog 158 [v, vw] w fun v w' => v = I (askErr s ws) ∧ St H w' σ := by
  obtain ⟨vl, rfl, hr⟩ := hr
  obtain ⟨al, cpl, rfl⟩ := RL.shape hr
  obtain ⟨aw, cw, rfl⟩ := RI.shape hrw
  have hlw := (RI.len hrw).2.2
  have hn : s.check = 0 → 0 ≤ s.many ∧ s.many ≤ 64 ∧ (s.n : Int) = s.many + 1 := fun h => by
    have h1 := s.ok_iff.1 h
    have := h1.m0
    have := h1.m1
    simp only [Syst.n]; omega
  refine Cl.of Tryz.func158 rfl Tryz.ntmps158 (by simp) (args_cons (k := 0) rfl (args_cons (k := 1) rfl (args0))) ?_
  refine .regSeq ?_
  refine .o (.box hs rfl rfl ?_); intro b2 w hs
  refine .z zg (.nil (.seq (.regSeq (.y hs (zls [_, _] Tryz.isAgg24 Tryz.sizeOf24) ?_))))
  refine .o (.call Tryz.call113 rfl (bound_Check_spec (s := s) hs ⟨_, rfl, hr⟩) ?_); rintro _ w ⟨rfl, hs⟩
  refine .z zg (.nil (.regSeq (.z zm (.z zneq (.nil ?_)))))
  refine (.condN rfl (fun hc9 => ?_) (fun hc9 => ?_))
  · refine .regSeq (.z zm (.z zg (.nil ?_)))
    refine .ret (rT (Fin.ret1 Tryz.results158 rfl ?_))
    exact ⟨by unfold askErr; rw [if_pos hc9], hs.tail⟩
  · refine .skip ?_
    refine nT ?_
    refine .seq (.regSeq (.z zm ?_))
    obtain ⟨n0, n1, n2⟩ := hn hc9
    refine .z (zlen Tryz.runUnderlying25) (.z (zfa fa_api_System_0) (.y hs (zld Tryz.isAgg3) (.z zadd (.z zneq (.z zm ?_)))))
    refine .bifN (t' := 17) rfl (fun hb17 => ?_) (fun hb17 => ?_)
    · refine .gFs 3 6 false rfl rfl rfl ?_
      refine .z zpT (.nil ?_)
      refine (.condT rfl rfl ?_)
      refine .regSeq (.z zg (.nil ?_))
      refine .ret (rT (Fin.ret1 Tryz.results158 rfl ?_))
      exact ⟨by unfold askErr; rw [if_neg (by omega), if_neg (by omega)], hs.tail⟩
    · refine .gT rfl rfl ?_
      refine .z zm ?_
      refine .gT rfl rfl ?_
      refine .o (.call Tryz.call191 rfl (bound_isSized_spec hs hrw) ?_); rintro _ w ⟨bz, rfl, hbz, hs⟩
      refine .gT rfl rfl ?_
      refine .z znot (.z zpF (.nil ?_))
      refine (.cond rfl (fun hc21 => ?_) (fun hc21 => ?_))
      · refine .regSeq (.z zg (.nil ?_))
        refine .ret (rT (Fin.ret1 Tryz.results158 rfl ?_))
        exact ⟨by unfold askErr; rw [if_neg (by omega), if_neg (fun h => by rw [hbz.2 h.2] at hc21; cases hc21)], hs.tail⟩
      · refine .skip ?_
        refine nT ?_
        refine .regSeq (.z zg (.nil ?_))
        refine .ret (Fin.ret1 Tryz.results158 rfl ?_)
        exact ⟨by unfold askErr; rw [if_neg (by omega), if_pos ⟨by omega, hbz.1 (by simpa using hc21)⟩], hs.tail⟩
theorem bound_asked_spec {H : Heap} {w : World} {σ : List Ent} {v vw : Value} {s : Syst} {ws : List Int} (hs : St H w σ) (hr : RSy H v s) (hrw : RI H vw ws) :
    Cl Tryz.prog 148 [v, vw] w fun v w' => ∃ H1 e pf, HLe H H1 ∧ v = .tuple #[pf, I e] ∧ AskR s ws e ∧ St H1 w' σ ∧ (e ≠ 0 → pf = .pointer none) ∧
      (e = 0 → ∃ bf bt bl cl ts lf vl sp, pf = .pointer (some ⟨bf, 0, none⟩) ∧ FlowH H1 bf s ts lf vl bt bl cl sp ∧ FlowOk s.n s.arcs (wtOf ws s.n) ts ∧ s.Ok ∧ sizesTo ws s.n ≤ FF) := by
  obtain ⟨vl, rfl, hr⟩ := hr
  refine Cl.of Tryz.func148 rfl Tryz.ntmps148 (by simp) (args_cons (k := 0) rfl (args_cons (k := 1) rfl (args0))) ?_
  refine .regSeq ?_
  refine .o (.box hs rfl rfl ?_); intro b2 w hs
  refine .z zg (.z zg (.nil (.seq (.regSeq (.y hs (zls [_, _] Tryz.isAgg24 Tryz.sizeOf24) (.z zm ?_))))))
  refine .o (.call Tryz.call158 rfl (bound_checkWeights_spec (s := s) hs ⟨_, rfl, hr⟩ hrw) ?_); rintro _ w ⟨rfl, hs⟩
  refine .z zg (.nil (.regSeq (.z zm (.z zneq (.nil ?_)))))
  refine (.condN rfl (fun hc13 => ?_) (fun hc13 => ?_))
  · refine .regSeq (.z zm (.z zg (.z zg (.nil ?_))))
    refine .ret (rT (Fin.ret2 Tryz.results148 rfl rfl ?_))
    exact ⟨H, _, _, HLe.refl _, rfl, .bad hc13, hs.tail, fun _ => rfl, fun h => (hc13 h).elim⟩
  · refine .skip ?_
    refine nT ?_
    refine .seq (.regSeq (.y hs (zls [_, _] Tryz.isAgg24 Tryz.sizeOf24) ?_))
    obtain ⟨hok, hwl, hsz⟩ := askErr_ok hc13
    refine .o (.call Tryz.call114 rfl (bound_isSound_spec (s := s) hs hok ⟨_, rfl, hr⟩) ?_); rintro _ w ⟨H1, b, hle1, rfl, hb, hs⟩
    refine .z znot (.nil ?_)
    refine (.cond rfl (fun hc17 => ?_) (fun hc17 => ?_))
    · refine .regSeq (.z zg (.z zg (.nil ?_)))
      refine .ret (rT (Fin.ret2 Tryz.results148 rfl rfl ?_))
      exact ⟨H1, _, _, hle1, rfl, .clash hc13 (fun h => by rw [hb.2 h] at hc17; cases hc17), hs.tail, fun _ => rfl, fun h => by cases h⟩
    · refine .skip ?_
      refine nT ?_
      refine .regSeq (.y hs (zls [_, _] Tryz.isAgg24 Tryz.sizeOf24) (.z zm ?_))
      have hsnd : s.Sound := hb.1 (by simpa using hc17)
      refine .o (.call Tryz.call189 rfl (bound_sent_spec (s := s) hs hok ⟨_, rfl, hr.mono hle1⟩ (hrw.mono hle1) hwl hsz hsnd) ?_); rintro v21 w hcase
      obtain ⟨pf, bb, H2, hle2, rfl, hs, hT, hF⟩ : ∃ pf bb H2, HLe H1 H2 ∧ v21 = .tuple #[pf, .bool bb] ∧ St H2 w (.blk b2 [I s.many, vl] :: σ) ∧ (bb = false → pf = .pointer none ∧ OpenS s.arcs (wtOf ws s.n) s.n) ∧
          (bb = true → ∃ bf bt bl cl ts lf vl sp, pf = .pointer (some ⟨bf, 0, none⟩) ∧ FlowH H2 bf s ts lf vl bt bl cl sp ∧ FlowOk s.n s.arcs (wtOf ws s.n) ts) := by
        rcases hcase with ⟨rfl, h1, h2⟩ | ⟨H2, bf, bt, bl, cl, ts, lf, vl, sp, h1, rfl, h2, h3, h4⟩
        · exact ⟨_, false, H1, HLe.refl _, rfl, h2, fun _ => ⟨rfl, h1⟩, fun h => by cases h⟩
        · exact ⟨_, true, H2, h1, rfl, h4, fun h => (by cases h), fun _ => ⟨bf, bt, bl, cl, ts, lf, vl, sp, rfl, h2, h3⟩⟩
      refine .z zm (.z zex (.z zex (.z zg (.z zg (.nil (.seq (.regSeq (.z zm (.z znot ?_)))))))))
      refine .nil ?_
      refine (.cond rfl (fun hc25 => ?_) (fun hc25 => ?_))
      · refine .regSeq (.z zg (.z zg (.nil ?_)))
        refine .ret (rT (Fin.ret2 Tryz.results148 rfl rfl ?_))
        exact ⟨H2, _, _, hle1.trans hle2, rfl, .opn hc13 hsnd (hT (by simpa using hc25)).2, hs.tail, fun _ => rfl, fun h => by cases h⟩
      · refine .skip ?_
        refine nT ?_
        refine .regSeq (.z zm (.z zg (.z zg (.nil ?_))))
        refine .ret (Fin.ret2 Tryz.results148 rfl rfl ?_)
        obtain ⟨bf, bt, bl, cl, ts, lf, vl, sp, rfl, h2, h3⟩ := hF (by simpa using hc25)
        have hn0 : 0 < s.n := by simp [Syst.n]
        have hn1 : s.n ≤ 65 := by have := hok.m0; have := hok.m1; simp only [Syst.n]; omega
        have hsz' : sizesTo ws s.n ≤ FF := by unfold SizedW at hsz; rwa [hwl] at hsz
        exact ⟨H2, _, _, hle1.trans hle2, rfl, .ok hc13 hsnd (h3.value hn0 hn1 hok.arcs hsz').2.1, hs.tail, fun h => (h rfl).elim, fun _ => ⟨bf, bt, bl, cl, ts, lf, vl, sp, rfl, h2, h3, hok, hsz'⟩⟩
theorem bound_flow_bound_spec {H : Heap} {w : World} {σ : List Ent} {bf bt bl cl : Nat} {s : Syst} {ts lf ws : List Int} {vl : Value} {sp : List Value} (hs : St H w σ) (hok : s.Ok) (hF : FlowH H bf s ts lf vl bt bl cl sp) (hFo : FlowOk s.n s.arcs (wtOf ws s.n) ts) (hsz : sizesTo ws s.n ≤ FF) :
    Cl Tryz.prog 150 [.pointer (some ⟨bf, 0, none⟩)] w fun v w' => v = I (dot s.arcs ts (·.c)) ∧ OptS s.arcs (s.wt ws) s.n (dot s.arcs ts (·.c)) ∧ dot s.arcs ts (·.c) ≤ BB ∧ -BB ≤ dot s.arcs ts (·.c) ∧ St H w' σ := by
  obtain ⟨hFf, hFl, hFt, hFd⟩ := hF
  obtain ⟨al, cpl, rfl⟩ := RL.shape hFl
  have hlim := hok.len
  have hal : s.arcs.length = s.lims.length := by simp [Syst.arcs, arcsOf_length]
  have hlt := hFo.lt
  have hn0 : 0 < s.n := by simp [Syst.n]
  have hn1 : s.n ≤ 65 := by have := hok.m0; have := hok.m1; simp only [Syst.n]; omega
  have hv := hFo.value hn0 hn1 hok.arcs hsz
  have hd := dot_dotTo (es := s.arcs) hlt
  have hf1 : cellAt H bf 1 = some (.slice al s.lims.length cpl) := hFf.at 1
  have hf2 : cellAt H bf 2 = some (.slice (some ⟨bt, 0, none⟩) ts.length ts.length) := hFf.at 2
  refine Cl.of Tryz.func150 rfl Tryz.ntmps150 (by simp) (args_cons (k := 0) rfl (args0)) ?_
  refine .regSeq (.z zg (.nil (.regSeq (.z zg (.nil (.seq (.regSeq (.z zm (.z znc ?_)))))))))
  refine .z (zfa fa_bound_flow_0) (.z (zfa fa_api_System_1) (.y hs (zld Tryz.isAgg22) (.z (zlen Tryz.runUnderlying22) (.z zm (.nil ?_)))))
  refine .for (N := s.lims.length) (J := fun k fr w => fr = [(10, .slice al s.lims.length cpl), (3, I (IntKind.i64.wrap (dotTo s.arcs ts k))), (0, .pointer (some ⟨bf, 0, none⟩))] ∧ St H w σ) (by omega) ?_ ?_ ?_
  · exact .mk ⟨rfl, hs⟩ (hs := .cons rfl (.cons rfl (.cons rfl (.consI rfl (by simp [dotTo, sumTo, i64wrap_eq]) (.cons rfl (.nil rfl rfl))))))
  · rintro k fr w hk ⟨rfl, hs⟩
    obtain ⟨l, hl⟩ := nth hk
    have hg : (ga s.arcs k).c = l.M := by simp [ga, Syst.arcs, arcsOf_get hl, Lim.arc]
    have hlm := hok.lim l (List.mem_of_getElem? hl)
    have hkt : k < ts.length := by omega
    have htb := hFo.nn k (by omega)
    have hct : cellAt H bt k = some (I (gi ts k)) := hFt.at k (Is_gi hkt)
    have hmul : gi ts k * l.M ≤ 72000000000000000 ∧ -72000000000000000 ≤ gi ts k * l.M := by
      simp only [FF] at htb
      have g1 : gi ts k * l.M ≤ gi ts k * 20000 := Int.mul_le_mul_of_nonneg_left hlm.2.2.2.1.2 htb.1
      have g2 : gi ts k * (-20000) ≤ gi ts k * l.M := Int.mul_le_mul_of_nonneg_left hlm.2.2.2.1.1 htb.1
      omega
    refine .block (.regSeq (.z zm ?_))
    refine .ixX hs hFl rfl rfl Tryz.runUnderlying22 Tryz.sizeOf157 hl rfl ?_; intro b15 o15 hc15
    refine .q hs (q_loadsR (vs := l.c) rfl Tryz.isAgg157 Tryz.sizeOf157 hc15) ?_
    refine .o (.alloc hs Tryz.zeroValue157 rfl ?_); intro b5 w hs
    refine .z zg ?_
    refine .o (.stores (vs := l.c) hs rfl rfl Tryz.sizeOf157 ?_); intro w hs
    refine .nil ?_
    refine .draw mix rfl hs ?_; intro w hs
    refine .z 0 rfl zm ?_; refine .z 1 rfl zm ?_; refine .z 2 rfl znc ?_; refine .z 3 rfl (zfa fa_bound_flow_1) ?_; refine .y 4 rfl hs Tryz.isAgg25 ?_; refine .z 5 rfl zm ?_
    refine .p (i := 6) rfl (by kernel_rfl) .none (q_ixO (k := k) rfl rfl Tryz.runUnderlying25 Tryz.sizeOf3 rfl hkt) ?_
    refine .r (i := 7) hs rfl (by kernel_rfl) .none (q_loadR rfl Tryz.isAgg3 hct) ?_
    refine .z 8 rfl (zfa fa_api_Limit_2) ?_; refine .y 9 rfl hs Tryz.isAgg3 ?_; refine .z 10 rfl zmul ?_
    refine .p (i := 11) rfl (by kernel_rfl) .none (q_add rfl rfl) ?_
    refine .z 12 rfl zg ?_; refine .done (by kernel_rfl) hs ?_
    refine nB (nT ?_)
    exact .mk ⟨rfl, hs.tail⟩ (hs := .cons rfl (.cons rfl (.cons rfl (.consI rfl (by rw [i64wrap_add]; simp only [dotTo, sumTo, hg]) (.cons rfl (.nil rfl rfl))))))
  · rintro fr w ⟨rfl, hs⟩
    rw [← hal, ← hd, i64wrap (by have := hv.2.2; simp only [BB] at this; omega)]
    refine nT ?_
    refine .regSeq (.z zm (.z zg (.nil ?_)))
    refine .ret (Fin.ret1 Tryz.results150 rfl ?_)
    exact ⟨rfl, hv.1, hv.2.2.1, hv.2.2.2, hs⟩
theorem bound_Most_spec {H : Heap} {w : World} {σ : List Ent} {v vw : Value} {s : Syst} {ws : List Int} (hs : St H w σ) (hr : RSy H v s) (hrw : RI H vw ws) :
    Cl Tryz.prog 136 [v, vw] w fun v w' => ∃ H1 n e, HLe H H1 ∧ v = .tuple #[I n, I e] ∧ MostR s ws n e ∧ St H1 w' σ := by
  obtain ⟨vl, rfl, hr⟩ := hr
  refine Cl.of Tryz.func136 rfl Tryz.ntmps136 (by simp) (args_cons (k := 0) rfl (args_cons (k := 1) rfl (args0))) ?_
  refine .regSeq ?_
  refine .o (.box hs rfl rfl ?_); intro b2 w hs
  refine .z zg (.z zg (.nil (.regSeq (.y hs (zls [_, _] Tryz.isAgg24 Tryz.sizeOf24) (.z zm ?_)))))
  refine .o (.call Tryz.call148 rfl (bound_asked_spec (s := s) hs ⟨_, rfl, hr⟩ hrw) ?_); rintro _ w ⟨H1, e, pf, hle1, rfl, hA, hs, hne, heq⟩
  refine .z zm (.z zex (.z zex (.z zg (.z zg (.nil (.seq (.regSeq (.z zm (.z zneq ?_)))))))))
  refine .nil ?_
  refine (.condN rfl (fun hc15 => ?_) (fun hc15 => ?_))
  · refine .regSeq (.z zm (.z zg (.z zg (.nil ?_))))
    refine .ret (rT (Fin.ret2 Tryz.results136 rfl rfl ?_))
    exact ⟨H1, _, _, hle1, rfl, ⟨hA, fun _ => rfl, fun h => (hc15 h).elim⟩, hs.tail⟩
  · refine .skip ?_
    refine nT ?_
    refine .regSeq (.z zm ?_)
    subst hc15
    obtain ⟨bf, bt, bl, cl, ts, lf, vl, sp, rfl, hF, hFo, hok, hsz⟩ := heq rfl
    refine .o (.call Tryz.call150 rfl (bound_flow_bound_spec hs hok hF hFo hsz) ?_); rintro _ w ⟨rfl, h1, h2, h3, hs⟩
    refine .z zg (.z zg (.nil ?_))
    refine .ret (Fin.ret2 Tryz.results136 rfl rfl ?_)
    exact ⟨H1, _, _, hle1, rfl, ⟨hA, fun h => (h rfl).elim, fun _ => ⟨h1, h2, h3⟩⟩, hs.tail⟩
theorem bound_turned_spec {H : Heap} {w : World} {σ : List Ent} {vw : Value} {ws : List Int} (hs : St H w σ) (hrw : RI H vw ws) (hlw : ws.length ≤ 1000000) (hb : ∀ k, -9223372036854775807 ≤ gi ws k ∧ gi ws k ≤ 9223372036854775807) :
    Cl Tryz.prog 149 [vw] w fun v w' => ∃ H1, HLe H H1 ∧ RI H1 v (negW ws) ∧ St H1 w' σ := by
  obtain ⟨aw, cw, rfl⟩ := RI.shape hrw
  refine Cl.of Tryz.func149 rfl Tryz.ntmps149 (by simp) (args_cons (k := 0) rfl (args0)) ?_
  refine .regSeq (.z zg (.nil (.regSeq (.z zm (.z (zlen Tryz.runUnderlying25) ?_)))))
  refine .o (.makeI ws.length hs rfl rfl Tryz.runUnderlying25 Tryz.typeInfo3 rfl Tryz.sizeOf3 Tryz.zeroValue3 (by omega) ?_); intro b8 w hs
  refine .z zg (.nil (.seq (.regSeq (.z zm (.z (zlen Tryz.runUnderlying25) (.z zm (.nil ?_)))))))
  refine .for (N := ws.length) (J := fun k fr w => fr = [(9, .slice aw ws.length cw), (3, .slice (some ⟨b8, 0, none⟩) ws.length ws.length)] ∧ ∃ L, (L.length = ws.length ∧ ∀ v < ws.length, gi L v = if v < k then -gi ws v else 0) ∧ St H w (.blk b8 (Is L) :: σ)) (by omega) ?_ ?_ ?_
  · exact .mk ⟨rfl, _, ⟨by simp, fun v hv => by rw [gi_replicate _ _ hv, if_neg (by omega)]⟩, hs⟩
  · rintro k fr w hk ⟨rfl, L, ⟨hL1, hL2⟩, hs⟩
    have hx := gi_get hk
    have hbk := hb k
    refine .block (.regSeq (.z zm ?_))
    first | (refine .ixv hs Tryz.runUnderlying25 Tryz.sizeOf3 ?_; intro b14 o14 hc14) | refine .z (zix Tryz.runUnderlying25 Tryz.sizeOf3) ?_
    refine .y hs (zld Tryz.isAgg3) (.z zg (.z zg (.nil (.region (.z zm (.z zm (.z zm (.z zneg ?_))))))))
    first | (refine .ixv hs Tryz.runUnderlying25 Tryz.sizeOf3 ?_; intro b20 o20 hc20) | refine .z (zix Tryz.runUnderlying25 Tryz.sizeOf3) ?_
    refine .o (.store hs rfl rfl Tryz.sizeOf3 ?_); intro w hs
    refine .nil ?_
    refine nB (nT ?_)
    refine .mk ⟨rfl, _, ⟨by rw [List.length_set]; exact hL1, fun v hv => ?_⟩, hs⟩
    rw [gi_set (by omega)]
    by_cases e : v = k
    · subst e; rw [if_pos rfl, if_pos (by omega)]
    · rw [if_neg e, hL2 v hv]; congr 1; apply propext; omega
  · rintro fr w ⟨rfl, L, ⟨hL1, hL2⟩, hs⟩
    obtain rfl : L = negW ws := ext_gi (by simp [hL1, negW]) (fun k hk => by rw [hL2 k (by omega), if_pos (by omega), gi_neg])
    refine nT ?_
    refine .regSeq (.z zm (.z zg (.nil ?_)))
    refine .ret (Fin.ret1 Tryz.results149 rfl ?_)
    obtain ⟨H1, g1, g2, hs⟩ := hs.publish .here
    refine ⟨H1, g1, ?_, hs⟩
    rw [← hL1]
    exact Row.RI (spare := []) (by simpa using g2) _ (Nat.le_refl _) (by omega)
theorem bound_Range_spec {H : Heap} {w : World} {σ : List Ent} {v vw : Value} {s : Syst} {ws : List Int} (hs : St H w σ) (hr : RSy H v s) (hrw : RI H vw ws) :
    Cl Tryz.prog 73 [v, vw] w fun v w' => ∃ H1 lo hi e, HLe H H1 ∧ v = .tuple #[I lo, I hi, I e] ∧ RangeR s ws lo hi e ∧ St H1 w' σ := by
  obtain ⟨vl, rfl, hr⟩ := hr
  refine Cl.of Tryz.func73 rfl Tryz.ntmps73 (by simp) (args_cons (k := 0) rfl (args_cons (k := 1) rfl (args0))) ?_
  refine .regSeq ?_
  refine .o (.box hs rfl rfl ?_); intro b2 w hs
  refine .z zg (.z zg (.z zg (.nil (.regSeq (.y hs (zls [_, _] Tryz.isAgg24 Tryz.sizeOf24) (.z zm ?_))))))
  refine .o (.call Tryz.call148 rfl (bound_asked_spec (s := s) hs ⟨_, rfl, hr⟩ hrw) ?_); rintro _ w ⟨H1, e, pf, hle1, rfl, hA, hs, hne, heq⟩
  refine .z zm (.z zex (.z zex (.z zg (.z zg (.nil (.seq (.regSeq (.z zm (.z zneq ?_)))))))))
  refine .nil ?_
  refine (.condN rfl (fun hc16 => ?_) (fun hc16 => ?_))
  · refine .regSeq (.z zm (.z zg (.z zg (.z zg (.nil ?_)))))
    refine .ret (rT (Fin.ret3 Tryz.results73 rfl rfl rfl ?_))
    exact ⟨H1, _, _, _, hle1, rfl, .first ⟨hA, fun _ => rfl, fun h => (hc16 h).elim⟩ hc16, hs.tail⟩
  · refine .skip ?_
    refine nT ?_
    refine .seq (.draw mix rfl hs ?_); intro w hs
    refine .ys 0 rfl hs [_, _] Tryz.isAgg24 Tryz.sizeOf24 ?_; refine .z 1 rfl zm ?_
    refine .e1 (i := 2) (by kernel_rfl) rfl rfl .none hs ?_
    subst hc16
    obtain ⟨bf, bt, bl, cl, ts, lf, vl', sp, rfl, hF, hFo, hok, hsz⟩ := heq rfl
    have hwl := (askErr_ok hA.zero.1).2.1
    have hbw : ∀ k, -9223372036854775807 ≤ gi ws k ∧ gi ws k ≤ 9223372036854775807 := fun k => by
      simp only [FF] at hsz
      by_cases hk : k < s.n
      · have := sizes_at ws hk; omega
      · have : gi ws k = 0 := by simp [gi, List.getElem?_eq_none (show ws.length ≤ k by omega)]
        omega
    refine .call Tryz.call149 rfl (bound_turned_spec hs (hrw.mono hle1) (by have := hok.m1; simp only [Syst.n] at hwl; omega) hbw) ?_; rintro v21 w ⟨H2, hle2, hr21, hs⟩
    refine .go ?_
    refine .e1 (i := 3) (by kernel_rfl) rfl rfl .none hs ?_
    refine .call Tryz.call148 rfl (bound_asked_spec (s := s) hs ⟨_, rfl, hr.mono (hle1.trans hle2)⟩ hr21) ?_; rintro _ w ⟨H3, e2, pg, hle3, rfl, hA2, hs, hne2, heq2⟩
    refine .go ?_
    refine .z 4 rfl zm ?_; refine .z 5 rfl zex ?_; refine .z 6 rfl zex ?_; refine .z 7 rfl zg ?_; refine .z 8 rfl zg ?_; refine .done (by kernel_rfl) hs ?_
    refine .seq (.regSeq (.z zm (.z zneq (.nil ?_))))
    refine (.condN rfl (fun hc26 => ?_) (fun hc26 => ?_))
    · refine .regSeq (.z zm (.z zg (.z zg (.z zg (.nil ?_)))))
      refine .ret (rT (Fin.ret3 Tryz.results73 rfl rfl rfl ?_))
      obtain ⟨q1, q2, q3, q4⟩ := hFo.value (by simp [Syst.n]) (by have := hok.m0; have := hok.m1; simp only [Syst.n]; omega) hok.arcs hsz
      exact ⟨H3, _, _, _, hle1.trans (hle2.trans hle3), rfl, .second ⟨hA, fun h => (h rfl).elim, fun _ => ⟨q1, q3, q4⟩⟩ ⟨hA2, fun _ => rfl, fun h => (hc26 h).elim⟩ hc26, hs.tail⟩
    · refine .skip ?_
      refine nT ?_
      refine .regSeq (.z zm ?_)
      subst hc26
      obtain ⟨bf2, bt2, bl2, cl2, ts2, lf2, vl2, sp2, rfl, hF2, hFo2, hok2, hsz2⟩ := heq2 rfl
      refine .o (.call Tryz.call150 rfl (bound_flow_bound_spec hs hok hF2 hFo2 hsz2) ?_); rintro _ w ⟨rfl, a1, a2, a3, hs⟩
      simp only [BB] at a2 a3
      refine .z zneg (.z zm ?_)
      refine .o (.call Tryz.call150 rfl (bound_flow_bound_spec hs hok (hF.mono (hle2.trans hle3)) hFo hsz) ?_); rintro _ w ⟨rfl, c1, c2, c3, hs⟩
      refine .z zg (.z zg (.z zg (.nil ?_)))
      refine .ret (Fin.ret3 Tryz.results73 rfl rfl rfl ?_)
      exact ⟨H3, _, _, _, hle1.trans (hle2.trans hle3), rfl, .ok ⟨hA, fun h => (h rfl).elim, fun _ => ⟨c1, c2, c3⟩⟩ ⟨hA2, fun h => (h rfl).elim, fun _ => ⟨a1, by simp only [BB]; omega, by simp only [BB]; omega⟩⟩, hs.tail⟩
end Go.Proofs.YtiiokdeehlfeeaaGreat

namespace Go.Proofs.YtiiokdeehlfeeaaGreat
open Go.MW
theorem bound_flow_proof_spec {H : Heap} {w : World} {σ : List Ent} {bf bt bl cl : Nat} {s : Syst} {ts lf ws : List Int} {vl : Value} {sp : List Value} (hs : St H w σ) (hok : s.Ok) (hF : FlowH H bf s ts lf vl bt bl cl sp) (hFo : FlowOk s.n s.arcs (wtOf ws s.n) ts) (hsz : sizesTo ws s.n ≤ FF) :
    Cl Tryz.prog 156 [.pointer (some ⟨bf, 0, none⟩)] w fun v w' => ∃ H1, HLe H H1 ∧ RPf H1 v (dot s.arcs ts (·.c)) (usesTo ts ts.length) ∧ St H1 w' σ := by
  have hf2 : cellAt H bf 2 = some (.slice (some ⟨bt, 0, none⟩) ts.length ts.length) := hF.f.at 2
  have hlt := hFo.lt
  have hal : s.arcs.length = s.lims.length := by simp [Syst.arcs, arcsOf_length]
  have hlim := hok.len
  refine Cl.of Tryz.func156 rfl Tryz.ntmps156 (by simp) (args_cons (k := 0) rfl (args0)) ?_
  refine .regSeq ?_
  refine .o (.alloc hs Tryz.zeroValue63 rfl ?_); intro b2 w hs
  refine .nil (.regSeq (.z zm ?_))
  refine .o (.call Tryz.call150 rfl (bound_flow_bound_spec hs hok hF hFo hsz) ?_); rintro _ w ⟨rfl, c1, c2, c3, hs⟩
  refine .z (zbd [_, _] bld_api_Proof) ?_
  refine .o (.alloc hs Tryz.zeroValue63 rfl ?_); intro b3 w hs
  refine .o (.stores (vs := [_, _]) hs rfl rfl Tryz.sizeOf63 ?_); intro w hs
  refine .nil (.seq (.regSeq (.z zm (.z znc (.z (zfa fa_bound_flow_1) (.y hs (zld Tryz.isAgg25) (.z (zlen Tryz.runUnderlying25) (.z zm (.nil ?_)))))))))
  refine .for (N := ts.length) (J := fun k fr w => fr = [(12, .slice (some ⟨bt, 0, none⟩) ts.length ts.length), (3, .pointer (some ⟨b3, 0, none⟩)), (2, .pointer (some ⟨b2, 0, none⟩))] ∧   ∃ vu en, OwnS 2 vu (Uses (usesTo ts k)) en ∧ St H w (.blk b3 [I (dot s.arcs ts (·.c)), vu] :: .blk b2 [I 0, .slice none 0 0] :: en :: σ)) (by omega) ?_ ?_ ?_
  · exact .mk ⟨rfl, _, .nul, .nil 2 none, (hs.nul).sub (by repeat (first | exact Sub.refl _ | constructor | apply Sub.weaken))⟩
  · rintro k fr w hk ⟨rfl, vu, en, hO, hs⟩
    have hct : cellAt H bt k = some (I (gi ts k)) := hF.t.at k (Is_gi hk)
    refine .block (.regSeq (.z zm ?_))
    first | (refine .ixv hs Tryz.runUnderlying25 Tryz.sizeOf3 ?_; intro b17 o17 hc17) | refine .z (zix Tryz.runUnderlying25 Tryz.sizeOf3) ?_
    refine .q hs (q_loadR rfl Tryz.isAgg3 hct) ?_
    refine .z zg (.z zg (.nil (.regSeq (.z zm (.z zgtr (.nil ?_))))))
    refine (.condD rfl (fun hc20 => ?_) (fun hc20 => ?_))
    · refine .region (.z (zfa fa_api_Proof_1) (.y hs (zld Tryz.isAgg61) (.z zm (.z zm (.z (zbd [_, _] bld_api_Use) ?_)))))
      refine .o (.buildSlice (cells := [I k, I (gi ts k)]) hs bls_sl_api_Use_1 rfl rfl ?_); intro b26 w hs
      refine .o (.append (ys := [I k, I (gi ts k)]) hs app_sl_api_Use_api_Use rfl rfl hO (.own .here rfl rfl) (by simp [Value.oneCell']) (fun l h => by rw [Uses_length] at h; have := usesTo_length ts k; omega) ?_); intro v27 en27 w hO2 hs
      obtain ⟨a27, l27, c27, rfl, h27⟩ := hO2.shape
      refine .z (zfa fa_api_Proof_1) ?_
      refine .o (.store hs rfl rfl Tryz.sizeOf61 ?_); intro w hs
      refine .nil ?_
      refine nB (nT ?_)
      have e : Uses (usesTo ts k) ++ [I k, I (gi ts k)] = Uses (usesTo ts (k + 1)) := by rw [usesTo, if_pos hc20, Uses_append]; rfl
      rw [e] at hO2
      exact .mk ⟨rfl, _, _, hO2, hs.sub (by repeat (first | exact Sub.refl _ | constructor | apply Sub.weaken))⟩
    · refine .skip ?_
      refine nB (nT ?_)
      have e : usesTo ts (k + 1) = usesTo ts k := by rw [usesTo, if_neg hc20]; simp
      exact .mk ⟨rfl, vu, en, by rw [e]; exact hO, hs⟩
  · rintro fr w ⟨rfl, vu, en, hO, hs⟩
    obtain ⟨au, lu, cu, rfl, hlu⟩ := hO.shape
    refine nT ?_
    refine .regSeq (.y hs (zls [_, _] Tryz.isAgg63 Tryz.sizeOf63) ?_)
    refine .o (.stores (vs := [_, _]) hs rfl rfl Tryz.sizeOf63 ?_); intro w hs
    refine .nil ?_
    refine .ret ?_
    obtain ⟨H1, g1, g2, hs⟩ := OwnS.publish (cs := (usesTo ts ts.length).map Use.c) hO (fun c hc => by simp only [List.mem_map] at hc; obtain ⟨x, _, rfl⟩ := hc; rfl) (by omega) (by rw [List.length_map]; have := usesTo_length ts ts.length; omega) hs (by repeat constructor)
    exact Fin.retD [] [] hs fun w hs => ⟨_, results1 Tryz.results156 (rcells (vs := [_, _]) hs rfl Tryz.isAgg63 Tryz.sizeOf63), H1, g1, ⟨_, rfl, g2⟩, hs.out⟩
theorem bound_flow_point_spec {H : Heap} {w : World} {σ : List Ent} {bf bt bl cl : Nat} {s : Syst} {ts lf ws : List Int} {vl : Value} {sp : List Value} (hs : St H w σ) (hok : s.Ok) (hF : FlowH H bf s ts lf vl bt bl cl sp) (hFo : FlowOk s.n s.arcs (wtOf ws s.n) ts) (hsz : sizesTo ws s.n ≤ FF) :
    Cl Tryz.prog 179 [.pointer (some ⟨bf, 0, none⟩)] w fun v w' => ∃ H1 xs, HLe H H1 ∧ RI H1 v xs ∧ BestR s ws xs ∧ St H1 w' σ := by
  obtain ⟨N, hN⟩ := Int.eq_ofNat_of_zero_le hok.m0
  have hN1 := hok.m1
  have hn : s.n = N + 1 := by simp [Syst.n, hN]
  have hlt := hFo.lt
  have hal : s.arcs.length = s.lims.length := by simp [Syst.arcs, arcsOf_length]
  have hlim := hok.len
  have hf0 : cellAt H bf 0 = some (I (N : Int)) := by have := hF.f.at 0 (v := I s.many); rwa [hN] at this
  have hoka := resid_arcs hok.arcs hlt.symm (by omega)
  rw [hn] at hoka
  refine Cl.of Tryz.func179 rfl Tryz.ntmps179 (by simp) (args_cons (k := 0) rfl (args0)) ?_
  refine .regSeq (.z zg (.nil ?_))
  refine .seq (.draw mix rfl hs ?_); intro w hs
  refine .z 0 rfl zm ?_; refine .z 1 rfl znc ?_; refine .z 2 rfl (zfa fa_bound_flow_0) ?_; refine .z 3 rfl (zfa fa_api_System_0) ?_; refine .y 4 rfl hs Tryz.isAgg3 ?_; refine .z 5 rfl zm ?_
  refine .e1 (i := 6) (by kernel_rfl) rfl rfl .none hs ?_
  refine .call Tryz.call198 rfl (bound_flow_rest_spec hs hok hF (by omega)) ?_; rintro _ w ⟨H1, b15, hle1, rfl, hit, hs⟩
  refine .go ?_
  refine .e1 (i := 7) (by kernel_rfl) rfl rfl .none hs ?_
  refine .call Tryz.call171 rfl (bound_nearest_spec hs (by omega) hoka hit Tryz.call211) ?_; rintro _ w ⟨H2, bc, bb, st, ov, vo, hle2, rfl, hov, ⟨r, hNI, hr⟩, hs⟩
  have hovn : ov = none := by
    cases ov with
    | none => rfl
    | some x => exact (hNI.none hoka (by omega) (by have := hr (by simp); omega) hFo.fe).elim
  subst hovn
  obtain ⟨hfe, hbd⟩ := hNI.sol hoka (by omega)
  have hlc := hNI.lc
  have hb0 := hbd 0 (by omega)
  refine .go ?_
  refine .z 8 rfl zm ?_; refine .z 9 rfl zex ?_; refine .z 10 rfl zex ?_; refine .z 11 rfl zex ?_; refine .z 12 rfl zg ?_; refine .z 13 rfl zg ?_; refine .z 14 rfl zg ?_; refine .done (by kernel_rfl) hs ?_
  refine .regSeq (.z zm ?_)
  refine .q hs (q_ixO (k := 0) rfl rfl Tryz.runUnderlying25 Tryz.sizeOf3 rfl (by omega)) ?_
  refine .y hs (zld Tryz.isAgg3) (.z zg (.nil (.seq (.regSeq (.z zm (.z (zlen Tryz.runUnderlying25) (.z zm (.nil ?_))))))))
  refine .for (N := N + 1) (J := fun k fr w => fr = [(3, .slice (some ⟨bc, 0, none⟩) (N + 1) (N + 1)), (6, I (gi st.cost 0))] ∧ ∃ L, (L.length = N + 1 ∧ ∀ v < N + 1, gi L v = if v < k then gi st.cost v - gi st.cost 0 else gi st.cost v) ∧ St H2 w (.blk bc (Is L) :: σ)) (by omega) ?_ ?_ ?_
  · exact .mk ⟨rfl, st.cost, ⟨hlc, fun v hv => by rw [if_neg (by omega)]⟩, hs.sub (by repeat (first | exact Sub.refl _ | constructor | apply Sub.weaken))⟩
  · rintro k fr w hk ⟨rfl, L, ⟨hL1, hL2⟩, hs⟩
    have hLk := hL2 k hk
    rw [if_neg (by omega)] at hLk
    have hbk := hbd k hk
    refine .block (.regSeq (.z zm (.z zg (.nil (.region (.z zm (.z zm ?_)))))))
    first | (refine .ixv hs Tryz.runUnderlying25 Tryz.sizeOf3 ?_; intro b30 o30 hc30) | refine .z (zix Tryz.runUnderlying25 Tryz.sizeOf3) ?_
    refine .y hs (zld Tryz.isAgg3) (.z zm (.z zsub ?_))
    first | (refine .ixv hs Tryz.runUnderlying25 Tryz.sizeOf3 ?_; intro b34 o34 hc34) | refine .z (zix Tryz.runUnderlying25 Tryz.sizeOf3) ?_
    refine .o (.store hs rfl rfl Tryz.sizeOf3 ?_); intro w hs
    refine .nil ?_
    refine nB (nT ?_)
    refine .mk ⟨rfl, _, ⟨by rw [List.length_set]; exact hL1, fun v hv => ?_⟩, hs⟩
    rw [gi_set (by omega)]
    by_cases e : v = k
    · subst e; rw [if_pos rfl, if_pos (by omega), hLk]
    · rw [if_neg e, hL2 v hv]; congr 1; apply propext; omega
  · rintro fr w ⟨rfl, L, ⟨hL1, hL2⟩, hs⟩
    refine nT ?_
    refine .regSeq (.z zm (.z zg (.nil ?_)))
    refine .ret (Fin.ret1 Tryz.results179 rfl ?_)
    obtain ⟨H3, g1, g2, hs⟩ := hs.publish .here
    have hg : ∀ v < N + 1, gi L v = gi st.cost v - gi st.cost 0 := fun v hv => by rw [hL2 v hv, if_pos hv]
    obtain ⟨p1, p2⟩ := hFo.point (by omega) hok.arcs hfe
    refine ⟨H3, L, hle1.trans (hle2.trans g1), ?_, ⟨by omega, by rw [hg 0 (by omega)]; omega, fun v hv => ?_, fun x hx => ?_, ?_⟩, hs⟩
    · have := Row.RI (spare := []) (by simpa using g2) (N + 1) (by omega) (by omega)
      rwa [hL1] at this
    · have := hbd v (by omega)
      rw [hg v (by omega)]; omega
    · have h1 := hok.arcs.2 x hx
      have h2 := p2 x hx
      rw [hg _ (by omega), hg _ (by omega)]; omega
    · have h1 := hFo.value (by omega) (by omega) hok.arcs hsz
      rw [← p1] at h1
      have e : sumTo (fun v => gi ws v * gi L v) s.n = sumTo (fun v => gi ws v * (gi st.cost v - gi st.cost 0)) s.n := sumTo_congr fun v hv => by rw [hg v (by omega)]
      rw [e]; exact h1.1
theorem bound_Best_spec {H : Heap} {w : World} {σ : List Ent} {v vw : Value} {s : Syst} {ws : List Int} (hs : St H w σ) (hr : RSy H v s) (hrw : RI H vw ws) :
    Cl Tryz.prog 137 [v, vw] w fun v w' => ∃ H1 vx xs e, HLe H H1 ∧ v = .tuple #[vx, I e] ∧ AskR s ws e ∧ RI H1 vx xs ∧ (e ≠ 0 → xs = []) ∧ (e = 0 → BestR s ws xs) ∧ St H1 w' σ := by
  obtain ⟨vl, rfl, hr⟩ := hr
  refine Cl.of Tryz.func137 rfl Tryz.ntmps137 (by simp) (args_cons (k := 0) rfl (args_cons (k := 1) rfl (args0))) ?_
  refine .regSeq ?_
  refine .o (.box hs rfl rfl ?_); intro b2 w hs
  refine .z zg (.z zg (.nil (.regSeq (.y hs (zls [_, _] Tryz.isAgg24 Tryz.sizeOf24) (.z zm ?_)))))
  refine .o (.call Tryz.call148 rfl (bound_asked_spec (s := s) hs ⟨_, rfl, hr⟩ hrw) ?_); rintro _ w ⟨H1, e, pf, hle1, rfl, hA, hs, hne, heq⟩
  refine .z zm (.z zex (.z zex (.z zg (.z zg (.nil (.seq (.regSeq (.z zm (.z zneq ?_)))))))))
  refine .nil ?_
  refine (.condN rfl (fun hc15 => ?_) (fun hc15 => ?_))
  · refine .regSeq (.z zm (.z zg (.z zg (.nil ?_))))
    refine .ret (rT (Fin.ret2 Tryz.results137 rfl rfl ?_))
    exact ⟨H1, _, [], _, hle1, rfl, hA, RS.nil H1 1 none 0, fun _ => rfl, fun h => (hc15 h).elim, hs.tail⟩
  · refine .skip ?_
    refine nT ?_
    refine .regSeq (.z zm ?_)
    subst hc15
    obtain ⟨bf, bt, bl, cl, ts, lf, vl, sp, rfl, hF, hFo, hok, hsz⟩ := heq rfl
    refine .o (.call Tryz.call179 rfl (bound_flow_point_spec hs hok hF hFo hsz) ?_); rintro v18 w ⟨H2, xs, hle2, hx, hB, hs⟩
    refine .z zg (.z zg (.nil ?_))
    refine .ret (Fin.ret2 Tryz.results137 rfl rfl ?_)
    exact ⟨H2, _, xs, _, hle1.trans hle2, rfl, hA, hx, fun h => (h rfl).elim, fun _ => hB, hs.tail⟩
theorem bound_Prove_spec {H : Heap} {w : World} {σ : List Ent} {v vw : Value} {s : Syst} {ws : List Int} (hs : St H w σ) (hr : RSy H v s) (hrw : RI H vw ws) :
    Cl Tryz.prog 88 [v, vw] w fun v w' => ∃ H1 vp n us e, HLe H H1 ∧ v = .tuple #[vp, I e] ∧ MostR s ws n e ∧ RPf H1 vp n us ∧ (e ≠ 0 → us = []) ∧ (e = 0 → s.Ok ∧ sizesTo ws s.n ≤ FF ∧ ∃ ts, FlowOk s.n s.arcs (wtOf ws s.n) ts ∧ n = dot s.arcs ts (·.c) ∧ us = usesTo ts ts.length) ∧ St H1 w' σ := by
  obtain ⟨vl, rfl, hr⟩ := hr
  refine Cl.of Tryz.func88 rfl Tryz.ntmps88 (by simp) (args_cons (k := 0) rfl (args_cons (k := 1) rfl (args0))) ?_
  refine .regSeq ?_
  refine .o (.box hs rfl rfl ?_); intro b2 w hs
  refine .o (.alloc hs Tryz.zeroValue63 rfl ?_); intro b4 w hs
  refine .z zg (.nil (.regSeq (.y hs (zls [_, _] Tryz.isAgg24 Tryz.sizeOf24) (.z zm ?_))))
  refine .o (.call Tryz.call148 rfl (bound_asked_spec (s := s) hs ⟨_, rfl, hr⟩ hrw) ?_); rintro _ w ⟨H1, e, pf, hle1, rfl, hA, hs, hne, heq⟩
  refine .z zm (.z zex (.z zex (.z zg (.z zg (.nil (.seq (.regSeq (.z zm (.z zneq ?_)))))))))
  refine .nil ?_
  refine (.condN rfl (fun hc15 => ?_) (fun hc15 => ?_))
  · refine .regSeq (.z (zbd [_, _] bld_api_Proof) (.z zm ?_))
    refine .o (.stores (vs := [_, _]) hs rfl rfl Tryz.sizeOf63 ?_); intro w hs
    refine .z zg (.nil ?_)
    refine .ret (rT (?_))
    exact Fin.retD [] [] hs fun w hs => ⟨_, results2 Tryz.results88 (rcells (vs := [_, _]) hs rfl Tryz.isAgg63 Tryz.sizeOf63) rfl, H1, _, 0, [], _, hle1, rfl, ⟨hA, fun _ => rfl, fun h => (hc15 h).elim⟩, ⟨_, rfl, RS.nil H1 2 none 0⟩, fun _ => rfl, fun h => (hc15 h).elim, hs.out⟩
  · refine .skip ?_
    refine nT ?_
    refine .regSeq (.z zm ?_)
    subst hc15
    obtain ⟨bf, bt, bl, cl, ts, lf, vl, sp, rfl, hF, hFo, hok, hsz⟩ := heq rfl
    refine .o (.call Tryz.call156 rfl (bound_flow_proof_spec hs hok hF hFo hsz) ?_); rintro _ w ⟨H2, hle2, ⟨vu, rfl, hU⟩, hs⟩
    obtain ⟨au, cu, rfl⟩ := RU.shape hU
    obtain ⟨q1, q2, q3, q4⟩ := hFo.value (by simp [Syst.n]) (by have := hok.m0; have := hok.m1; simp only [Syst.n]; omega) hok.arcs hsz
    refine .o (.stores (vs := [_, _]) hs rfl rfl Tryz.sizeOf63 ?_); intro w hs
    refine .z zg (.nil ?_)
    refine .ret ?_
    exact Fin.retD [] [] hs fun w hs => ⟨_, results2 Tryz.results88 (rcells (vs := [_, _]) hs rfl Tryz.isAgg63 Tryz.sizeOf63) rfl, H2, _, _, _, _, hle1.trans hle2, rfl, ⟨hA, fun h => (h rfl).elim, fun _ => ⟨q1, q3, q4⟩⟩, ⟨_, rfl, hU⟩, fun h => (h rfl).elim, fun _ => ⟨hok, hsz, ts, hFo, rfl, rfl⟩, hs.out⟩
end Go.Proofs.YtiiokdeehlfeeaaGreat

namespace Go.Proofs.YtiiokdeehlfeeaaGreat
open Go.MW
theorem probe_isWithin_spec {H : Heap} {w : World} {σ : List Ent} {a0 a1 a2 : Int} (hs : St H w σ) : Cl Tryz.prog 52 [I a0, I a1, I a2] w fun v w' => v = .bool (decide (a1 ≤ a0 ∧ a0 ≤ a2)) ∧ St H w' σ := by
  refine Cl.of Tryz.func52 rfl Tryz.ntmps52 (by simp) (args_cons (k := 0) rfl (args_cons (k := 1) rfl (args_cons (k := 2) rfl (args0)))) ?_
  refine .regSeq (.z zg (.nil (.regSeq (.z zm (.z zm (.z zleq (.z zm ?_)))))))
  refine .bifD (t' := 10) rfl (fun hb10 => ?_) (fun hb10 => ?_)
  · refine .gT rfl rfl ?_
    refine .z zm ?_
    refine .gT rfl rfl ?_
    refine .z zm ?_
    refine .gT rfl rfl ?_
    refine .z zleq (.z zpT (.z zg (.nil ?_)))
    refine .ret (Fin.ret1 Tryz.results52 rfl ?_)
    exact ⟨by simp [*], hs.out⟩
  · refine .gFs 3 3 true rfl rfl rfl ?_
    refine .z zpF (.z zg (.nil ?_))
    refine .ret (Fin.ret1 Tryz.results52 rfl ?_)
    exact ⟨by simp [*], hs.out⟩
theorem probe_areWeights_spec {H : Heap} {w : World} {σ : List Ent} {v : Value} {ws : List Int} {many : Int} (hs : St H w σ) (hr : RI H v ws) (hm : 0 ≤ many ∧ many ≤ 64) : Cl Tryz.prog 199 [v, I many] w fun v w' => ∃ b, v = .bool b ∧ (b = true ↔ AWts ws many) ∧ St H w' σ := by
  obtain ⟨a, c, rfl⟩ := RI.shape hr
  have hl := (RI.len hr).2.2
  have over : ∀ k, k ≤ ws.length → 1800000000000 < sizesTo ws k → ¬ AWts ws many := fun k hk h ha => by
    have h1 := sumTo_mono (f := fun v => max (gi ws v) (-gi ws v)) (fun v => by omega) hk
    have h2 := ha.1
    unfold sizesTo at *
    omega
  refine Cl.of Tryz.func199 rfl Tryz.ntmps199 (by simp) (args_cons (k := 0) rfl (args_cons (k := 1) rfl (args0))) ?_
  refine .regSeq (.z zg (.nil (.regSeq (.z zg (.nil (.seq (.regSeq (.z zm (.z (zlen Tryz.runUnderlying25) ?_)))))))))
  refine .z zm (.nil ?_)
  refine .for (N := ws.length) (J := fun k fr w => fr = [(8, .slice a ws.length c), (5, I (sizesTo ws k)), (0, .slice a ws.length c), (1, I many)] ∧ sizesTo ws k ≤ 1800000000000 ∧ St H w σ) (by omega) ?_ ?_ ?_
  · exact .mk ⟨rfl, by simp [sizesTo, sumTo], hs⟩
  · rintro k fr w hk ⟨rfl, hle, hs⟩
    have hx := gi_get hk
    have h0 : 0 ≤ sizesTo ws k := sumTo_nonneg fun v _ => by omega
    have h1 : sizesTo ws (k + 1) = sizesTo ws k + max (gi ws k) (-gi ws k) := rfl
    refine .block (.regSeq ?_)
    first | (refine .ixv hs Tryz.runUnderlying25 Tryz.sizeOf3 ?_; intro b12 o12 hc12) | refine .z (zix Tryz.runUnderlying25 Tryz.sizeOf3) ?_
    refine .y hs (zld Tryz.isAgg3) (.z zg (.nil (.seq (.regSeq (.z zm ?_)))))
    refine .o (.call Tryz.call52 rfl (probe_isWithin_spec hs) ?_); rintro _ w ⟨rfl, hs⟩
    refine .z znot (.nil ?_)
    refine (.cond rfl (fun hc16 => ?_) (fun hc16 => ?_))
    · refine .regSeq (.z zg (.nil ?_))
      refine .ret (rT (rB (rT (rB (rT (Fin.ret1 Tryz.results199 rfl ?_))))))
      exact ⟨false, rfl, ⟨fun h => (by cases h), fun h => (over (k + 1) hk (by simp at hc16; omega) h).elim⟩, hs⟩
    · refine .skip ?_
      refine nT ?_
      refine .regSeq ?_
      simp only [Bool.not_eq_false', decide_eq_true_eq] at hc16
      refine .z zm (.z zm (.z zm (.z zneg (.z zmax (.z zadd (.z zg (.nil (.regSeq (.z zm ?_)))))))))
      refine .z zgtr (.nil ?_)
      refine (.condD rfl (fun hc24 => ?_) (fun hc24 => ?_))
      · refine .regSeq (.z zg (.nil ?_))
        refine .ret (rB (rT (rB (rT (Fin.ret1 Tryz.results199 rfl ?_)))))
        exact ⟨false, rfl, ⟨fun h => (by cases h), fun h => (over (k + 1) hk (by omega) h).elim⟩, hs⟩
      · refine .skip ?_
        refine nB (nT ?_)
        exact .mk ⟨rfl, by omega, hs⟩ (hs := .cons rfl (.cons rfl (.cons rfl (.consI rfl (by omega) (.cons rfl (.cons rfl (.nil rfl rfl)))))))
  · rintro fr w ⟨rfl, hle, hs⟩
    refine nT ?_
    refine .regSeq (.z zm (.z (zlen Tryz.runUnderlying25) (.z zm (.z zadd (.z zeql (.z zg (.nil ?_)))))))
    refine .ret (Fin.ret1 Tryz.results199 rfl ?_)
    exact ⟨_, rfl, by simp only [decide_eq_true_eq]; exact ⟨fun h => ⟨hle, h⟩, fun h => h.2⟩, hs⟩
theorem probe_CheckAsk_spec {H : Heap} {w : World} {σ : List Ent} {v : Value} {a : Quest} (hs : St H w σ) (hr : RAsk H v a) : Cl Tryz.prog 180 [v] w fun v w' => ∃ H1 e, HLe H H1 ∧ v = I e ∧ CAskR a e ∧ St H1 w' σ := by
  obtain ⟨ul, uw, rfl, hl, hw⟩ := hr
  obtain ⟨al, cpl, rfl⟩ := RL.shape hl
  have hm : a.sys.check = 0 → 0 ≤ a.sys.many ∧ a.sys.many ≤ 64 := fun h => by
    have h1 := a.sys.ok_iff.1 h
    exact ⟨h1.m0, h1.m1⟩
  refine Cl.of Tryz.func180 rfl Tryz.ntmps180 (by simp) (args_cons (k := 0) rfl (args0)) ?_
  refine .regSeq ?_
  refine .o (.box hs rfl rfl ?_); intro b1 w hs
  refine .z zg (.nil (.seq (.regSeq (.z (zfa fa_api_Ask_0) (.y hs (zls [_, _] Tryz.isAgg24 Tryz.sizeOf24) ?_)))))
  refine .o (.call Tryz.call113 rfl (bound_Check_spec (s := a.sys) hs ⟨_, rfl, hl⟩) ?_); rintro _ w ⟨rfl, hs⟩
  refine .z zg (.nil (.regSeq (.z zm (.z zneq (.nil ?_)))))
  refine (.condN rfl (fun hc11 => ?_) (fun hc11 => ?_))
  · refine .regSeq (.z zm (.z zg (.nil ?_)))
    refine .ret (rT (Fin.ret1 Tryz.results180 rfl ?_))
    exact ⟨H, _, HLe.refl _, rfl, .sys hc11, hs.tail⟩
  · refine .skip ?_
    refine nT ?_
    refine .seq (.block (.regSeq (.z (zfa fa_api_Ask_0) (.z (zfa fa_api_System_0) (.y hs (zld Tryz.isAgg3) (.z zgtr (.z zm ?_)))))))
    refine .bifD (t' := 18) rfl (fun hb18 => ?_) (fun hb18 => ?_)
    · refine .gFs 5 4 false rfl rfl rfl ?_
      refine .z zpT (.z zg (.nil ?_))
      refine (.condT rfl rfl ?_)
      refine .regSeq (.z zg (.nil ?_))
      refine .ret (rB (rT (Fin.ret1 Tryz.results180 rfl ?_)))
      exact ⟨H, _, HLe.refl _, rfl, .long hc11 (by omega), hs.tail⟩
    · refine .gT rfl rfl ?_
      refine .z (zfa fa_api_Ask_0) ?_
      refine .gT rfl rfl ?_
      refine .z (zfa fa_api_System_1) ?_
      refine .gT rfl rfl ?_
      refine .y hs (zld Tryz.isAgg22) ?_
      refine .gT rfl rfl ?_
      refine .z (zlen Tryz.runUnderlying22) ?_
      refine .gT rfl rfl ?_
      refine .z zgtr (.z zpF (.z zg (.nil ?_)))
      refine (.condD rfl (fun hc13 => ?_) (fun hc13 => ?_))
      · refine .regSeq (.z zg (.nil ?_))
        refine .ret (rB (rT (Fin.ret1 Tryz.results180 rfl ?_)))
        exact ⟨H, _, HLe.refl _, rfl, .long hc11 (by omega), hs.tail⟩
      · refine .regSeq (.z (zfa fa_api_Ask_1) (.y hs (zld Tryz.isAgg25) (.z (zfa fa_api_Ask_0) (.z (zfa fa_api_System_0) (.y hs (zld Tryz.isAgg3) ?_)))))
        refine .o (.call Tryz.call199 rfl (probe_areWeights_spec hs hw (hm hc11)) ?_); rintro _ w ⟨bw, rfl, hbw, hs⟩
        refine .z znot (.z zg (.nil ?_))
        refine (.cond rfl (fun hc25 => ?_) (fun hc25 => ?_))
        · refine .regSeq (.z zg (.nil ?_))
          refine .ret (rB (rT (Fin.ret1 Tryz.results180 rfl ?_)))
          exact ⟨H, _, HLe.refl _, rfl, .weight hc11 (by omega) (fun h => by rw [hbw.2 h] at hc25; cases hc25), hs.tail⟩
        · refine .regSeq (.z (zfa fa_api_Ask_2) (.y hs (zld Tryz.isAgg3) ?_))
          refine .o (.call Tryz.call52 rfl (probe_isWithin_spec hs) ?_); rintro _ w ⟨rfl, hs⟩
          refine .z znot (.z zg (.nil ?_))
          refine (.cond rfl (fun hc33 => ?_) (fun hc33 => ?_))
          · refine .regSeq (.z zg (.nil ?_))
            refine .ret (rB (rT (Fin.ret1 Tryz.results180 rfl ?_)))
            exact ⟨H, _, HLe.refl _, rfl, .width hc11 (by omega) (hbw.1 (by simpa using hc25)) (fun h => by simp [h] at hc33), hs.tail⟩
          · refine .skip ?_
            refine nB (nT ?_)
            refine .regSeq (.z (zfa fa_api_Ask_0) (.y hs (zls [_, _] Tryz.isAgg24 Tryz.sizeOf24) (.z (zfa fa_api_Ask_1) (.y hs (zld Tryz.isAgg25) ?_))))
            refine .o (.call Tryz.call73 rfl (bound_Range_spec (s := a.sys) hs ⟨_, rfl, hl⟩ hw) ?_); rintro _ w ⟨H1, lo, hi, e, hle1, rfl, hR, hs⟩
            refine .z zm (.z zex (.z zex (.z zex (.z zg (.z zg (.z zg (.nil (.regSeq (.z zm ?_)))))))))
            refine .z zg (.nil ?_)
            refine .ret (Fin.ret1 Tryz.results180 rfl ?_)
            exact ⟨H1, _, hle1, rfl, .range hc11 (by omega) (hbw.1 (by simpa using hc25)) (by simpa using hc33) hR, hs.tail⟩
theorem probe_one_spec {H : Heap} {w : World} {σ : List Ent} {v : Value} {a : Quest} {u : Int} (hs : St H w σ) (hr : RAsk H v a) (hm : a.sys.many ≤ 64) (hu : 0 ≤ u ∧ u ≤ a.sys.many) : Cl Tryz.prog 74 [v, I u] w fun v w' => ∃ H1, HLe H H1 ∧ RI H1 v (oneW a.sys.many u) ∧ St H1 w' σ := by
  obtain ⟨ul, uw, rfl, hl, hw⟩ := hr
  have e1 : a.sys.many + 1 = ((a.sys.many.toNat + 1 : Nat) : Int) := by omega
  refine Cl.of Tryz.func74 rfl Tryz.ntmps74 (by simp) (args_cons (k := 0) rfl (args_cons (k := 1) rfl (args0))) ?_
  refine .regSeq ?_
  refine .o (.box hs rfl rfl ?_); intro b2 w hs
  refine .z zg (.nil (.regSeq (.z (zfa fa_api_Ask_0) (.z (zfa fa_api_System_0) (.y hs (zld Tryz.isAgg3) (.z zadd ?_))))))
  rw [e1]
  refine .o (.makeI (a.sys.many.toNat + 1) hs rfl rfl Tryz.runUnderlying25 Tryz.typeInfo3 rfl Tryz.sizeOf3 Tryz.zeroValue3 (by omega) ?_); intro b10 w hs
  refine .z zg (.nil (.regSeq (.z zm (.z zm ?_))))
  refine .q hs (q_ixO (k := u.toNat) rfl rfl Tryz.runUnderlying25 Tryz.sizeOf3 (by omega) (by omega)) ?_
  refine .o (.store hs rfl rfl Tryz.sizeOf3 ?_ (by repeat constructor) (blt_Is (by simp; omega)) (Is_set _ _ _)); intro w hs
  refine .nil (.regSeq (.z zm (.z zg (.nil ?_))))
  refine .ret (Fin.ret1 Tryz.results74 rfl ?_)
  obtain ⟨H1, g1, g2, hs⟩ := hs.publish .here
  refine ⟨H1, g1, ?_, hs.out⟩
  have := Row.RI (xs := oneW a.sys.many u) (spare := []) (by simpa [oneW] using g2) (a.sys.many.toNat + 1) (by simp [oneW]) (by simp [oneW]; omega)
  simpa [oneW] using this
theorem probe_isProbe_spec {H : Heap} {w : World} {σ : List Ent} {v : Value} {a : Quest} {p : Prb} (hs : St H w σ) (hr : RAsk H v a) (hm : a.sys.many ≤ 64) : Cl Tryz.prog 183 [v, .agg p.c.toArray] w fun v w' => ∃ H1 b, HLe H H1 ∧ v = .bool b ∧ (b = true ↔ PrbOk a p) ∧ St H1 w' σ := by
  obtain ⟨ul, uw, rfl, hl, hw⟩ := hr
  refine Cl.of Tryz.func183 rfl Tryz.ntmps183 (by simp) (args_cons (k := 0) rfl (args_cons (k := 1) rfl (args0))) ?_
  refine .regSeq ?_
  refine .o (.box hs rfl rfl ?_); intro b2 w hs
  refine .o (.box hs rfl rfl ?_); intro b3 w hs
  refine .z zg (.nil (.seq (.regSeq (.z (zfa fa_api_Probe_0) (.y hs (zld Tryz.isAgg3) (.z (zfa fa_api_Ask_0) (.z (zfa fa_api_System_0) (.y hs (zld Tryz.isAgg3) ?_))))))))
  refine .o (.call Tryz.call52 rfl (probe_isWithin_spec hs) ?_); rintro _ w ⟨rfl, hs⟩
  refine .z znot (.z zm ?_)
  refine .bif (t' := 15) rfl (fun hb15 => ?_) (fun hb15 => ?_)
  · refine .gFs 4 7 false rfl rfl rfl ?_
    refine .z zpT (.nil ?_)
    refine (.condT rfl rfl ?_)
    refine .regSeq (.z zg (.nil ?_))
    refine .ret (rT (Fin.ret1 Tryz.results183 rfl ?_))
    exact ⟨H, false, HLe.refl _, rfl, ⟨fun h => (by cases h), fun h => by simp [h.1] at hb15⟩, hs.out⟩
  · refine .gT rfl rfl ?_
    refine .z (zfa fa_api_Probe_1) ?_
    refine .gT rfl rfl ?_
    refine .y hs (zld Tryz.isAgg3) ?_
    refine .gT rfl rfl ?_
    refine .o (.call Tryz.call52 rfl (probe_isWithin_spec hs) ?_); rintro _ w ⟨rfl, hs⟩
    refine .gT rfl rfl ?_
    refine .z znot (.z zpF (.nil ?_))
    refine (.cond rfl (fun hc20 => ?_) (fun hc20 => ?_))
    · refine .regSeq (.z zg (.nil ?_))
      refine .ret (rT (Fin.ret1 Tryz.results183 rfl ?_))
      exact ⟨H, false, HLe.refl _, rfl, ⟨fun h => (by cases h), fun h => by simp [h.2.1] at hc20⟩, hs.out⟩
    · refine .skip ?_
      refine nT ?_
      refine .seq (.draw mix rfl hs ?_); intro w hs
      refine .z 0 rfl (zfa fa_api_Ask_0) ?_; refine .ys 1 rfl hs [_, _] Tryz.isAgg24 Tryz.sizeOf24 ?_; refine .ys 2 rfl hs [_, _, _, _] Tryz.isAgg27 Tryz.sizeOf27 ?_; refine .z 3 rfl (zfa fa_api_Probe_0) ?_; refine .y 4 rfl hs Tryz.isAgg3 ?_
      refine .e1 (i := 5) (by kernel_rfl) rfl rfl .none hs ?_
      simp only [Bool.not_eq_false', decide_eq_true_eq] at hb15 hc20
      refine .call Tryz.call74 rfl (probe_one_spec (a := a) hs ⟨_, _, rfl, hl, hw⟩ hm (by omega)) ?_; rintro v27 w ⟨H1, hle1, hr27, hs⟩
      refine .go ?_
      refine .e1 (i := 6) (by kernel_rfl) rfl rfl .none hs ?_
      refine .call Tryz.call73 rfl (bound_Range_spec (s := a.sys) hs ⟨_, rfl, hl.mono hle1⟩ hr27) ?_; rintro _ w ⟨H2, lo, hi, e, hle2, rfl, hR, hs⟩
      refine .go ?_
      refine .z 7 rfl zm ?_; refine .z 8 rfl zex ?_; refine .z 9 rfl zex ?_; refine .z 10 rfl zex ?_; refine .z 11 rfl zg ?_; refine .z 12 rfl zg ?_; refine .z 13 rfl zg ?_; refine .done (by kernel_rfl) hs ?_
      refine .regSeq (.z zm (.z zeql (.z zm ?_)))
      refine .bifD (t' := 34) rfl (fun hb34 => ?_) (fun hb34 => ?_)
      · refine .gT rfl rfl ?_
        refine .z zm ?_
        refine .gT rfl rfl ?_
        refine .z zgeq (.z zpT (.z zm ?_))
        refine .bifD (t' := 38) rfl (fun hb38 => ?_) (fun hb38 => ?_)
        · refine .gT rfl rfl ?_
          refine .z zm ?_
          refine .gT rfl rfl ?_
          refine .z zleq (.z zpT (.z zg (.nil ?_)))
          refine .ret (Fin.ret1 Tryz.results183 rfl ?_)
          exact ⟨H2, _, hle1.trans hle2, rfl, by
            first
              | exact ⟨fun h => (by cases h), fun ⟨_, _, lo', hi', h1, h2, h3⟩ => by
                  obtain ⟨rfl, rfl, rfl⟩ := hR.uniq h1
                  first | exact (hb34 rfl).elim | exact (hb38 h2).elim⟩
              | (simp only [decide_eq_true_eq]
                 subst hb34
                 exact ⟨fun h => ⟨hb15, hc20, lo, hi, hR, by omega, h⟩, fun ⟨_, _, lo', hi', h1, h2, h3⟩ => by
                  obtain ⟨rfl, rfl, -⟩ := hR.uniq h1
                  exact h3⟩), hs.out⟩
        · refine .gFs 2 6 true rfl rfl rfl ?_
          refine .z zpF (.z zg (.nil ?_))
          refine .ret (Fin.ret1 Tryz.results183 rfl ?_)
          exact ⟨H2, _, hle1.trans hle2, rfl, by
            first
              | exact ⟨fun h => (by cases h), fun ⟨_, _, lo', hi', h1, h2, h3⟩ => by
                  obtain ⟨rfl, rfl, rfl⟩ := hR.uniq h1
                  first | exact (hb34 rfl).elim | exact (hb38 h2).elim⟩
              | (simp only [decide_eq_true_eq]
                 subst hb34
                 exact ⟨fun h => ⟨hb15, hc20, lo, hi, hR, by omega, h⟩, fun ⟨_, _, lo', hi', h1, h2, h3⟩ => by
                  obtain ⟨rfl, rfl, -⟩ := hR.uniq h1
                  exact h3⟩), hs.out⟩
      · refine .gFs 2 2 true rfl rfl rfl ?_
        refine .z zpF (.z zm ?_)
        refine .gFs 2 6 true rfl rfl rfl ?_
        refine .z zpF (.z zg (.nil ?_))
        refine .ret (Fin.ret1 Tryz.results183 rfl ?_)
        exact ⟨H2, _, hle1.trans hle2, rfl, by
          first
            | exact ⟨fun h => (by cases h), fun ⟨_, _, lo', hi', h1, h2, h3⟩ => by
                obtain ⟨rfl, rfl, rfl⟩ := hR.uniq h1
                first | exact (hb34 rfl).elim | exact (hb38 h2).elim⟩
            | (simp only [decide_eq_true_eq]
               subst hb34
               exact ⟨fun h => ⟨hb15, hc20, lo, hi, hR, by omega, h⟩, fun ⟨_, _, lo', hi', h1, h2, h3⟩ => by
                obtain ⟨rfl, rfl, -⟩ := hR.uniq h1
                exact h3⟩), hs.out⟩
theorem IndexFunc_Prb {H : Heap} {w : World} {σ : List Ent} {v : Value} {ls : List Prb} {g : Nat} {cap : List Value} {q : Prb → Prop} (hs : St H w σ) (hr : RPs H v ls)
    (hc : ∀ args w, (callFunc g args).run Tryz.prog w = .ok (.enter g args) w) (hp : ∀ w l, St H w σ → Cl Tryz.prog g ([.agg l.c.toArray] ++ cap) w fun u w' => ∃ b, u = .bool b ∧ (b = true ↔ q l) ∧ St H w' σ) :
    Cl Tryz.prog 200 [v, .func (.func g) #[] cap.toArray] w fun u w' => ∃ i, u = I i ∧ (0 ≤ i ↔ ∃ p ∈ ls, q p) ∧ St H w' σ := by
  obtain ⟨a, c, rfl⟩ := RPs.shape hr
  have hl := (RPs.len hr).2.2
  refine Cl.of Tryz.func200 rfl Tryz.ntmps200 (by simp) (args_cons (k := 0) rfl (args_cons (k := 1) rfl (args0))) ?_
  refine .regSeq (.z zg (.nil (.seq (.regSeq (.z zm (.z (zlen Tryz.runUnderlying28) (.z zm (.nil ?_))))))))
  refine .for (N := ls.length) (J := fun k fr w => fr = [(1, .func (.func g) #[] cap.toArray), (0, .slice a ls.length c)] ∧ St H w σ ∧ ∀ j < k, ∀ l, ls[j]? = some l → ¬ q l) (by omega) ?_ ?_ ?_
  · exact .mk ⟨rfl, hs, fun j hj => by omega⟩
  · rintro k fr w hk ⟨rfl, hs, hno⟩
    obtain ⟨l, hl⟩ := nth hk
    refine .block (.regSeq (.z zm (.z zg (.nil (.regSeq (.z zm (.z zm (.z zm ?_))))))))
    refine .ixX hs hr rfl rfl Tryz.runUnderlying28 Tryz.sizeOf54 hl rfl ?_; intro b14 o14 hc14
    refine .y hs (zls [_, _] Tryz.isAgg54 Tryz.sizeOf54) ?_
    refine .o (.callG (first := []) rfl rfl hc (hp _ _ hs) ?_); rintro _ w ⟨b16, rfl, hb16, hs⟩
    refine .nil ?_
    refine (.cond rfl (fun hc16 => ?_) (fun hc16 => ?_))
    · refine .regSeq (.z zm (.z zg (.nil ?_)))
      refine .ret (rB (rT (rB (rT (Fin.ret1 Tryz.results200 rfl ?_)))))
      exact ⟨_, rfl, ⟨fun _ => ⟨l, List.mem_of_getElem? hl, hb16.1 hc16⟩, fun _ => by omega⟩, hs⟩
    · refine .skip ?_
      refine nB (nT ?_)
      exact .mk ⟨rfl, hs, upto_succ hno hl (fun h => by rw [hb16.2 h] at hc16; cases hc16)⟩
  · rintro fr w ⟨rfl, hs, hno⟩
    refine nT ?_
    refine .regSeq (.z zg (.nil ?_))
    refine .ret (Fin.ret1 Tryz.results200 rfl ?_)
    exact ⟨_, rfl, ⟨fun h => by omega, fun ⟨p, h1, h2⟩ => by
      obtain ⟨j, hj⟩ := List.getElem?_of_mem h1
      exact (hno j (List.getElem?_eq_some_iff.1 hj).1 p hj h2).elim⟩, hs⟩
theorem ContainsFunc_Prb {H : Heap} {w : World} {σ : List Ent} {v : Value} {ls : List Prb} {g : Nat} {cap : List Value} {q : Prb → Prop} (hs : St H w σ) (hr : RPs H v ls)
    (hc : ∀ args w, (callFunc g args).run Tryz.prog w = .ok (.enter g args) w) (hp : ∀ w l, St H w σ → Cl Tryz.prog g ([.agg l.c.toArray] ++ cap) w fun u w' => ∃ b, u = .bool b ∧ (b = true ↔ q l) ∧ St H w' σ) :
    Cl Tryz.prog 181 [v, .func (.func g) #[] cap.toArray] w fun u w' => ∃ b, u = .bool b ∧ (b = true ↔ ∃ p ∈ ls, q p) ∧ St H w' σ := by
  refine Cl.of Tryz.func181 rfl Tryz.ntmps181 (by simp) (args_cons (k := 0) rfl (args_cons (k := 1) rfl (args0))) ?_
  refine .regSeq (.z zg (.nil (.regSeq (.z zm (.z zm ?_)))))
  refine .o (.call Tryz.call200 rfl (IndexFunc_Prb hs hr hc hp) ?_); rintro _ w ⟨i, rfl, hi, hs⟩
  refine .z zgeq (.z zg (.nil ?_))
  refine .ret (Fin.ret1 Tryz.results181 rfl ?_)
  exact ⟨_, rfl, by simp only [decide_eq_true_eq]; exact hi, hs⟩
theorem probe_CheckProbes_1 {H : Heap} {w : World} {σ : List Ent} {b : Nat} {a : Quest} {ul uw : Value} {p : Prb} (hs : St H w σ) (hb : Row H b [I a.sys.many, ul, uw, I a.width]) (hl : RL H ul a.sys.lims) (hw : RI H uw a.ws) (hm : a.sys.many ≤ 64) :
    Cl Tryz.prog 182 [.agg p.c.toArray, .pointer (some ⟨b, 0, none⟩)] w fun v w' => ∃ b, v = .bool b ∧ (b = true ↔ ¬ PrbOk a p) ∧ St H w' σ := by
  have hba := hb.cells 0 [I a.sys.many, ul, uw, I a.width]
  refine Cl.of Tryz.func182 rfl Tryz.ntmps182 (by simp) (args_cons (k := 0) rfl (args_cons (k := 1) rfl (args0))) ?_
  refine .regSeq ?_
  refine .o (.box hs rfl rfl ?_); intro b2 w hs
  refine .z zg (.nil (.regSeq ?_))
  refine .q hs (q_loadsR (vs := [I a.sys.many, ul, uw, I a.width]) rfl Tryz.isAgg27 Tryz.sizeOf27 hba) ?_
  refine .q hs (q_loads (vs := p.c) rfl Tryz.isAgg54 Tryz.sizeOf54) ?_
  refine .o (.call Tryz.call183 rfl (probe_isProbe_spec (a := a) hs ⟨_, _, rfl, hl, hw⟩ hm) ?_); rintro _ w ⟨H1, b6, hle1, rfl, hb6, hs⟩
  refine .z znot (.z zg (.nil ?_))
  refine .ret (Fin.ret1 Tryz.results182 rfl ?_)
  exact ⟨_, rfl, by rw [← hb6]; cases b6 <;> simp, (hs.le hle1).out⟩
theorem probe_CheckProbes_spec {H : Heap} {w : World} {σ : List Ent} {v vl : Value} {a : Quest} {l : List Prb} (hs : St H w σ) (hr : RAsk H v a) (hp : RPs H vl l) : Cl Tryz.prog 141 [v, vl] w fun v w' => ∃ H1 e, HLe H H1 ∧ v = I e ∧ CPrbR a l e ∧ St H1 w' σ := by
  obtain ⟨ul, uw, rfl, hl, hw⟩ := hr
  obtain ⟨al, cpl, rfl⟩ := RPs.shape hp
  refine Cl.of Tryz.func141 rfl Tryz.ntmps141 (by simp) (args_cons (k := 0) rfl (args_cons (k := 1) rfl (args0))) ?_
  refine .regSeq ?_
  refine .o (.box hs rfl rfl ?_); intro b2 w hs
  refine .z zg (.nil (.seq (.regSeq (.y hs (zls [_, _, _, _] Tryz.isAgg27 Tryz.sizeOf27) ?_))))
  refine .o (.call Tryz.call180 rfl (probe_CheckAsk_spec (a := a) hs ⟨_, _, rfl, hl, hw⟩) ?_); rintro _ w ⟨H1, e, hle1, rfl, hA, hs⟩
  refine .z zg (.nil (.regSeq (.z zm (.z zneq (.nil ?_)))))
  refine (.condN rfl (fun hc9 => ?_) (fun hc9 => ?_))
  · refine .regSeq (.z zm (.z zg (.nil ?_)))
    refine .ret (rT (Fin.ret1 Tryz.results141 rfl ?_))
    exact ⟨H1, _, hle1, rfl, .ask hA hc9, hs.tail⟩
  · refine .skip ?_
    refine nT ?_
    refine .seq (.regSeq (.z zm (.z (zlen Tryz.runUnderlying28) (.z zgtr (.nil ?_)))))
    refine (.condD rfl (fun hc13 => ?_) (fun hc13 => ?_))
    · refine .regSeq (.z zg (.nil ?_))
      refine .ret (rT (Fin.ret1 Tryz.results141 rfl ?_))
      exact ⟨H1, _, hle1, rfl, .long (CAskR.zero.1 (by rw [hc9] at hA; exact hA)) (by omega), hs.tail⟩
    · refine .skip ?_
      refine nT ?_
      refine .seq (.regSeq (.z zm ?_))
      refine .q hs (q_makeFunc (f := []) (c := [_]) rfl rfl) ?_
      obtain ⟨H2, hle2, hR2, hs⟩ := hs.publish .here
      have hok := CAskR.zero.1 (by rw [hc9] at hA; exact hA)
      have hm1 := hok.ok.m1
      refine .o (.call Tryz.call181 rfl (ContainsFunc_Prb (q := fun p => ¬ PrbOk a p) (cap := [.pointer (some ⟨b2, 0, none⟩)]) hs (hp.mono (hle1.trans hle2)) Tryz.call182 (fun w p hs => probe_CheckProbes_1 hs hR2 (hl.mono (hle1.trans hle2)) (hw.mono (hle1.trans hle2)) hm1)) ?_); rintro _ w ⟨b16, rfl, hb16, hs⟩
      refine .nil ?_
      refine (.cond rfl (fun hc16 => ?_) (fun hc16 => ?_))
      · refine .regSeq (.z zg (.nil ?_))
        refine .ret (rT (Fin.ret1 Tryz.results141 rfl ?_))
        exact ⟨H2, _, hle1.trans hle2, rfl, .bad hok (by omega) (fun h => by obtain ⟨p, h1, h2⟩ := hb16.1 hc16; exact h2 (h p h1)), hs⟩
      · refine .skip ?_
        refine nT ?_
        refine .regSeq (.z zg (.nil ?_))
        refine .ret (Fin.ret1 Tryz.results141 rfl ?_)
        exact ⟨H2, _, hle1.trans hle2, rfl, .ok hok (by omega) (fun p h1 => Classical.byContradiction fun h2 => by rw [hb16.2 ⟨p, h1, h2⟩] at hc16; cases hc16), hs⟩
end Go.Proofs.YtiiokdeehlfeeaaGreat

namespace Go.Proofs.YtiiokdeehlfeeaaGreat
open Go.MW
theorem probe_told_int {R : Int → Int → Prop} {H : Heap} {w : World} {σ : List Ent} {v vl : Value} {a : Quest} {l : List Prb} {g : Nat} {cap : List Value} (hs : St H w σ) (hr : RAsk H v a) (hp : RPs H vl l) (hc : ∀ args w, (callFunc g args).run Tryz.prog w = .ok (.enter g args) w)
    (hg : ∀ H' w σ', HLe H H' → CPrbR a l 0 → St H' w σ' → Cl Tryz.prog g ([v] ++ cap) w fun u w' => ∃ H'' x e, HLe H' H'' ∧ u = .tuple #[I x, I e] ∧ R x e ∧ St H'' w' σ') :
    Cl Tryz.prog 57 [v, vl, .func (.func g) #[] cap.toArray] w fun u w' => ∃ H1 x e, HLe H H1 ∧ u = .tuple #[I x, I e] ∧ ((CPrbR a l e ∧ e ≠ 0 ∧ x = 0) ∨ (CPrbR a l 0 ∧ R x e)) ∧ St H1 w' σ := by
  obtain ⟨ul, uw, rfl, hl, hw⟩ := hr
  refine Cl.of Tryz.func57 rfl Tryz.ntmps57 (by simp) (args_cons (k := 0) rfl (args_cons (k := 1) rfl (args_cons (k := 2) rfl (args0)))) ?_
  refine .regSeq ?_
  refine .o (.box hs rfl rfl ?_); intro b3 w hs
  refine .z zg (.z zg (.nil (.seq (.regSeq (.y hs (zls [_, _, _, _] Tryz.isAgg27 Tryz.sizeOf27) (.z zm ?_))))))
  refine .o (.call Tryz.call141 rfl (probe_CheckProbes_spec (a := a) hs ⟨_, _, rfl, hl, hw⟩ hp) ?_); rintro _ w ⟨H1, e, hle1, rfl, hC, hs⟩
  refine .z zg (.nil (.regSeq (.z zm (.z zneq (.nil ?_)))))
  refine (.condN rfl (fun hc14 => ?_) (fun hc14 => ?_))
  · refine .regSeq (.z zg (.nil (.regSeq (.z zm (.z zm (.z zg (.z zg (.nil ?_))))))))
    refine .ret (rT (Fin.ret2 Tryz.results57 rfl rfl ?_))
    exact ⟨H1, 0, e, hle1, rfl, .inl ⟨hC, hc14, rfl⟩, hs.tail⟩
  · refine .skip ?_
    refine nT ?_
    refine .regSeq (.z zm (.y hs (zls [_, _, _, _] Tryz.isAgg27 Tryz.sizeOf27) ?_))
    rw [hc14] at hC
    refine .o (.callG (first := []) rfl rfl hc (hg _ _ _ hle1 hC hs) ?_); rintro _ w ⟨H2, x, e2, hle2, rfl, hR, hs⟩
    refine .z zex (.z zex (.z zg (.z zg (.nil ?_))))
    refine .ret (Fin.ret2 Tryz.results57 rfl rfl ?_)
    exact ⟨H2, x, e2, hle1.trans hle2, rfl, .inr ⟨hC, hR⟩, hs.tail⟩
theorem probe_told_Proof {R : Heap → Int → List Use → Int → Prop} {H : Heap} {w : World} {σ : List Ent} {v vl : Value} {a : Quest} {l : List Prb} {g : Nat} {cap : List Value} (hs : St H w σ) (hr : RAsk H v a) (hp : RPs H vl l) (hc : ∀ args w, (callFunc g args).run Tryz.prog w = .ok (.enter g args) w)
    (hg : ∀ H' w σ', HLe H H' → CPrbR a l 0 → St H' w σ' → Cl Tryz.prog g ([v] ++ cap) w fun u w' => ∃ H'' vp n us e, HLe H' H'' ∧ u = .tuple #[vp, I e] ∧ RPf H'' vp n us ∧ R H'' n us e ∧ St H'' w' σ') :
    Cl Tryz.prog 95 [v, vl, .func (.func g) #[] cap.toArray] w fun u w' => ∃ H1 vp n us e, HLe H H1 ∧ u = .tuple #[vp, I e] ∧ RPf H1 vp n us ∧ ((CPrbR a l e ∧ e ≠ 0 ∧ n = 0 ∧ us = []) ∨ (CPrbR a l 0 ∧ R H1 n us e)) ∧ St H1 w' σ := by
  obtain ⟨ul, uw, rfl, hl, hw⟩ := hr
  refine Cl.of Tryz.func95 rfl Tryz.ntmps95 (by simp) (args_cons (k := 0) rfl (args_cons (k := 1) rfl (args_cons (k := 2) rfl (args0)))) ?_
  refine .regSeq ?_
  refine .o (.box hs rfl rfl ?_); intro b3 w hs
  refine .o (.alloc hs Tryz.zeroValue63 rfl ?_); intro b6 w hs
  refine .z zg (.nil (.seq (.regSeq (.y hs (zls [_, _, _, _] Tryz.isAgg27 Tryz.sizeOf27) (.z zm ?_)))))
  refine .o (.call Tryz.call141 rfl (probe_CheckProbes_spec (a := a) hs ⟨_, _, rfl, hl, hw⟩ hp) ?_); rintro _ w ⟨H1, e, hle1, rfl, hC, hs⟩
  refine .z zg (.nil (.regSeq (.z zm (.z zneq (.nil ?_)))))
  refine (.condN rfl (fun hc14 => ?_) (fun hc14 => ?_))
  · refine .regSeq ?_
    refine .o (.alloc hs Tryz.zeroValue63 rfl ?_); intro b9 w hs
    refine .nil (.regSeq (.y hs (zls [_, _] Tryz.isAgg63 Tryz.sizeOf63) (.z zm ?_)))
    refine .o (.stores (vs := [_, _]) hs rfl rfl Tryz.sizeOf63 ?_); intro w hs
    refine .z zg (.nil ?_)
    refine .ret (rT (?_))
    exact Fin.retD [] [] hs fun w hs => ⟨_, results2 Tryz.results95 (rcells (vs := [_, _]) hs rfl Tryz.isAgg63 Tryz.sizeOf63) rfl, H1, _, 0, [], e, hle1, rfl, ⟨_, rfl, RS.nil H1 2 none 0⟩, .inl ⟨hC, hc14, rfl, rfl⟩, hs.out⟩
  · refine .skip ?_
    refine nT ?_
    refine .regSeq (.z zm (.y hs (zls [_, _, _, _] Tryz.isAgg27 Tryz.sizeOf27) ?_))
    rw [hc14] at hC
    refine .o (.callG (first := []) rfl rfl hc (hg _ _ _ hle1 hC hs) ?_); rintro _ w ⟨H2, vp, n, us, e2, hle2, rfl, ⟨vu, rfl, hU⟩, hR, hs⟩
    obtain ⟨au, cu, rfl⟩ := RU.shape hU
    refine .z zex (.z zex ?_)
    refine .o (.stores (vs := [_, _]) hs rfl rfl Tryz.sizeOf63 ?_); intro w hs
    refine .z zg (.nil ?_)
    refine .ret ?_
    exact Fin.retD [] [] hs fun w hs => ⟨_, results2 Tryz.results95 (rcells (vs := [_, _]) hs rfl Tryz.isAgg63 Tryz.sizeOf63) rfl, H2, _, n, us, e2, hle1.trans hle2, rfl, ⟨_, rfl, hU⟩, .inr ⟨hC, hR⟩, hs.out⟩
theorem probe_width_spec {H : Heap} {w : World} {σ : List Ent} {v : Value} {a : Quest} (hs : St H w σ) (hr : RAsk H v a) : Cl Tryz.prog 102 [v] w fun u w' => ∃ H'' x e, HLe H H'' ∧ u = .tuple #[I x, I e] ∧ (∃ lo hi, RangeR a.sys a.ws lo hi e ∧ x = hi - lo) ∧ St H'' w' σ := by
  obtain ⟨ul, uw, rfl, hl, hw⟩ := hr
  refine Cl.of Tryz.func102 rfl Tryz.ntmps102 (by simp) (args_cons (k := 0) rfl (args0)) ?_
  refine .regSeq ?_
  refine .o (.box hs rfl rfl ?_); intro b1 w hs
  refine .z zg (.z zg (.nil (.regSeq (.z (zfa fa_api_Ask_0) (.y hs (zls [_, _] Tryz.isAgg24 Tryz.sizeOf24) (.z (zfa fa_api_Ask_1) (.y hs (zld Tryz.isAgg25) ?_)))))))
  refine .o (.call Tryz.call73 rfl (bound_Range_spec (s := a.sys) hs ⟨_, rfl, hl⟩ hw) ?_); rintro _ w ⟨H1, lo, hi, e, hle1, rfl, hR, hs⟩
  have hbd := hR.bd
  refine .z zm (.z zex (.z zex (.z zex (.z zg (.z zg (.z zg (.nil (.regSeq (.z zm ?_)))))))))
  refine .z zm (.z zsub (.z zm (.z zg (.z zg (.nil ?_)))))
  refine .ret (Fin.ret2 Tryz.results102 rfl rfl ?_)
  exact ⟨H1, _, e, hle1, rfl, ⟨lo, hi, hR, rfl⟩, hs.tail⟩
theorem probe_Width_spec {H : Heap} {w : World} {σ : List Ent} {v : Value} {a : Quest} (hs : St H w σ) (hr : RAsk H v a) : Cl Tryz.prog 40 [v] w fun u w' => ∃ H1 n e, HLe H H1 ∧ u = .tuple #[I n, I e] ∧ WidthR a n e ∧ St H1 w' σ := by
  obtain ⟨ul, uw, rfl, hl, hw⟩ := hr
  refine Cl.of Tryz.func40 rfl Tryz.ntmps40 (by simp) (args_cons (k := 0) rfl (args0)) ?_
  refine .regSeq ?_
  refine .o (.box hs rfl rfl ?_); intro b1 w hs
  refine .z zg (.z zg (.nil (.regSeq (.y hs (zls [_, _, _, _] Tryz.isAgg27 Tryz.sizeOf27) ?_))))
  refine .o (.call Tryz.call57 rfl (probe_told_int (a := a) (l := []) (cap := []) hs ⟨_, _, rfl, hl, hw⟩ (RS.nil _ 2 none 0) Tryz.call102 (fun H' w σ' hle _ hs => probe_width_spec (a := a) hs ⟨_, _, rfl, hl.mono hle, hw.mono hle⟩)) ?_); rintro _ w ⟨H1, x, e, hle1, rfl, hcase, hs⟩
  refine .z zex (.z zex (.z zg (.z zg (.nil ?_))))
  refine .ret (Fin.ret2 Tryz.results40 rfl rfl ?_)
  refine ⟨H1, x, e, hle1, rfl, ?_, hs.tail⟩
  rcases hcase with ⟨h1, h2, h3⟩ | ⟨h1, lo, hi, h2, h3⟩
  · exact .inl ⟨h1.nil, h2, h3⟩
  · have hok := CAskR.zero.1 h1.nil
    obtain ⟨lo', hi', h4⟩ := hok.range
    obtain ⟨rfl, rfl, rfl⟩ := h2.uniq h4
    exact .inr ⟨hok, rfl, lo, hi, h4, h3⟩
theorem slices_Clone_Lim {H : Heap} {w : World} {σ : List Ent} {v : Value} {xs : List Lim} (hs : St H w σ) (hr : RL H v xs) (hx : xs.length ≤ 1000000) : Cl Tryz.prog 152 [v] w fun v w' => ∃ en, OwnS 4 v (Lims xs) en ∧ St H w' (en :: σ) := by
  obtain ⟨a, c, rfl⟩ := RL.shape hr
  refine Cl.of Tryz.func152 rfl Tryz.ntmps152 (by simp) (args_cons (k := 0) rfl (args0)) ?_
  refine .regSeq (.z zg (.nil (.seq (.regSeq (.z zm ?_)))))
  refine .q hs (q_eqSN rfl rfl Tryz.runUnderlying22) ?_
  refine .nil ?_
  refine (.cond rfl (fun hc4 => ?_) (fun hc4 => ?_))
  · refine .regSeq (.z zg (.nil ?_))
    refine .ret (rT (Fin.ret1 Tryz.results152 rfl ?_))
    obtain rfl : a = none := by simpa using hc4
    obtain rfl := RL.nilOf hr
    exact ⟨.nul, .nil 4 none, hs.nul⟩
  · refine .skip ?_
    refine nT ?_
    refine .regSeq ?_
    refine .o (.buildSlice (cells := []) hs bls_sl_api_Limit_0 rfl rfl ?_); intro b5 w hs
    refine .z zm ?_
    refine .o (.append (xs := []) (ys := Lims xs) hs app_sl_api_Limit_api_Limit rfl rfl (.full rfl) (by have := Src.rs (P := Tryz.prog) (σ := .blk b5 [] :: σ) hr; rw [List.length_map] at this; exact this) (Lims_cell xs) (fun l h => by simp at h; omega) ?_); intro v7 en7 w hO hs
    refine .z zg (.nil ?_)
    refine .ret (Fin.ret1 Tryz.results152 rfl ?_)
    exact ⟨en7, hO, hs⟩
theorem probe_double_1 {H : Heap} {w : World} {σ : List Ent} {b : Nat} {n x : Int} (hs : St H w σ) (hb : cellAt H b 0 = some (I n)) (hn : 0 ≤ n ∧ n ≤ 64) (hx : 0 ≤ x ∧ x ≤ 64) : Cl Tryz.prog 155 [I x, .pointer (some ⟨b, 0, none⟩)] w fun v w' => v = I (movedI n x) ∧ St H w' σ := by
  refine Cl.of Tryz.func155 rfl Tryz.ntmps155 (by simp) (args_cons (k := 0) rfl (args_cons (k := 1) rfl (args0))) ?_
  refine .regSeq (.z zg (.nil (.seq (.regSeq (.z zm (.z zeql (.nil ?_)))))))
  refine (.condD rfl (fun hc5 => ?_) (fun hc5 => ?_))
  · refine .regSeq (.z zg (.nil ?_))
    refine .ret (rT (Fin.ret1 Tryz.results155 rfl ?_))
    exact ⟨by unfold movedI; rw [if_pos hc5], hs⟩
  · refine .skip ?_
    refine nT ?_
    refine .regSeq (.z zm (.y hs (zld Tryz.isAgg3) (.z zadd (.z zg (.nil ?_)))))
    refine .ret (Fin.ret1 Tryz.results155 rfl ?_)
    exact ⟨by unfold movedI; rw [if_neg hc5], hs⟩
theorem probe_double_spec {H : Heap} {w : World} {σ : List Ent} {v vl : Value} {a : Quest} {l : List Prb} (hs : St H w σ) (hr : RAsk H v a) (hp : RPs H vl l) (hok : AskOk a) (hlen : l.length ≤ 8) (hin : ∀ p ∈ l, PrbIn a p) :
    Cl Tryz.prog 87 [v, vl] w fun u w' => ∃ H1 ul uw vp vw, HLe H H1 ∧ u = .agg #[I a.sys.many, ul, uw, I a.width, I (2 * a.sys.many), vp, vw] ∧ RL H1 ul a.sys.lims ∧ RI H1 uw a.ws ∧ RL H1 vp (dblS a l).lims ∧ RI H1 vw (dblW a.ws) ∧ St H1 w' σ := by
  obtain ⟨ul, uw, rfl, hl, hw⟩ := hr
  obtain ⟨al, cpl, rfl⟩ := RL.shape hl
  obtain ⟨aw, cw, rfl⟩ := RI.shape hw
  obtain ⟨ap, cpp, rfl⟩ := RPs.shape hp
  have hm0 := hok.ok.m0
  have hm1 := hok.many
  have hll := hok.lims
  obtain ⟨n, hn⟩ := Int.eq_ofNat_of_zero_le hm0
  have hwl : a.ws.length = n + 1 := by rw [hok.wl]; simp [Syst.n, hn]
  refine Cl.of Tryz.func87 rfl Tryz.ntmps87 (by simp) (args_cons (k := 0) rfl (args_cons (k := 1) rfl (args0))) ?_
  refine .regSeq ?_
  refine .o (.box hs rfl rfl ?_); intro b2 w hs
  refine .o (.alloc hs Tryz.zeroValue125 rfl ?_); intro b4 w hs
  refine .nil (.regSeq (.z (zfa fa_api_Ask_0) (.z (zfa fa_api_System_0) (.y hs (zld Tryz.isAgg3) ?_))))
  refine .o (.alloc hs Tryz.zeroValue3 rfl ?_); intro b5 w hs
  refine .o (.store hs rfl rfl Tryz.sizeOf3 ?_); intro w hs
  refine .nil ?_
  obtain ⟨H1, hle1, hR5, hs⟩ := hs.publish .here
  have h5 : cellAt H1 b5 0 = some (I a.sys.many) := hR5.at 0
  have e2 : 2 * a.sys.many + 1 = ((2 * n + 1 : Nat) : Int) := by omega
  refine .cut (fun fs w => ∃ bw b6, FSub fs ⟨130, [], [(6, .pointer (some ⟨b6, 0, none⟩)), (1, .slice ap l.length cpp), (5, .pointer (some ⟨b5, 0, none⟩)), (4, .pointer (some ⟨b4, 0, none⟩))]⟩ ∧ St H1 w (.blk b6 [I a.sys.many, .slice al a.sys.lims.length cpl, .slice aw a.ws.length cw, I a.width, I 0, .slice none 0 0, .slice (some ⟨bw, 0, none⟩) (2 * n + 1) (2 * n + 1)] :: .blk bw (Is (List.replicate (2 * n + 1) 0)) :: .blk b4 [I 0, .slice none 0 0, .slice none 0 0, I 0, I 0, .slice none 0 0, .slice none 0 0] :: σ)) ?_ ?_
  · refine .draw mix rfl hs ?_; intro w hs
    refine .ys 0 rfl hs [_, _, _, _] Tryz.isAgg27 Tryz.sizeOf27 ?_; refine .y 1 rfl hs Tryz.isAgg3 ?_; refine .z 2 rfl zmul ?_; refine .z 3 rfl zadd ?_
    refine .e2 (i := 4) (j := 6) (by kernel_rfl) rfl rfl rfl rfl .none .none hs ?_ ?_
    · rw [e2]
      refine .makeI (2 * n + 1) hs rfl rfl Tryz.runUnderlying25 Tryz.typeInfo3 rfl Tryz.sizeOf3 Tryz.zeroValue3 (by omega) ?_; intro b24 w hs
      refine .go ?_
      refine .z 5 rfl (zbd [_, _, _, _, _, _, _] bld_probe_doubled) ?_
      refine .e1 (i := 6) (by kernel_rfl) rfl rfl .none hs ?_
      refine .alloc hs Tryz.zeroValue125 rfl ?_; intro b6 w hs
      refine .go ?_
      refine .e1 (i := 7) (by kernel_rfl) rfl rfl .none hs ?_
      refine .stores (vs := [_, _, _, _, _, _, _]) hs rfl rfl Tryz.sizeOf125 ?_; intro w hs
      refine .go ?_
      refine .done (by kernel_rfl) hs ?_
      exact nT ⟨b24, b6, by repeat (first | exact .nil rfl rfl | refine .cons rfl ?_), hs.sub (by repeat (first | exact Sub.refl _ | constructor | apply Sub.weaken))⟩
    · refine .alloc hs Tryz.zeroValue125 rfl ?_; intro b6 w hs
      refine .go ?_
      refine .e1 (i := 4) (by kernel_rfl) rfl rfl .none hs ?_
      rw [e2]
      refine .makeI (2 * n + 1) hs rfl rfl Tryz.runUnderlying25 Tryz.typeInfo3 rfl Tryz.sizeOf3 Tryz.zeroValue3 (by omega) ?_; intro b24 w hs
      refine .go ?_
      refine .z 5 rfl (zbd [_, _, _, _, _, _, _] bld_probe_doubled) ?_
      refine .e1 (i := 7) (by kernel_rfl) rfl rfl .none hs ?_
      refine .stores (vs := [_, _, _, _, _, _, _]) hs rfl rfl Tryz.sizeOf125 ?_; intro w hs
      refine .go ?_
      refine .done (by kernel_rfl) hs ?_
      exact nT ⟨b24, b6, by repeat (first | exact .nil rfl rfl | refine .cons rfl ?_), hs.sub (by repeat (first | exact Sub.refl _ | constructor | apply Sub.weaken))⟩
  · rintro fs w ⟨bw, b6, hfs, hs⟩
    refine WE.sub ?_ hfs
    refine .regSeq (.y hs (zld Tryz.isAgg3) (.z zmul (.z (zfa fa_probe_doubled_1) (.z (zfa fa_api_System_0) ?_))))
    refine .o (.store hs rfl rfl Tryz.sizeOf3 ?_); intro w hs
    refine .nil (.regSeq ?_)
    refine .q hs (q_makeFunc (f := []) (c := [_]) rfl rfl) ?_
    refine .z zg (.nil (.regSeq (.z (zfa fa_probe_doubled_0) (.z (zfa fa_api_Ask_0) (.z (zfa fa_api_System_1) (.y hs (zld Tryz.isAgg22) ?_))))))
    refine .o (.call Tryz.call152 rfl (slices_Clone_Lim hs (hl.mono hle1) (by omega)) ?_); rintro v35 w ⟨en35, hO35, hs⟩
    obtain ⟨a35, l35, c35, rfl, h35⟩ := hO35.shape
    refine .z (zfa fa_probe_doubled_1) (.z (zfa fa_api_System_1) ?_)
    refine .o (.store hs rfl rfl Tryz.sizeOf22 ?_); intro w hs
    refine .nil (.seq (.regSeq (.z (zfa fa_probe_doubled_0) (.z (zfa fa_api_Ask_0) (.z (zfa fa_api_System_1) (.y hs (zld Tryz.isAgg22) (.z (zlen Tryz.runUnderlying22) (.z zm (.nil ?_)))))))))
    refine .for (N := a.sys.lims.length) (J := fun k fr w => fr = [(41, .slice al a.sys.lims.length cpl), (7, .func (.func 155) #[] #[.pointer (some ⟨b5, 0, none⟩)]), (6, .pointer (some ⟨b6, 0, none⟩)), (1, .slice ap l.length cpp), (4, .pointer (some ⟨b4, 0, none⟩))] ∧   ∃ vp en, OwnS 4 vp (Lims (a.sys.lims ++ (a.sys.lims.take k).map (Lim.mv a.sys.many))) en ∧ St H1 w (.blk b6 [I a.sys.many, .slice al a.sys.lims.length cpl, .slice aw a.ws.length cw, I a.width, I (2 * a.sys.many), vp, .slice (some ⟨bw, 0, none⟩) (2 * n + 1) (2 * n + 1)] ::     .blk bw (Is (List.replicate (2 * n + 1) 0)) :: .blk b4 [I 0, .slice none 0 0, .slice none 0 0, I 0, I 0, .slice none 0 0, .slice none 0 0] :: en :: σ)) (by omega) ?_ ?_ ?_
    · exact .mk ⟨rfl, _, _, by simpa using hO35, hs.sub (by repeat (first | exact Sub.refl _ | constructor | apply Sub.weaken))⟩
    · rintro k fr w hk ⟨rfl, vp, en, hO, hs⟩
      obtain ⟨avp, lvp, cvp, rfl, hlvp⟩ := hO.shape
      obtain ⟨x, hx⟩ := nth hk
      have hxl := hok.ok.lim x (List.mem_of_getElem? hx)
      refine .block (.regSeq ?_)
      refine .ixX hs (hl.mono hle1) rfl rfl Tryz.runUnderlying22 Tryz.sizeOf157 hx rfl ?_; intro b45 o45 hc45
      refine .q hs (q_loadsR (vs := x.c) rfl Tryz.isAgg157 Tryz.sizeOf157 hc45) ?_
      refine .o (.alloc hs Tryz.zeroValue157 rfl ?_); intro b9 w hs
      refine .o (.stores (vs := x.c) hs rfl rfl Tryz.sizeOf157 ?_); intro w hs
      refine .nil ?_
      refine .draw mix rfl hs ?_; intro w hs
      refine .z 0 rfl (zfa fa_probe_doubled_1) ?_; refine .z 1 rfl (zfa fa_api_System_1) ?_; refine .y 2 rfl hs Tryz.isAgg22 ?_; refine .z 3 rfl zm ?_; refine .z 4 rfl (zfa fa_api_Limit_0) ?_; refine .y 5 rfl hs Tryz.isAgg3 ?_; refine .z 7 rfl zm ?_; refine .z 8 rfl (zfa fa_api_Limit_1) ?_; refine .y 9 rfl hs Tryz.isAgg3 ?_; refine .z 11 rfl (zfa fa_api_Limit_2) ?_
      refine .y 12 rfl hs Tryz.isAgg3 ?_; refine .z 13 rfl (zfa fa_api_Limit_3) ?_; refine .y 14 rfl hs Tryz.isAgg3 ?_
      refine .e1 (i := 6) (by kernel_rfl) rfl rfl .none hs ?_
      refine .callG (first := []) (cap := [.pointer (some ⟨b5, 0, none⟩)]) rfl rfl Tryz.call155 (probe_double_1 (x := x.A) hs h5 (by omega) (by omega)) ?_; rintro _ w ⟨rfl, hs⟩
      refine .go ?_
      refine .e1 (i := 10) (by kernel_rfl) rfl rfl .none hs ?_
      refine .callG (first := []) (cap := [.pointer (some ⟨b5, 0, none⟩)]) rfl rfl Tryz.call155 (probe_double_1 (x := x.B) hs h5 (by omega) (by omega)) ?_; rintro _ w ⟨rfl, hs⟩
      refine .go ?_
      refine .z 15 rfl (zbd [_, _, _, _] bld_api_Limit) ?_
      refine .e1 (i := 16) (by kernel_rfl) rfl rfl .none hs ?_
      refine .buildSlice (cells := (x.mv a.sys.many).c) hs bls_sl_api_Limit_1 rfl rfl ?_; intro b63 w hs
      refine .go ?_
      refine .e1 (i := 17) (by kernel_rfl) rfl rfl .none hs ?_
      refine .append (ys := (x.mv a.sys.many).c) hs app_sl_api_Limit_api_Limit rfl rfl hO (.own .here rfl rfl) (by simp [Lim.c, Value.oneCell']) (fun l h => by rw [Lims_length] at h; simp at h; omega) ?_; intro v64 en64 w hO2 hs
      obtain ⟨a64, l64, c64, rfl, h64⟩ := hO2.shape
      refine .go ?_
      refine .z 18 rfl (zfa fa_probe_doubled_1) ?_; refine .z 19 rfl (zfa fa_api_System_1) ?_
      refine .e1 (i := 20) (by kernel_rfl) rfl rfl .none hs ?_
      refine .store hs rfl rfl Tryz.sizeOf22 ?_; intro w hs
      refine .go ?_
      refine .done (by kernel_rfl) hs ?_
      refine nB (nT ?_)
      rw [← Lims_one, ← Lims_append, List.append_assoc, show (a.sys.lims.take k).map (Lim.mv a.sys.many) ++ [x.mv a.sys.many] = (a.sys.lims.take (k + 1)).map (Lim.mv a.sys.many) by rw [take_snoc hx]; simp] at hO2
      exact .mk ⟨rfl, _, _, hO2, hs.sub (by repeat (first | exact Sub.refl _ | constructor | apply Sub.weaken))⟩
    · rintro fr w ⟨rfl, vp1, en1, hO1, hs⟩
      rw [List.take_length] at hO1
      refine nT ?_
      refine .seq (.regSeq (.z zm (.z (zlen Tryz.runUnderlying28) (.z zm (.nil ?_)))))
      refine .for (N := l.length) (J := fun k fr w => fr = [(68, .slice ap l.length cpp), (7, .func (.func 155) #[] #[.pointer (some ⟨b5, 0, none⟩)]), (6, .pointer (some ⟨b6, 0, none⟩)), (4, .pointer (some ⟨b4, 0, none⟩))] ∧   ∃ vp en, OwnS 4 vp (Lims (a.sys.lims ++ a.sys.lims.map (Lim.mv a.sys.many) ++ prbAll a.sys.many 0 (l.take k))) en ∧ St H1 w (.blk b6 [I a.sys.many, .slice al a.sys.lims.length cpl, .slice aw a.ws.length cw, I a.width, I (2 * a.sys.many), vp, .slice (some ⟨bw, 0, none⟩) (2 * n + 1) (2 * n + 1)] ::     .blk bw (Is (List.replicate (2 * n + 1) 0)) :: .blk b4 [I 0, .slice none 0 0, .slice none 0 0, I 0, I 0, .slice none 0 0, .slice none 0 0] :: en :: σ)) (by omega) ?_ ?_ ?_
      · exact .mk ⟨rfl, vp1, en1, by simpa [prbAll] using hO1, hs⟩
      · rintro k fr w hk ⟨rfl, vp, en, hO, hs⟩
        obtain ⟨avp, lvp, cvp, rfl, hlvp⟩ := hO.shape
        obtain ⟨x, hx⟩ := nth hk
        obtain ⟨⟨x1, x2⟩, x3, x4⟩ := hin x (List.mem_of_getElem? hx)
        refine .block (.regSeq (.z zm ?_))
        refine .ixX hs (hp.mono hle1) rfl rfl Tryz.runUnderlying28 Tryz.sizeOf54 hx rfl ?_; intro b73 o73 hc73
        refine .q hs (q_loadsR (vs := x.c) rfl Tryz.isAgg54 Tryz.sizeOf54 hc73) ?_
        refine .o (.alloc hs Tryz.zeroValue54 rfl ?_); intro b11 w hs
        refine .z zg ?_
        refine .o (.stores (vs := x.c) hs rfl rfl Tryz.sizeOf54 ?_); intro w hs
        refine .nil ?_
        refine .seq (.draw mix rfl hs ?_); intro w hs
        refine .z 0 rfl (zfa fa_api_Probe_0) ?_; refine .y 1 rfl hs Tryz.isAgg3 ?_; refine .z 2 rfl zm ?_; refine .z 3 rfl (zfa fa_api_Probe_0) ?_; refine .y 4 rfl hs Tryz.isAgg3 ?_; refine .z 6 rfl (zfa fa_api_Probe_1) ?_; refine .y 7 rfl hs Tryz.isAgg3 ?_; refine .z 8 rfl zmul ?_
        refine .e1 (i := 5) (by kernel_rfl) rfl rfl .none hs ?_
        refine .callG (first := []) (cap := [.pointer (some ⟨b5, 0, none⟩)]) rfl rfl Tryz.call155 (probe_double_1 (x := x.u) hs h5 (by omega) (by omega)) ?_; rintro _ w ⟨rfl, hs⟩
        refine .go ?_
        refine .z 9 rfl zg ?_; refine .z 10 rfl zg ?_; refine .z 11 rfl zg ?_; refine .done (by kernel_rfl) hs ?_
        refine .region (.z (zfa fa_probe_doubled_1) (.z (zfa fa_api_System_1) (.y hs (zld Tryz.isAgg22) (.z zm (.z zm (.z zm (.z zm (.z zadd (.z (zbd [_, _, _, _] bld_api_Limit) ?_)))))))))
        refine .z zm (.z zm (.z zm (.z zm (.z zadd (.z (zbd [_, _, _, _] bld_api_Limit) ?_)))))
        refine .o (.buildSlice (cells := Lims (prbLims a.sys.many k x)) hs bls_sl_api_Limit_2 rfl (by kernel_rfl) ?_); intro b99 w hs
        refine .o (.append (ys := Lims (prbLims a.sys.many k x)) hs app_sl_api_Limit_api_Limit rfl rfl hO (.own .here rfl rfl) (Lims_cell _) (fun l h => by rw [Lims_length] at h; simp [prbAll_length] at h; omega) ?_); intro v100 en100 w hO2 hs
        obtain ⟨a100, l100, c100, rfl, h100⟩ := hO2.shape
        refine .z (zfa fa_probe_doubled_1) (.z (zfa fa_api_System_1) ?_)
        refine .o (.store hs rfl rfl Tryz.sizeOf22 ?_); intro w hs
        refine .nil ?_
        refine nB (nT ?_)
        rw [← Lims_append, List.append_assoc, show prbAll a.sys.many 0 (l.take k) ++ prbLims a.sys.many k x = prbAll a.sys.many 0 (l.take (k + 1)) by rw [take_snoc hx, prbAll_snoc, Nat.zero_add, List.length_take]; congr 2; omega] at hO2
        exact .mk ⟨rfl, _, _, hO2, hs.sub (by repeat (first | exact Sub.refl _ | constructor | apply Sub.weaken))⟩
      · rintro fr w ⟨rfl, vp2, en2, hO2, hs⟩
        rw [List.take_length] at hO2
        obtain ⟨a2', l2', c2', rfl, hl2'⟩ := hO2.shape
        have hw1 := hw.mono hle1
        refine nT ?_
        refine .seq (.regSeq (.z (zfa fa_probe_doubled_0) (.z (zfa fa_api_Ask_1) (.y hs (zld Tryz.isAgg25) (.z (zlen Tryz.runUnderlying25) (.z zm (.nil ?_)))))))
        refine .for (N := a.ws.length) (J := fun k fr w => fr = [(106, .slice aw a.ws.length cw), (7, .func (.func 155) #[] #[.pointer (some ⟨b5, 0, none⟩)]), (6, .pointer (some ⟨b6, 0, none⟩)), (4, .pointer (some ⟨b4, 0, none⟩))] ∧   ∃ W, (W.length = 2 * n + 1 ∧ ∀ v < 2 * n + 1, gi W v = if v = 0 then 0 else if v ≤ n then (if v < k then -gi a.ws v else 0) else (if v - n < k then gi a.ws (v - n) else 0)) ∧ St H1 w (.blk b6 [I a.sys.many, .slice al a.sys.lims.length cpl, .slice aw a.ws.length cw, I a.width, I (2 * a.sys.many), .slice a2' l2' c2', .slice (some ⟨bw, 0, none⟩) (2 * n + 1) (2 * n + 1)] ::     .blk bw (Is W) :: .blk b4 [I 0, .slice none 0 0, .slice none 0 0, I 0, I 0, .slice none 0 0, .slice none 0 0] :: en2 :: σ)) (by omega) ?_ ?_ ?_
        · exact .mk ⟨rfl, _, ⟨by simp, fun v hv => by rw [gi_replicate _ _ hv]; split; rfl; split <;> rw [if_neg (by omega)]⟩, hs⟩
        · rintro k fr w hk ⟨rfl, W, ⟨hW1, hW2⟩, hs⟩
          have hx := gi_get hk
          have hsz := sizes_at a.ws (v := k) (n := a.sys.n) (by rw [← hok.wl]; exact hk)
          have hsz2 := hok.ws
          refine .block (.regSeq (.z zm ?_))
          first | (refine .ixv hs Tryz.runUnderlying25 Tryz.sizeOf3 ?_; intro b111 o111 hc111) | refine .z (zix Tryz.runUnderlying25 Tryz.sizeOf3) ?_
          refine .y hs (zld Tryz.isAgg3) (.z zg (.z zg (.nil (.regSeq (.z zm (.z zgtr (.nil ?_)))))))
          refine (.condD rfl (fun hc114 => ?_) (fun hc114 => ?_))
          · refine .draw mix rfl hs ?_; intro w hs
            refine .z 0 rfl (zfa fa_probe_doubled_2) ?_; refine .y 1 rfl hs Tryz.isAgg25 ?_; refine .z 2 rfl zm ?_; refine .z 3 rfl (zfa fa_probe_doubled_2) ?_; refine .y 4 rfl hs Tryz.isAgg25 ?_; refine .z 5 rfl zm ?_; refine .z 6 rfl zm ?_; refine .z 8 rfl zm ?_; refine .z 9 rfl zneg ?_; refine .z 10 rfl zm ?_
            refine .e1 (i := 7) (by kernel_rfl) rfl rfl .none hs ?_
            have hmv : movedI a.sys.many (k : Int) = ((k + n : Nat) : Int) := by unfold movedI; rw [if_neg (by omega)]; omega
            refine .callG (first := []) (cap := [.pointer (some ⟨b5, 0, none⟩)]) rfl rfl Tryz.call155 (probe_double_1 (x := (k : Int)) hs h5 (by omega) (by omega)) ?_; rintro _ w ⟨rfl, hs⟩
            refine .go ?_
            refine .p (i := 11) rfl (by kernel_rfl) .none (q_ixO (k := k) rfl rfl Tryz.runUnderlying25 Tryz.sizeOf3 rfl (by omega)) ?_
            refine .e1 (i := 12) (by kernel_rfl) rfl rfl .none hs ?_
            refine .store hs rfl rfl Tryz.sizeOf3 ?_ (by repeat constructor) (blt_Is (by omega)) (Is_set _ _ _); intro w hs
            refine .go ?_
            refine .p (i := 13) rfl (by kernel_rfl) .none (q_ixO (k := k + n) rfl rfl Tryz.runUnderlying25 Tryz.sizeOf3 hmv (by omega)) ?_
            refine .e1 (i := 14) (by kernel_rfl) rfl rfl .none hs ?_
            refine .store hs rfl rfl Tryz.sizeOf3 ?_ (by repeat constructor) (blt_Is (by rw [List.length_set]; omega)) (Is_set _ _ _); intro w hs
            refine .go ?_
            refine .done (by kernel_rfl) hs ?_
            refine nB (nT ?_)
            refine .mk ⟨rfl, _, ⟨by rw [List.length_set, List.length_set]; exact hW1, fun v hv => ?_⟩, hs⟩
            rw [gi_set (by rw [List.length_set]; omega), gi_set (by omega), hW2 v hv]
            by_cases e1 : v = k + n
            · subst e1; rw [if_pos rfl, if_neg (by omega), if_neg (by omega), if_pos (by omega), Nat.add_sub_cancel]
            · rw [if_neg e1]
              by_cases e3 : v = k
              · subst e3; rw [if_pos rfl, if_neg (by omega), if_pos (by omega), if_pos (by omega)]
              · rw [if_neg e3]
                by_cases e4 : v = 0
                · rw [if_pos e4, if_pos e4]
                · rw [if_neg e4, if_neg e4]
                  by_cases e5 : v ≤ n
                  · rw [if_pos e5, if_pos e5]; congr 1; apply propext; omega
                  · rw [if_neg e5, if_neg e5]; congr 1; apply propext; omega
          · refine .skip ?_
            refine nB (nT ?_)
            refine .mk ⟨rfl, W, ⟨hW1, fun v hv => ?_⟩, hs⟩
            rw [hW2 v hv]
            by_cases e4 : v = 0
            · rw [if_pos e4, if_pos e4]
            · rw [if_neg e4, if_neg e4]
              by_cases e5 : v ≤ n
              · rw [if_pos e5, if_pos e5]; congr 1; apply propext; omega
              · rw [if_neg e5, if_neg e5]; congr 1; apply propext; omega
        · rintro fr w ⟨rfl, W, ⟨hW1, hW2⟩, hs⟩
          obtain rfl : W = dblW a.ws := ext_gi (by rw [hW1, dblW_length]; omega) (fun v hv => by
            rw [hW2 v (by omega), dblW_get hwl]
            by_cases e4 : v = 0
            · rw [if_pos e4, if_pos e4]
            · rw [if_neg e4, if_neg e4]
              by_cases e5 : v ≤ n
              · rw [if_pos e5, if_pos e5, if_pos (by omega)]
              · rw [if_neg e5, if_neg e5, if_pos (by omega)])
          refine nT ?_
          refine .regSeq (.y hs (zls [_, _, _, _, _, _, _] Tryz.isAgg125 Tryz.sizeOf125) ?_)
          refine .o (.stores (vs := [_, _, _, _, _, _, _]) hs rfl rfl Tryz.sizeOf125 ?_); intro w hs
          refine .nil ?_
          refine .ret ?_
          obtain ⟨H2, g1, g2, hs⟩ := OwnS.publish (cs := (dblS a l).lims.map Lim.c) hO2 (fun c hc => by simp only [List.mem_map] at hc; obtain ⟨x, _, rfl⟩ := hc; rfl) (by omega) (by have := (dblS_ok hok hlen hin).len; rw [List.length_map]; omega) hs (by repeat constructor)
          obtain ⟨H3, g3, g4, hs⟩ := hs.publish (b := bw) (c := Is (dblW a.ws)) (by repeat constructor)
          have hrw : RI H3 (.slice (some ⟨bw, 0, none⟩) (2 * n + 1) (2 * n + 1)) (dblW a.ws) := by
            have := Row.RI (spare := []) (by simpa using g4) (2 * n + 1) (by omega) (by omega)
            rwa [hW1] at this
          exact Fin.retD [] [] hs fun w hs => ⟨_, results1 Tryz.results87 (rcells (vs := [_, _, _, _, _, _, _]) hs rfl Tryz.isAgg125 Tryz.sizeOf125), H3, _, _, _, _, hle1.trans (g1.trans g3), rfl, hl.mono (hle1.trans (g1.trans g3)), hw.mono (hle1.trans (g1.trans g3)), RS.mono g2 g3, hrw, hs.out⟩
end Go.Proofs.YtiiokdeehlfeeaaGreat

namespace Go.Proofs.YtiiokdeehlfeeaaGreat
open Go.MW
theorem probe_worst_spec {H : Heap} {w : World} {σ : List Ent} {v vl : Value} {a : Quest} {l : List Prb} (hs : St H w σ) (hr : RAsk H v a) (hp : RPs H vl l) (hok : AskOk a) (hlen : l.length ≤ 8) (hin : ∀ p ∈ l, PrbIn a p) :
    Cl Tryz.prog 59 [v, vl] w fun u w' => ∃ H1 n, HLe H H1 ∧ u = .tuple #[I n, I 0] ∧ PairS a l n ∧ St H1 w' σ := by
  obtain ⟨ul, uw, rfl, hl, hw⟩ := hr
  refine Cl.of Tryz.func59 rfl Tryz.ntmps59 (by simp) (args_cons (k := 0) rfl (args_cons (k := 1) rfl (args0))) ?_
  refine .regSeq ?_
  refine .o (.box hs rfl rfl ?_); intro b2 w hs
  refine .z zg (.z zg (.nil (.regSeq (.y hs (zls [_, _, _, _] Tryz.isAgg27 Tryz.sizeOf27) (.z zm ?_)))))
  refine .o (.call Tryz.call87 rfl (probe_double_spec (a := a) hs ⟨_, _, rfl, hl, hw⟩ hp hok hlen hin) ?_); rintro _ w ⟨H1, ul1, uw1, vp, vw, hle1, rfl, hl1, hw1, hvp, hvw, hs⟩
  obtain ⟨al1, cl1, rfl⟩ := RL.shape hl1; obtain ⟨aw1, cw1, rfl⟩ := RI.shape hw1; obtain ⟨ap1, cp1, rfl⟩ := RL.shape hvp; obtain ⟨av1, cv1, rfl⟩ := RI.shape hvw
  refine .o (.alloc hs Tryz.zeroValue125 rfl ?_); intro b6 w hs
  refine .o (.stores (vs := [_, _, _, _, _, _, _]) hs rfl rfl Tryz.sizeOf125 ?_); intro w hs
  refine .nil (.regSeq (.z (zfa fa_probe_doubled_1) (.y hs (zls [_, _] Tryz.isAgg24 Tryz.sizeOf24) (.z (zfa fa_probe_doubled_2) (.y hs (zld Tryz.isAgg25) ?_)))))
  refine .o (.call Tryz.call136 rfl (bound_Most_spec (s := dblS a l) hs ⟨_, rfl, hvp⟩ hvw) ?_); rintro _ w ⟨H2, n, e, hle2, rfl, hM, hs⟩
  obtain ⟨rfl, hPS⟩ := dbl_most hok hlen hin hM
  refine .z zex (.z zex (.z zg (.z zg (.nil ?_))))
  refine .ret (Fin.ret2 Tryz.results59 rfl rfl ?_)
  exact ⟨H2, n, hle1.trans hle2, rfl, hPS, hs.out⟩
def ShownR (a : Quest) (l : List Prb) (n : Int) (us : List Use) : Prop :=
  PairS a l n ∧ (dblS a l).Ok ∧ sizesTo (dblW a.ws) (dblS a l).n ≤ FF ∧ ∃ ts, FlowOk (dblS a l).n (dblS a l).arcs (wtOf (dblW a.ws) (dblS a l).n) ts ∧ n = dot (dblS a l).arcs ts (·.c) ∧ us = usesTo ts ts.length
theorem probe_Worst_1 {H : Heap} {w : World} {σ : List Ent} {v vl : Value} {a : Quest} {l : List Prb} {bl : Nat} (hs : St H w σ) (hr : RAsk H v a) (hb : Row H bl [vl]) (hp : RPs H vl l) (hok : AskOk a) (hlen : l.length ≤ 8) (hin : ∀ p ∈ l, PrbIn a p) :
    Cl Tryz.prog 96 [v, .pointer (some ⟨bl, 0, none⟩)] w fun u w' => ∃ H1 vp n us, HLe H H1 ∧ u = .tuple #[vp, I 0] ∧ RPf H1 vp n us ∧ ShownR a l n us ∧ St H1 w' σ := by
  obtain ⟨ul, uw, rfl, hl, hw⟩ := hr
  obtain ⟨al, cpl, rfl⟩ := RPs.shape hp
  have hb0 := hb.at 0
  refine Cl.of Tryz.func96 rfl Tryz.ntmps96 (by simp) (args_cons (k := 0) rfl (args_cons (k := 1) rfl (args0))) ?_
  refine .regSeq ?_
  refine .o (.box hs rfl rfl ?_); intro b2 w hs
  refine .o (.alloc hs Tryz.zeroValue63 rfl ?_); intro b3 w hs
  refine .z zg (.nil (.regSeq (.y hs (zls [_, _, _, _] Tryz.isAgg27 Tryz.sizeOf27) ?_)))
  refine .q hs (q_loadR rfl Tryz.isAgg28 hb0) ?_
  refine .o (.call Tryz.call87 rfl (probe_double_spec (a := a) hs ⟨_, _, rfl, hl, hw⟩ hp hok hlen hin) ?_); rintro _ w ⟨H1, ul1, uw1, vp, vw, hle1, rfl, hl1, hw1, hvp, hvw, hs⟩
  obtain ⟨al1, cl1, rfl⟩ := RL.shape hl1; obtain ⟨aw1, cw1, rfl⟩ := RI.shape hw1; obtain ⟨ap1, cp1, rfl⟩ := RL.shape hvp; obtain ⟨av1, cv1, rfl⟩ := RI.shape hvw
  refine .o (.alloc hs Tryz.zeroValue125 rfl ?_); intro b5 w hs
  refine .o (.stores (vs := [_, _, _, _, _, _, _]) hs rfl rfl Tryz.sizeOf125 ?_); intro w hs
  refine .nil (.regSeq (.z (zfa fa_probe_doubled_1) (.y hs (zls [_, _] Tryz.isAgg24 Tryz.sizeOf24) (.z (zfa fa_probe_doubled_2) (.y hs (zld Tryz.isAgg25) ?_)))))
  refine .o (.call Tryz.call88 rfl (bound_Prove_spec (s := dblS a l) hs ⟨_, rfl, hvp⟩ hvw) ?_); rintro _ w ⟨H2, _, n, us, e, hle2, rfl, hM, ⟨vu, rfl, hU⟩, -, h0, hs⟩
  obtain ⟨rfl, hPS⟩ := dbl_most hok hlen hin hM
  obtain ⟨au, cu, rfl⟩ := RU.shape hU
  refine .z zex (.z zex ?_)
  refine .o (.stores (vs := [_, _]) hs rfl rfl Tryz.sizeOf63 ?_); intro w hs
  refine .z zg (.nil ?_)
  refine .ret ?_
  exact Fin.retD [] [] hs fun w hs => ⟨_, results2 Tryz.results96 (rcells (vs := [_, _]) hs rfl Tryz.isAgg63 Tryz.sizeOf63) rfl, H2, _, n, us, hle1.trans hle2, rfl, ⟨_, rfl, hU⟩, ⟨hPS, h0 rfl⟩, hs.out⟩
theorem probe_Worst_spec {H : Heap} {w : World} {σ : List Ent} {v vl : Value} {a : Quest} {l : List Prb} (hs : St H w σ) (hr : RAsk H v a) (hp : RPs H vl l) :
    Cl Tryz.prog 36 [v, vl] w fun u w' => ∃ H1 vp n us e, HLe H H1 ∧ u = .tuple #[I n, vp, I e] ∧ RPf H1 vp n us ∧ ((CPrbR a l e ∧ e ≠ 0 ∧ n = 0 ∧ us = []) ∨ (CPrbR a l 0 ∧ e = 0 ∧ ShownR a l n us)) ∧ St H1 w' σ := by
  obtain ⟨ul, uw, rfl, hl, hw⟩ := hr
  obtain ⟨al, cpl, rfl⟩ := RPs.shape hp
  refine Cl.of Tryz.func36 rfl Tryz.ntmps36 (by simp) (args_cons (k := 0) rfl (args_cons (k := 1) rfl (args0))) ?_
  refine .regSeq ?_
  refine .o (.box hs rfl rfl ?_); intro b2 w hs
  refine .o (.box hs rfl rfl ?_); intro b3 w hs
  refine .z zg ?_
  refine .o (.alloc hs Tryz.zeroValue63 rfl ?_); intro b5 w hs
  refine .z zg (.nil (.regSeq (.y hs (zls [_, _, _, _] Tryz.isAgg27 Tryz.sizeOf27) (.y hs (zld Tryz.isAgg28) ?_))))
  refine .q hs (q_makeFunc (f := []) (c := [_]) rfl rfl) ?_
  obtain ⟨H0, hle0, hb3, hs⟩ := hs.publish (b := b3) (by repeat constructor)
  refine .o (.call Tryz.call95 rfl (probe_told_Proof (R := fun _ n us e => e = 0 ∧ ShownR a l n us) (a := a) (l := l) (cap := [.pointer (some ⟨b3, 0, none⟩)]) hs ⟨_, _, rfl, hl.mono hle0, hw.mono hle0⟩ (hp.mono hle0) Tryz.call96 ?_) ?_)
  · rintro H' w σ' hle hC hs
    obtain ⟨hok, hlen, hin⟩ := hC.zero
    exact (probe_Worst_1 (a := a) (l := l) hs ⟨_, _, rfl, (hl.mono hle0).mono hle, (hw.mono hle0).mono hle⟩ (hb3.mono hle) ((hp.mono hle0).mono hle) hok hlen (fun p h => (hin p h).inn)).mono fun u w' ⟨H1, vp, n, us, h1, h2, h3, h4, h5⟩ => ⟨H1, vp, n, us, 0, h1, h2, h3, ⟨rfl, h4⟩, h5⟩
  rintro _ w ⟨H1, _, n, us, e, hle1, rfl, ⟨vu, rfl, hU⟩, hcase, hs⟩
  obtain ⟨au, cu, rfl⟩ := RU.shape hU
  refine .z zm (.z zex (.z zex ?_))
  refine .o (.alloc hs Tryz.zeroValue63 rfl ?_); intro b7 w hs
  refine .o (.stores (vs := [_, _]) hs rfl rfl Tryz.sizeOf63 ?_); intro w hs
  refine .z zg (.nil ?_)
  refine .seq (.draw mix rfl hs ?_); intro w hs
  refine .z 0 rfl (zfa fa_api_Proof_0) ?_; refine .y 1 rfl hs Tryz.isAgg3 ?_; refine .ys 2 rfl hs [_, _] Tryz.isAgg63 Tryz.sizeOf63 ?_; refine .z 3 rfl zm ?_; refine .z 4 rfl zg ?_
  refine .e1 (i := 5) (by kernel_rfl) rfl rfl .none hs ?_
  refine .stores (vs := [_, _]) hs rfl rfl Tryz.sizeOf63 ?_; intro w hs
  refine .go ?_
  refine .z 6 rfl zg ?_; refine .done (by kernel_rfl) hs ?_
  refine .ret ?_
  exact Fin.retD [] [] hs fun w hs => ⟨_, results3 Tryz.results36 rfl (rcells (vs := [_, _]) hs rfl Tryz.isAgg63 Tryz.sizeOf63) rfl, H1, _, n, us, e, hle0.trans hle1, rfl, ⟨_, rfl, hU⟩, hcase, hs.out⟩
end Go.Proofs.YtiiokdeehlfeeaaGreat

namespace Go.Proofs.YtiiokdeehlfeeaaGreat
open Go.MW
theorem probe_choices_walk {L : List (List Int)} {H : Heap} {n by' bn bw l : Nat} {II : Nat → Heap → List Ent → Prop} {Ix : Heap → List Ent → Prop}
    (hy : Row H by' [.func (.yield l) #[] #[]]) (hn : Row H bn [I n]) (hw : Row H bw [.func (.func 140) #[] #[.pointer (some ⟨by', 0, none⟩), .pointer (some ⟨bn, 0, none⟩), .pointer (some ⟨bw, 0, none⟩)]]) (hn8 : n ≤ 1000)
    (hmI : ∀ k H1 H2 σ, HLe H1 H2 → II k H1 σ → II k H2 σ)
    (hyd : ∀ k z H' σb σf w, HLe H H' → (∃ v c, z = [v] ∧ L[k]? = some c ∧ nnil v = true ∧ RI H' v c) → II k H' σb → St H' w (σb ++ σf) →
      Yd Tryz.prog l z w fun v w' => ∃ H'' σb', HLe H' H'' ∧ St H'' w' (σb' ++ σf) ∧ ((v = .bool true ∧ II (k + 1) H'' σb') ∨ (v = .bool false ∧ Ix H'' σb'))) :
    ∀ (m : Nat) (p : List Int) (f k0 : Nat) (sp : List Int) (b : Nat) (H0 : Heap) (σb σf : List Ent) (w : World), HLe H H0 → p.length + m ≤ 3 → sp.length = m → (∀ i c, (walkL n m f)[i]? = some c → L[k0 + i]? = some (p ++ c)) →
      (p = [] → f = 0) → (∀ x, p.getLast? = some x → x + 1 = f) → f ≤ n → II k0 H0 σb → St H0 w (.blk b (Is (p ++ sp)) :: (σb ++ σf)) →
      Cl Tryz.prog 140 [.slice (some ⟨b, 0, none⟩) p.length (p.length + m), I m, .pointer (some ⟨by', 0, none⟩), .pointer (some ⟨bn, 0, none⟩), .pointer (some ⟨bw, 0, none⟩)] w fun v w' =>
        ∃ H1 σb' sp', HLe H0 H1 ∧ sp'.length = m ∧ St H1 w' (.blk b (Is (p ++ sp')) :: (σb' ++ σf)) ∧ ((v = .bool true ∧ II (k0 + (walkL n m f).length) H1 σb') ∨ (v = .bool false ∧ Ix H1 σb')) := by
  intro m
  induction m using Nat.strongRecOn with
  | _ m ih =>
  intro p f k0 sp b H0 σb σf w hle hpm hsp hpart hp0 hpl hfn hI hs
  have hy0 := (hy.mono hle).at 0
  have hn0 := (hn.mono hle).at 0
  have hw0 := (hw.mono hle).at 0
  refine Cl.of Tryz.func140 rfl Tryz.ntmps140 (by simp) (args_cons (k := 0) rfl (args_cons (k := 1) rfl (args_cons (k := 2) rfl (args_cons (k := 3) rfl (args_cons (k := 4) rfl (args0)))))) ?_
  refine .regSeq (.z zg (.nil (.seq (.regSeq (.z zm (.z zeql (.nil ?_)))))))
  refine (.condD rfl (fun hc11 => ?_) (fun hc11 => ?_))
  · refine .seq (.draw mix rfl hs ?_); intro w hs
    refine .r (i := 0) hs rfl (by kernel_rfl) .none (q_loadR rfl Tryz.isAgg166 hy0) ?_
    refine .z 1 rfl zm ?_
    refine .e1 (i := 2) (by kernel_rfl) rfl rfl .none hs ?_
    have hm0 : m = 0 := by omega
    subst hm0
    obtain rfl : sp = [] := List.length_eq_zero_iff.1 hsp
    obtain ⟨H1, hle1, hrow, hs, -, back⟩ := hs.lend
    refine .call Tryz.call81 rfl (slices_Clone_intN hs (by have hrow' : Row H1 b (Is p ++ []) := (by simpa using hrow); exact hrow'.RI (p.length + 0) (by omega) (by omega)) (by omega)) ?_; rintro v14 w ⟨en14, hnn, hO, hs⟩
    replace hs := back (HLe.refl _) hs
    obtain ⟨H2, hle2, hRI, hs⟩ := hO.publishI (by omega) hs (.there .here)
    obtain ⟨av, cv, rfl⟩ := hRI.shape
    refine .go ?_
    refine .e1 (i := 3) (by kernel_rfl) rfl rfl .none hs ?_
    refine .yield (vs := [.slice av p.length cv]) rfl rfl (hyd k0 _ H2 σb _ w (hle.trans hle2) ⟨_, p, rfl, by simpa using hpart 0 [] rfl, hnn rfl, hRI⟩ (hmI _ _ _ _ hle2 hI) hs.mid) ?_; rintro v15 w ⟨H3, σ3, hle3, hs, g3⟩
    refine .go ?_
    refine .z 4 rfl zg ?_; refine .done (by kernel_rfl) hs ?_
    refine .ret (rT (Fin.ret1 Tryz.results140 rfl ?_))
    exact ⟨H3, σ3, [], hle2.trans hle3, rfl, hs.unmid, g3⟩
  · refine .skip ?_
    refine nT ?_
    refine .regSeq (.z zg (.nil (.seq (.regSeq ?_))))
    obtain ⟨m', rfl⟩ : ∃ m', m = m' + 1 := ⟨m - 1, by omega⟩
    refine .z zm (.z (zlen Tryz.runUnderlying25) (.z zgtr (.nil ?_)))
    refine (.condD rfl (fun hc18 => ?_) (fun hc18 => ?_))
    · refine .region (.z zm (.z zm (.z (zlen Tryz.runUnderlying25) (.z zsub ?_))))
      obtain ⟨x, hx⟩ : ∃ x, p.getLast? = some x := ⟨p.getLast (by intro h; subst h; simp at hc18), List.getLast?_eq_some_getLast _⟩
      have hxf := hpl x hx
      have hxc : (Is (p ++ sp))[p.length - 1]? = some (I x) := by
        rw [List.getLast?_eq_getElem?] at hx
        have hlt := (List.getElem?_eq_some_iff.1 hx).1
        rw [List.getElem?_map, List.getElem?_append_left hlt, hx]; rfl
      refine .q hs (q_ixO (k := p.length - 1) rfl rfl Tryz.runUnderlying25 Tryz.sizeOf3 (by omega) (by omega)) ?_
      refine .q hs (q_load rfl Tryz.isAgg3 .here hxc) ?_
      refine .z zadd (.z zg (.nil ?_))
      refine nT ?_
      refine .seq (.regSeq (.z zm (.z zg (.nil (.block ?_)))))
      refine .loop (fun q : Nat × Heap × List Ent × List Int => ⟨41, [], [(9, I ((f + q.1 : Nat) : Int)), (0, .slice (some ⟨b, 0, none⟩) p.length (p.length + (m' + 1))), (1, I ((m' + 1 : Nat) : Int)), (3, .pointer (some ⟨bn, 0, none⟩)), (4, .pointer (some ⟨bw, 0, none⟩))]⟩)
        (fun q w => q.1 ≤ n - f ∧ HLe H0 q.2.1 ∧ q.2.2.2.length = m' + 1 ∧ II (k0 + walkTo n m' f q.1) q.2.1 q.2.2.1 ∧ St q.2.1 w (.blk b (Is (p ++ q.2.2.2)) :: (q.2.2.1 ++ σf))) (fun q => n - f - q.1) (0, H0, σb, sp)
        (.consI rfl (by omega) (by repeat (first | exact .nil rfl rfl | refine .cons rfl ?_))) ⟨Nat.zero_le _, HLe.refl _, hsp, hI, hs⟩ ?_
      rintro ⟨j, H1, σ1, sp1⟩ w ⟨hj, hle1, hsp1, hI1, hs⟩
      dsimp only at hj hle1 hsp1 hI1 hs ⊢
      have hn1 := (hn.mono (hle.trans hle1)).at 0
      have hw1 := (hw.mono (hle.trans hle1)).at 0
      refine .seq (.regSeq (.z zm ?_))
      refine .q hs (q_loadR rfl Tryz.isAgg3 hn1) ?_
      refine .z zlss (.nil ?_)
      refine (.condD rfl (fun hc29 => ?_) (fun hc29 => ?_))
      · refine .skip ?_
        refine nT ?_
        refine .seq (.block ?_)
        refine .seq (.draw mix rfl hs ?_); intro w hs
        obtain ⟨z0, sp2, rfl⟩ : ∃ z0 sp2, sp1 = z0 :: sp2 := by cases sp1 with | nil => simp at hsp1 | cons z0 sp2 => exact ⟨z0, sp2, rfl⟩
        have e0 : Is (p ++ z0 :: sp2) = Is p ++ I z0 :: Is sp2 := by simp
        rw [e0] at hs
        refine .r (i := 0) hs rfl (by kernel_rfl) .none (q_loadR rfl Tryz.isAgg161 hw1) ?_
        refine .z 1 rfl zm ?_; refine .z 2 rfl zm ?_; refine .z 5 rfl zm ?_; refine .z 6 rfl zsub ?_
        refine .e1 (i := 3) (by kernel_rfl) rfl rfl .none hs ?_
        refine .buildSlice (cells := [_]) hs bls_sl_int_1 rfl rfl ?_; intro b35 w hs
        refine .go ?_
        refine .e1 (i := 4) (by kernel_rfl) rfl rfl .none hs ?_
        refine .appendIn hs app_sl_int_int rfl rfl rfl .here (by simp) (by omega) (.there .here) ?_; intro w hs
        refine .go ?_
        refine .e1 (i := 7) (by kernel_rfl) rfl rfl .none hs ?_
        have hcall := ih m' (by omega) (p ++ [((f + j : Nat) : Int)]) (f + j + 1) (k0 + walkTo n m' f j) sp2 b H1 σ1 σf w (hle.trans hle1) (by simp; omega) (by simpa using hsp1)
          (fun i c h => by have := hpart _ _ (walkL_get (by omega) h); rw [Nat.add_assoc]; simpa using this) (by simp) (fun y h => by rw [last_snoc h]; omega) (by omega) hI1
          (by have e1 : Is p ++ I ((f + j : Nat) : Int) :: Is sp2 = Is (p ++ [((f + j : Nat) : Int)] ++ sp2) := by simp
              rw [← e1]; exact hs.tail)
        rw [List.length_append, List.length_singleton, show p.length + 1 + m' = p.length + (m' + 1) by omega, show ((m' : Nat) : Int) = ((m' + 1 : Nat) : Int) - 1 by omega] at hcall
        refine .callG (first := []) (cap := [.pointer (some ⟨by', 0, none⟩), .pointer (some ⟨bn, 0, none⟩), .pointer (some ⟨bw, 0, none⟩)]) rfl rfl Tryz.call140 hcall ?_; rintro v39 w ⟨H2, σ2, sp3, hle2, hsp3, hs, g3⟩
        obtain ⟨bb, rfl, gT, gF⟩ := yd_bool g3
        have e2 : p ++ [((f + j : Nat) : Int)] ++ sp3 = p ++ ((f + j : Nat) : Int) :: sp3 := by simp
        rw [e2] at hs
        refine .go ?_
        refine .z 8 rfl znot ?_; refine .done (by kernel_rfl) hs ?_
        refine (.cond rfl (fun hc40 => ?_) (fun hc40 => ?_))
        · refine .regSeq (.z zg (.nil ?_))
          refine .ret (rB (rT (rT (rB (rT (Fin.ret1 Tryz.results140 rfl ?_))))))
          exact ⟨H2, σ2, _, hle1.trans hle2, by simpa using hsp3, hs, .inr ⟨rfl, gF (by simpa using hc40)⟩⟩
        · refine .skip ?_
          refine nB (nT ?_)
          refine .region (.z zm (.z zadd (.z zg (.nil ?_))))
          refine nT ?_
          exact ⟨(j + 1, H2, σ2, ((f + j : Nat) : Int) :: sp3), .consI rfl (by omega) (by repeat (first | exact .nil rfl rfl | refine .cons rfl ?_)), ⟨by omega, hle1.trans hle2, by simpa using hsp3, by rw [walkTo_succ, ← Nat.add_assoc]; exact gT (by simpa using hc40), hs⟩, by dsimp only; omega⟩
      · refine .exit ?_
        refine xT (xT (xB (nT ?_)))
        refine .regSeq (.z zg (.nil ?_))
        refine .ret (Fin.ret1 Tryz.results140 rfl ?_)
        exact ⟨H1, σ1, sp1, hle1, hsp1, hs, .inl ⟨rfl, by rw [← walkTo_all, show n - f = j by omega]; exact hI1⟩⟩
    · refine .skip ?_
      refine nT ?_
      refine .seq (.regSeq (.z zm (.z zg (.nil (.block ?_)))))
      refine .loop (fun q : Nat × Heap × List Ent × List Int => ⟨41, [], [(9, I ((f + q.1 : Nat) : Int)), (0, .slice (some ⟨b, 0, none⟩) p.length (p.length + (m' + 1))), (1, I ((m' + 1 : Nat) : Int)), (3, .pointer (some ⟨bn, 0, none⟩)), (4, .pointer (some ⟨bw, 0, none⟩))]⟩)
        (fun q w => q.1 ≤ n - f ∧ HLe H0 q.2.1 ∧ q.2.2.2.length = m' + 1 ∧ II (k0 + walkTo n m' f q.1) q.2.1 q.2.2.1 ∧ St q.2.1 w (.blk b (Is (p ++ q.2.2.2)) :: (q.2.2.1 ++ σf))) (fun q => n - f - q.1) (0, H0, σb, sp)
        (.consI rfl (by have := hp0 (by cases p with | nil => rfl | cons => simp at hc18); omega) (by repeat (first | exact .nil rfl rfl | refine .cons rfl ?_))) ⟨Nat.zero_le _, HLe.refl _, hsp, hI, hs⟩ ?_
      rintro ⟨j, H1, σ1, sp1⟩ w ⟨hj, hle1, hsp1, hI1, hs⟩
      dsimp only at hj hle1 hsp1 hI1 hs ⊢
      have hn1 := (hn.mono (hle.trans hle1)).at 0
      have hw1 := (hw.mono (hle.trans hle1)).at 0
      refine .seq (.regSeq (.z zm ?_))
      refine .q hs (q_loadR rfl Tryz.isAgg3 hn1) ?_
      refine .z zlss (.nil ?_)
      refine (.condD rfl (fun hc29 => ?_) (fun hc29 => ?_))
      · refine .skip ?_
        refine nT ?_
        refine .seq (.block ?_)
        refine .seq (.draw mix rfl hs ?_); intro w hs
        obtain ⟨z0, sp2, rfl⟩ : ∃ z0 sp2, sp1 = z0 :: sp2 := by cases sp1 with | nil => simp at hsp1 | cons z0 sp2 => exact ⟨z0, sp2, rfl⟩
        have e0 : Is (p ++ z0 :: sp2) = Is p ++ I z0 :: Is sp2 := by simp
        rw [e0] at hs
        refine .r (i := 0) hs rfl (by kernel_rfl) .none (q_loadR rfl Tryz.isAgg161 hw1) ?_
        refine .z 1 rfl zm ?_; refine .z 2 rfl zm ?_; refine .z 5 rfl zm ?_; refine .z 6 rfl zsub ?_
        refine .e1 (i := 3) (by kernel_rfl) rfl rfl .none hs ?_
        refine .buildSlice (cells := [_]) hs bls_sl_int_1 rfl rfl ?_; intro b35 w hs
        refine .go ?_
        refine .e1 (i := 4) (by kernel_rfl) rfl rfl .none hs ?_
        refine .appendIn hs app_sl_int_int rfl rfl rfl .here (by simp) (by omega) (.there .here) ?_; intro w hs
        refine .go ?_
        refine .e1 (i := 7) (by kernel_rfl) rfl rfl .none hs ?_
        have hcall := ih m' (by omega) (p ++ [((f + j : Nat) : Int)]) (f + j + 1) (k0 + walkTo n m' f j) sp2 b H1 σ1 σf w (hle.trans hle1) (by simp; omega) (by simpa using hsp1)
          (fun i c h => by have := hpart _ _ (walkL_get (by omega) h); rw [Nat.add_assoc]; simpa using this) (by simp) (fun y h => by rw [last_snoc h]; omega) (by omega) hI1
          (by have e1 : Is p ++ I ((f + j : Nat) : Int) :: Is sp2 = Is (p ++ [((f + j : Nat) : Int)] ++ sp2) := by simp
              rw [← e1]; exact hs.tail)
        rw [List.length_append, List.length_singleton, show p.length + 1 + m' = p.length + (m' + 1) by omega, show ((m' : Nat) : Int) = ((m' + 1 : Nat) : Int) - 1 by omega] at hcall
        refine .callG (first := []) (cap := [.pointer (some ⟨by', 0, none⟩), .pointer (some ⟨bn, 0, none⟩), .pointer (some ⟨bw, 0, none⟩)]) rfl rfl Tryz.call140 hcall ?_; rintro v39 w ⟨H2, σ2, sp3, hle2, hsp3, hs, g3⟩
        obtain ⟨bb, rfl, gT, gF⟩ := yd_bool g3
        have e2 : p ++ [((f + j : Nat) : Int)] ++ sp3 = p ++ ((f + j : Nat) : Int) :: sp3 := by simp
        rw [e2] at hs
        refine .go ?_
        refine .z 8 rfl znot ?_; refine .done (by kernel_rfl) hs ?_
        refine (.cond rfl (fun hc40 => ?_) (fun hc40 => ?_))
        · refine .regSeq (.z zg (.nil ?_))
          refine .ret (rB (rT (rT (rB (rT (Fin.ret1 Tryz.results140 rfl ?_))))))
          exact ⟨H2, σ2, _, hle1.trans hle2, by simpa using hsp3, hs, .inr ⟨rfl, gF (by simpa using hc40)⟩⟩
        · refine .skip ?_
          refine nB (nT ?_)
          refine .region (.z zm (.z zadd (.z zg (.nil ?_))))
          refine nT ?_
          exact ⟨(j + 1, H2, σ2, ((f + j : Nat) : Int) :: sp3), .consI rfl (by omega) (by repeat (first | exact .nil rfl rfl | refine .cons rfl ?_)), ⟨by omega, hle1.trans hle2, by simpa using hsp3, by rw [walkTo_succ, ← Nat.add_assoc]; exact gT (by simpa using hc40), hs⟩, by dsimp only; omega⟩
      · refine .exit ?_
        refine xT (xT (xB (nT ?_)))
        refine .regSeq (.z zg (.nil ?_))
        refine .ret (Fin.ret1 Tryz.results140 rfl ?_)
        exact ⟨H1, σ1, sp1, hle1, hsp1, hs, .inl ⟨rfl, by rw [← walkTo_all, show n - f = j by omega]; exact hI1⟩⟩
def ChE (n : Nat) (k : Nat) (H' : Heap) (z : List Value) : Prop := ∃ v c, z = [v] ∧ (choicesL n)[k]? = some c ∧ nnil v = true ∧ RI H' v c
theorem probe_choices_1_iter {H : Heap} {n bn : Nat} (hn : Row H bn [I n]) (hn8 : n ≤ 1000) : IterE Tryz.prog 139 [.pointer (some ⟨bn, 0, none⟩)] H (choicesL n).length (ChE n) := by
  intro l II Ix hmI hmX hyd H0 σb0 σf w hle hI0 hs
  have hn0 := (hn.mono hle).at 0
  have e8 : min (n : Int) 3 + 1 = ((min n 3 + 1 : Nat) : Int) := by omega
  refine Cl.of Tryz.func139 rfl Tryz.ntmps139 (by simp) (args_cons (k := 0) rfl (args_cons (k := 1) rfl (args0))) ?_
  refine .regSeq ?_
  refine .o (.box hs rfl rfl ?_); intro b2 w hs
  refine .nil (.regSeq ?_)
  refine .o (.alloc hs Tryz.zeroValue161 rfl ?_); intro b3 w hs
  refine .nil (.regSeq ?_)
  refine .q hs (q_makeFunc (f := []) (c := [_, _, _]) rfl rfl) ?_
  refine .o (.store hs rfl rfl Tryz.sizeOf161 ?_); intro w hs
  refine .nil (.regSeq ?_)
  obtain ⟨Ha, hlea, hra, hs⟩ := hs.publish (b := b2) (by repeat constructor)
  obtain ⟨Hb, hleb, hrb, hs⟩ := hs.publish (b := b3) .here
  have hyb := hyd
  have hwb := hrb.at 0
  have hnb := ((hn.mono hle).mono (hlea.trans hleb)).at 0
  refine .q hs (q_loadR rfl Tryz.isAgg3 hnb) ?_
  refine .z zmin (.z zadd ?_)
  rw [e8]
  refine .q hs (q_move rfl) ?_
  refine .nil ?_
  refine .for (N := min n 3 + 1) (J := fun k fr w => fr = [(3, .pointer (some ⟨b3, 0, none⟩))] ∧ ∃ H1 σ1, HLe Hb H1 ∧ II (chTo n k) H1 σ1 ∧ St H1 w (σ1 ++ σf)) (by omega) ?_ ?_ ?_
  · exact .mk ⟨rfl, Hb, σb0, HLe.refl _, hmI _ _ _ _ (hlea.trans hleb) hI0, hs⟩
  · rintro k fr w hk ⟨rfl, H1, σ1, hle1, hI1, hs⟩
    have hw1 := (hrb.mono hle1).at 0
    refine .block (.regSeq (.z zm (.z zg (.nil ?_))))
    refine .seq (.draw mix rfl hs ?_); intro w hs
    refine .r (i := 0) hs rfl (by kernel_rfl) .none (q_loadR rfl Tryz.isAgg161 hw1) ?_
    refine .z 1 rfl zm ?_; refine .z 3 rfl zm ?_
    refine .e1 (i := 2) (by kernel_rfl) rfl rfl .none hs ?_
    refine .makeRoomI 0 k hs rfl rfl (by omega) Tryz.runUnderlying25 Tryz.typeInfo3 rfl Tryz.sizeOf3 Tryz.zeroValue3 (by omega) ?_; intro b14 w hs
    refine .go ?_
    refine .e1 (i := 4) (by kernel_rfl) rfl rfl .none hs ?_
    have hcall := probe_choices_walk (L := choicesL n) (hra.mono (hleb.trans hle1)) (hn.mono (hle.trans (hlea.trans (hleb.trans hle1)))) (hrb.mono hle1) hn8 hmI
      (fun k z H' σb σf w h1 ⟨v, c, h2, h3, h9, h4⟩ h5 h6 => hyd k (List.getElem?_eq_some_iff.1 h3).1 z H' σb σf w (hle.trans ((hlea.trans (hleb.trans hle1)).trans h1)) ⟨v, c, h2, h3, h9, h4⟩ h5 h6)
      k [] 0 (chTo n k) (List.replicate k 0) b14 H1 σ1 σf w (HLe.refl _) (by simp; omega) (by simp) (fun i c h => by simpa using choicesL_get hk h) (fun _ => rfl) (by simp) (Nat.zero_le _) hI1 (by simpa using hs)
    simp only [List.length_nil, Nat.zero_add, List.nil_append] at hcall
    refine .callG (first := []) (cap := [.pointer (some ⟨b2, 0, none⟩), .pointer (some ⟨bn, 0, none⟩), .pointer (some ⟨b3, 0, none⟩)]) rfl rfl Tryz.call140 hcall ?_; rintro v16 w ⟨H2, σ2, sp2, hle2, -, hs, g3⟩
    obtain ⟨bb, rfl, gT, gF⟩ := yd_bool g3
    refine .go ?_
    refine .z 5 rfl znot ?_; refine .done (by kernel_rfl) hs ?_
    refine (.cond rfl (fun hc17 => ?_) (fun hc17 => ?_))
    · refine .ret (rB (rT (rB (Fin.ret0 Tryz.results139 ?_))))
      exact ⟨H2, σ2, (hlea.trans hleb).trans (hle1.trans hle2), hs.tail, .inr (gF (by simpa using hc17))⟩
    · refine .skip ?_
      refine nB (nT ?_)
      exact .mk ⟨rfl, H2, σ2, hle1.trans hle2, by rw [chTo_succ]; exact gT (by simpa using hc17), hs.tail⟩
  · rintro fr w ⟨rfl, H1, σ1, hle1, hI1, hs⟩
    exact Fin.end0 Tryz.results139 ⟨H1, σ1, (hlea.trans hleb).trans hle1, hs, .inl hI1⟩
theorem probe_choices_spec {H : Heap} {w : World} {σ : List Ent} {n : Nat} (hs : St H w σ) (hn : n ≤ 1000) :
    Cl Tryz.prog 54 [I n] w fun v w' => ∃ H1 b, HLe H H1 ∧ v = .func (.func 139) #[] #[.pointer (some ⟨b, 0, none⟩)] ∧ IterE Tryz.prog 139 [.pointer (some ⟨b, 0, none⟩)] H1 (choicesL n).length (ChE n) ∧ St H1 w' σ := by
  refine Cl.of Tryz.func54 rfl Tryz.ntmps54 (by simp) (args_cons (k := 0) rfl (args0)) ?_
  refine .regSeq ?_
  refine .o (.box hs rfl rfl ?_); intro b1 w hs
  refine .z zg (.nil (.regSeq ?_))
  refine .q hs (q_makeFunc (f := []) (c := [_]) rfl rfl) ?_
  refine .z zg (.nil ?_)
  refine .ret (Fin.ret1 Tryz.results54 rfl ?_)
  obtain ⟨H1, g1, g2, hs⟩ := hs.publish .here
  exact ⟨H1, b1, g1, rfl, probe_choices_1_iter g2 hn, hs⟩
theorem probe_chosen_spec {H : Heap} {w : World} {σ : List Ent} {v vc : Value} {l : List Prb} {c : List Int} (hs : St H w σ) (hr : RPs H v l) (hc : RI H vc c) (hin : ∀ x ∈ c, 0 ≤ x ∧ x < l.length) (hc3 : c.length ≤ 1000) :
    Cl Tryz.prog 86 [v, vc] w fun u w' => ∃ H1, HLe H H1 ∧ RPs H1 u (chosenL l c) ∧ St H1 w' σ := by
  obtain ⟨al, cpl, rfl⟩ := RPs.shape hr
  obtain ⟨ac, cc, rfl⟩ := RI.shape hc
  refine Cl.of Tryz.func86 rfl Tryz.ntmps86 (by simp) (args_cons (k := 0) rfl (args_cons (k := 1) rfl (args0))) ?_
  refine .regSeq (.z zg (.nil (.regSeq (.z zg (.nil (.seq (.regSeq (.z zm (.z (zlen Tryz.runUnderlying25) ?_)))))))))
  refine .z zm (.nil ?_)
  refine .for (N := c.length) (J := fun k fr w => ∃ v5 en, OwnS 2 v5 (Prbs (chosenL l (c.take k))) en ∧ fr = [(5, v5), (0, .slice al l.length cpl), (8, .slice ac c.length cc)] ∧ St H w (en :: σ)) (by omega) ?_ ?_ ?_
  · exact .mk ⟨_, _, .nil 2 none, rfl, hs.nul⟩
  · rintro k fr w hk ⟨v5, en, hO, rfl, hs⟩
    obtain ⟨x, hx⟩ := nth hk
    obtain ⟨a5, l5, c5, rfl, h5⟩ := hO.shape
    obtain ⟨hx0, hx1⟩ := hin x (List.mem_of_getElem? hx)
    obtain ⟨pp, hpp⟩ := nth (l := l) (k := x.toNat) (by omega)
    refine .block (.regSeq ?_)
    refine .ixY hs hc rfl rfl Tryz.runUnderlying25 Tryz.sizeOf3 hx rfl ?_; intro b12 o12 hc12
    refine .q hs (q_loadR rfl Tryz.isAgg3 hc12) ?_
    refine .z zg (.nil (.region (.z zm (.z zm (.z zm ?_)))))
    refine .ixX hs hr rfl rfl Tryz.runUnderlying28 Tryz.sizeOf54 hpp (by omega) ?_; intro b17 o17 hc17
    refine .q hs (q_loadsR (vs := pp.c) rfl Tryz.isAgg54 Tryz.sizeOf54 hc17) ?_
    refine .o (.buildSlice (cells := pp.c) hs bls_sl_api_Probe_1 rfl rfl ?_); intro b19 w hs
    refine .o (.append (ys := pp.c) hs app_sl_api_Probe_api_Probe rfl rfl hO (.own .here rfl rfl) (by simp [Prb.c, Value.oneCell']) (fun l' h => by have h7 := chosenL_length (l := l) (c := c.take k); rw [Prbs_length] at h; simp at h7; omega) ?_); intro v20 en20 w hO2 hs
    refine .z zg (.nil ?_)
    refine nB (nT ?_)
    refine .mk ⟨_, _, ?_, rfl, hs.sub (by repeat (first | exact Sub.refl _ | constructor | apply Sub.weaken))⟩
    rw [take_snoc hx, chosenL_snoc hpp, Prbs_append]; simpa [Prbs] using hO2
  · rintro fr w ⟨v5, en, hO, rfl, hs⟩
    rw [List.take_length] at hO
    obtain ⟨a5, l5, c5, rfl, h5⟩ := hO.shape
    refine nT ?_
    refine .regSeq (.z zm (.z zg (.nil ?_)))
    refine .ret (Fin.ret1 Tryz.results86 rfl ?_)
    obtain ⟨H2, g1, g2, hs⟩ := OwnS.publish (cs := (chosenL l c).map Prb.c) hO (fun c hc => by simp only [List.mem_map] at hc; obtain ⟨x, _, rfl⟩ := hc; rfl) (by omega) (by have := chosenL_length (l := l) (c := c); rw [List.length_map]; omega) hs (by repeat constructor)
    exact ⟨H2, g1, g2, hs⟩
end Go.Proofs.YtiiokdeehlfeeaaGreat

namespace Go.Proofs.YtiiokdeehlfeeaaGreat
open Go.MW
theorem probe_twins_spec {H : Heap} {w : World} {σ : List Ent} {v vl : Value} {a : Quest} {l : List Prb} (hs : St H w σ) (hr : RAsk H v a) (hp : RPs H vl l) (hok : AskOk a) (hlen : l.length ≤ 8) (hin : ∀ p ∈ l, PrbIn a p) :
    Cl Tryz.prog 70 [v, vl] w fun u w' => ∃ H1 va vb xs, HLe H H1 ∧ u = .tuple #[.agg #[va, vb], I 0] ∧ RI H1 va (xs.take a.sys.n) ∧ RI H1 vb (0 :: xs.drop a.sys.n) ∧ BestR (dblS a l) (dblW a.ws) xs ∧ St H1 w' σ := by
  obtain ⟨ul, uw, rfl, hl, hw⟩ := hr
  have hm := hok.ok.m0
  have hm1 := hok.many
  have hn : a.sys.many + 1 = (a.sys.n : Int) := by simp only [Syst.n]; omega
  refine Cl.of Tryz.func70 rfl Tryz.ntmps70 (by simp) (args_cons (k := 0) rfl (args_cons (k := 1) rfl (args0))) ?_
  refine .regSeq ?_
  refine .o (.box hs rfl rfl ?_); intro b2 w hs
  refine .o (.alloc hs Tryz.zeroValue39 rfl ?_); intro b4 w hs
  refine .z zg (.nil (.regSeq (.y hs (zls [_, _, _, _] Tryz.isAgg27 Tryz.sizeOf27) (.z zm ?_))))
  refine .o (.call Tryz.call87 rfl (probe_double_spec (a := a) hs ⟨_, _, rfl, hl, hw⟩ hp hok hlen hin) ?_); rintro _ w ⟨H1, ul1, uw1, vp, vw, hle1, rfl, hl1, hw1, hvp, hvw, hs⟩
  obtain ⟨al1, cl1, rfl⟩ := RL.shape hl1; obtain ⟨aw1, cw1, rfl⟩ := RI.shape hw1; obtain ⟨ap1, cp1, rfl⟩ := RL.shape hvp; obtain ⟨av1, cv1, rfl⟩ := RI.shape hvw
  refine .o (.alloc hs Tryz.zeroValue125 rfl ?_); intro b6 w hs
  refine .o (.stores (vs := [_, _, _, _, _, _, _]) hs rfl rfl Tryz.sizeOf125 ?_); intro w hs
  refine .nil (.regSeq (.z (zfa fa_probe_doubled_1) (.y hs (zls [_, _] Tryz.isAgg24 Tryz.sizeOf24) (.z (zfa fa_probe_doubled_2) (.y hs (zld Tryz.isAgg25) ?_)))))
  refine .o (.call Tryz.call137 rfl (bound_Best_spec (s := dblS a l) hs ⟨_, rfl, hvp⟩ hvw) ?_); rintro _ w ⟨H2, vx, xs, e, hle2, rfl, hA, hx, -, h0, hs⟩
  obtain rfl := dbl_ask hok hlen hin hA
  have hB := h0 rfl
  have hxl : xs.length = 2 * a.sys.n - 1 := by rw [hB.len]; simp only [Syst.n, dblS]; omega
  obtain ⟨ax, cx, rfl⟩ := RI.shape hx
  have hxc := (RI.len hx).2.1
  refine .z zm (.z zex (.z zex (.z zg (.z zg (.nil (.seq (.regSeq (.z zm (.z zneq ?_)))))))))
  refine .nil ?_
  refine (.condN rfl (fun hc22 => ?_) (fun hc22 => ?_))
  · refine .regSeq (.z (zbd [_, _] bld_api_Twins) (.z zm ?_))
    refine .o (.stores (vs := [_, _]) hs rfl rfl Tryz.sizeOf39 ?_); intro w hs
    refine .z zg (.nil ?_)
    refine .ret (rT (?_))
    exact (hc22 rfl).elim
  · refine .skip ?_
    refine nT ?_
    refine .regSeq (.z (zfa fa_api_Ask_0) (.z (zfa fa_api_System_0) (.y hs (zld Tryz.isAgg3) (.z zg (.nil ?_)))))
    refine .seq (.draw mix rfl hs ?_); intro w hs
    refine .z 0 rfl zm ?_; refine .z 1 rfl zm ?_; refine .z 2 rfl zadd ?_
    refine .p (i := 3) rfl (by kernel_rfl) .none (q_sliceHX (k := a.sys.n) rfl rfl Tryz.runUnderlying25 Tryz.sizeOf3 (by omega) (by omega)) ?_
    refine .z 6 rfl zm ?_; refine .z 7 rfl zm ?_; refine .z 8 rfl zadd ?_
    refine .p (i := 9) rfl (by kernel_rfl) .none (q_sliceLX (k := a.sys.n) rfl rfl Tryz.runUnderlying25 Tryz.sizeOf3 (by omega) (by omega)) ?_
    refine .e2 (i := 4) (j := 5) (by kernel_rfl) rfl rfl rfl rfl .none .none hs ?_ ?_
    · refine .call Tryz.call81 rfl (slices_Clone_int hs (hx.head (k := a.sys.n) (by omega)) (by simp; omega)) ?_; rintro v32 w ⟨en32, hO32, hs⟩
      obtain ⟨a32, l32, c32, rfl, h32⟩ := hO32.shape
      refine .go ?_
      refine .e1 (i := 5) (by kernel_rfl) rfl rfl .none hs ?_
      refine .buildSlice (cells := [_]) hs bls_sl_int_1 rfl rfl ?_; intro b33 w hs
      refine .go ?_
      refine .e1 (i := 10) (by kernel_rfl) rfl rfl .none hs ?_
      refine .append (xs := [I 0]) (ys := Is (xs.drop a.sys.n)) hs app_sl_int_int rfl rfl (.full rfl) (.ints (hx.tail (k := a.sys.n) (by omega))) (Is_cell _) (fun l h => by simp at h; simp; omega) ?_; intro v38 en38 w hO38 hs
      obtain ⟨a38, l38, c38, rfl, h38⟩ := hO38.shape
      refine .go ?_
      refine .z 11 rfl (zbd [_, _] bld_api_Twins) ?_
      refine .e1 (i := 12) (by kernel_rfl) rfl rfl .none hs ?_
      refine .stores (vs := [_, _]) hs rfl rfl Tryz.sizeOf39 ?_; intro w hs
      refine .go ?_
      refine .z 13 rfl zg ?_; refine .done (by kernel_rfl) hs ?_
      refine .ret ?_
      obtain ⟨H3, g1, r1, hs⟩ := hO32.publishI (by simp; omega) hs (by repeat constructor)
      obtain ⟨H4, g2, r2, hs⟩ := OwnS.publishI (xs := 0 :: xs.drop a.sys.n) hO38 (by simp; omega) hs (by repeat constructor)
      exact Fin.retD [] [] hs fun w hs => ⟨_, results2 Tryz.results70 (rcells (vs := [_, _]) hs rfl Tryz.isAgg39 Tryz.sizeOf39) rfl, H4, _, _, xs, hle1.trans (hle2.trans (g1.trans g2)), rfl, r1.mono g2, r2, hB, hs.out⟩
    · refine .buildSlice (cells := [_]) hs bls_sl_int_1 rfl rfl ?_; intro b33 w hs
      refine .go ?_
      refine .e1 (i := 4) (by kernel_rfl) rfl rfl .none hs ?_
      refine .call Tryz.call81 rfl (slices_Clone_int hs (hx.head (k := a.sys.n) (by omega)) (by simp; omega)) ?_; rintro v32 w ⟨en32, hO32, hs⟩
      obtain ⟨a32, l32, c32, rfl, h32⟩ := hO32.shape
      refine .go ?_
      refine .e1 (i := 10) (by kernel_rfl) rfl rfl .none hs ?_
      refine .append (xs := [I 0]) (ys := Is (xs.drop a.sys.n)) hs app_sl_int_int rfl rfl (.full rfl) (.ints (hx.tail (k := a.sys.n) (by omega))) (Is_cell _) (fun l h => by simp at h; simp; omega) ?_; intro v38 en38 w hO38 hs
      obtain ⟨a38, l38, c38, rfl, h38⟩ := hO38.shape
      refine .go ?_
      refine .z 11 rfl (zbd [_, _] bld_api_Twins) ?_
      refine .e1 (i := 12) (by kernel_rfl) rfl rfl .none hs ?_
      refine .stores (vs := [_, _]) hs rfl rfl Tryz.sizeOf39 ?_; intro w hs
      refine .go ?_
      refine .z 13 rfl zg ?_; refine .done (by kernel_rfl) hs ?_
      refine .ret ?_
      obtain ⟨H3, g1, r1, hs⟩ := hO32.publishI (by simp; omega) hs (by repeat constructor)
      obtain ⟨H4, g2, r2, hs⟩ := OwnS.publishI (xs := 0 :: xs.drop a.sys.n) hO38 (by simp; omega) hs (by repeat constructor)
      exact Fin.retD [] [] hs fun w hs => ⟨_, results2 Tryz.results70 (rcells (vs := [_, _]) hs rfl Tryz.isAgg39 Tryz.sizeOf39) rfl, H4, _, _, xs, hle1.trans (hle2.trans (g1.trans g2)), rfl, r1.mono g2, r2, hB, hs.out⟩
theorem probe_Best_1 {H : Heap} {w : World} {σ : List Ent} {v vl : Value} {a : Quest} {l : List Prb} {bl : Nat} (hs : St H w σ) (hr : RAsk H v a) (hb : Row H bl [vl]) (hp : RPs H vl l) (hok : AskOk a) (hlen : l.length ≤ 8) (hin : ∀ p ∈ l, PrbIn a p) :
    Cl Tryz.prog 58 [v, .pointer (some ⟨bl, 0, none⟩)] w fun u w' => ∃ H1 x e, HLe H H1 ∧ u = .tuple #[I x, I e] ∧ BestP a l x e ∧ St H1 w' σ := by
  obtain ⟨ul, uw, rfl, hl, hw⟩ := hr
  obtain ⟨al, cpl, rfl⟩ := RPs.shape hp
  have hb0 := hb.at 0
  have hcap := (RPs.len hp).2.1
  refine Cl.of Tryz.func58 rfl Tryz.ntmps58 (by simp) (args_cons (k := 0) rfl (args_cons (k := 1) rfl (args0))) ?_
  refine .regSeq ?_
  refine .o (.box hs rfl rfl ?_); intro b2 w hs
  refine .z zg (.z zg (.nil (.regSeq (.z zg (.z zg (.nil (.seq (.regSeq ?_))))))))
  refine .q hs (q_loadR rfl Tryz.isAgg28 hb0) ?_
  refine .z (zlen Tryz.runUnderlying28) (.z zm (.nil ?_))
  refine .for (N := l.length) (J := fun k fr w => ∃ b n H1, fr = [(5, I b), (6, I n), (1, .pointer (some ⟨bl, 0, none⟩)), (2, .pointer (some ⟨b2, 0, none⟩))] ∧ BestI a l k b n ∧ HLe H H1 ∧ St H1 w (.blk b2 [I a.sys.many, ul, uw, I a.width] :: σ)) (by omega) ?_ ?_ ?_
  · exact .mk ⟨_, _, H, rfl, .none, HLe.refl _, hs⟩
  · rintro k fr w hk ⟨b, n, H1, rfl, hB, hle1, hs⟩
    have hb1 := (hb.mono hle1).at 0
    have hp1 := hp.mono hle1
    refine .block (.regSeq (.z zm (.z zg (.nil ?_))))
    refine .seq (.draw mix rfl hs ?_); intro w hs
    refine .ys 0 rfl hs [_, _, _, _] Tryz.isAgg27 Tryz.sizeOf27 ?_
    refine .r (i := 1) hs rfl (by kernel_rfl) .none (q_loadR rfl Tryz.isAgg28 hb1) ?_
    refine .z 2 rfl zm ?_; refine .z 3 rfl zm ?_; refine .z 4 rfl zadd ?_
    refine .p (i := 5) rfl (by kernel_rfl) .none (q_sliceX (j := k) (k := k + 1) rfl rfl rfl Tryz.runUnderlying28 Tryz.sizeOf54 rfl (by omega) (by omega) (by omega)) ?_
    refine .e1 (i := 6) (by kernel_rfl) rfl rfl .none hs ?_
    refine .call Tryz.call59 rfl (probe_worst_spec (a := a) (l := oneP l k) hs ⟨_, _, rfl, hl.mono hle1, hw.mono hle1⟩ (hp1.part (by omega) (by omega)) hok (by have := oneP_len l k; omega) (fun p h => hin p (oneP_mem h))) ?_; rintro _ w ⟨H2, m, hle2, rfl, hPS, hs⟩
    refine .go ?_
    refine .z 7 rfl zm ?_; refine .z 8 rfl zex ?_; refine .z 9 rfl zex ?_; refine .z 10 rfl zg ?_; refine .z 11 rfl zg ?_; refine .done (by kernel_rfl) hs ?_
    refine .regSeq (.z zm (.z zlss (.z zm ?_)))
    refine .bifD (t' := 27) rfl (fun hb27 => ?_) (fun hb27 => ?_)
    · refine .gFs 3 2 false rfl rfl rfl ?_
      refine .z zpT (.nil ?_)
      refine (.condT rfl rfl ?_)
      refine .region (.z zm (.z zm (.z zg (.z zg (.nil ?_)))))
      refine nB (nT ?_)
      exact .mk ⟨_, _, H2, rfl, hB.better hPS (.inl (by simpa using hb27)), hle1.trans hle2, hs⟩
    · refine .gT rfl rfl ?_
      refine .z zm ?_
      refine .gT rfl rfl ?_
      refine .z zm ?_
      refine .gT rfl rfl ?_
      refine .z zlss (.z zpF (.nil ?_))
      refine (.condD rfl (fun hc31 => ?_) (fun hc31 => ?_))
      · refine .region (.z zm (.z zm (.z zg (.z zg (.nil ?_)))))
        refine nB (nT ?_)
        exact .mk ⟨_, _, H2, rfl, hB.better hPS (.inr (by simpa using hc31)), hle1.trans hle2, hs⟩
      · refine .skip ?_
        refine nB (nT ?_)
        exact .mk ⟨_, _, H2, rfl, hB.keep hPS (by simpa using hb27) (by simpa using hc31), hle1.trans hle2, hs⟩
  · rintro fr w ⟨b, n, H1, rfl, hB, hle1, hs⟩
    refine nT ?_
    refine .seq (.regSeq (.z zm (.z zlss (.nil ?_))))
    refine (.condD rfl (fun hc36 => ?_) (fun hc36 => ?_))
    · refine .regSeq (.z zg (.z zg (.nil ?_)))
      refine .ret (rT (Fin.ret2 Tryz.results58 rfl rfl ?_))
      refine ⟨H1, _, _, hle1, rfl, .inl ⟨?_, rfl, rfl⟩, hs.tail⟩
      generalize hk : l.length = k at hB
      cases hB with
      | none => exact List.length_eq_zero_iff.1 hk
      | some h => omega
    · refine .skip ?_
      refine nT ?_
      refine .regSeq (.z zm (.z zg (.z zg (.nil ?_))))
      refine .ret (Fin.ret2 Tryz.results58 rfl rfl ?_)
      refine ⟨H1, _, _, hle1, rfl, .inr ?_, hs.tail⟩
      generalize hk : l.length = k at hB ⊢
      cases hB with
      | none => omega
      | @some _ i _ h => exact ⟨i, _, rfl, rfl, h⟩
theorem probe_Best_spec {H : Heap} {w : World} {σ : List Ent} {v vl : Value} {a : Quest} {l : List Prb} (hs : St H w σ) (hr : RAsk H v a) (hp : RPs H vl l) :
    Cl Tryz.prog 12 [v, vl] w fun u w' => ∃ H1 x e, HLe H H1 ∧ u = .tuple #[I x, I e] ∧ ((CPrbR a l e ∧ e ≠ 0 ∧ x = 0) ∨ (CPrbR a l 0 ∧ BestP a l x e)) ∧ St H1 w' σ := by
  obtain ⟨ul, uw, rfl, hl, hw⟩ := hr
  obtain ⟨al, cpl, rfl⟩ := RPs.shape hp
  refine Cl.of Tryz.func12 rfl Tryz.ntmps12 (by simp) (args_cons (k := 0) rfl (args_cons (k := 1) rfl (args0))) ?_
  refine .regSeq ?_
  refine .o (.box hs rfl rfl ?_); intro b2 w hs
  refine .o (.box hs rfl rfl ?_); intro b3 w hs
  refine .z zg (.z zg (.nil (.regSeq (.y hs (zls [_, _, _, _] Tryz.isAgg27 Tryz.sizeOf27) (.y hs (zld Tryz.isAgg28) ?_)))))
  refine .q hs (q_makeFunc (f := []) (c := [_]) rfl rfl) ?_
  obtain ⟨H0, hle0, hb3, hs⟩ := hs.publish (b := b3) (by repeat constructor)
  refine .o (.call Tryz.call57 rfl (probe_told_int (R := BestP a l) (a := a) (l := l) (cap := [.pointer (some ⟨b3, 0, none⟩)]) hs ⟨_, _, rfl, hl.mono hle0, hw.mono hle0⟩ (hp.mono hle0) Tryz.call58 ?_) ?_)
  · rintro H' w σ' hle hC hs
    obtain ⟨hok, hlen, hin⟩ := hC.zero
    exact probe_Best_1 (a := a) (l := l) hs ⟨_, _, rfl, (hl.mono hle0).mono hle, (hw.mono hle0).mono hle⟩ (hb3.mono hle) ((hp.mono hle0).mono hle) hok hlen (fun p h => (hin p h).inn)
  rintro _ w ⟨H1, x, e, hle1, rfl, hcase, hs⟩
  refine .z zex (.z zex (.z zg (.z zg (.nil ?_))))
  refine .ret (Fin.ret2 Tryz.results12 rfl rfl ?_)
  exact ⟨H1, x, e, hle0.trans hle1, rfl, hcase, hs.out⟩
theorem probe_Meeting_spec {H : Heap} {w : World} {σ : List Ent} {vl va vb : Value} {l : List Prb} {A B : List Int} (hs : St H w σ) (hp : RPs H vl l) (hA : RI H va A) (hB : RI H vb B) (hlen : l.length ≤ 17592186044415) :
    Cl Tryz.prog 18 [vl, .agg #[va, vb]] w fun u w' => ∃ H1 vo e, HLe H H1 ∧ u = .tuple #[.agg #[vo], I e] ∧ e = meetErr A B l ∧ RI H1 vo (if e = 0 then meetVals A B l else []) ∧ St H1 w' σ := by
  obtain ⟨al, cpl, rfl⟩ := RPs.shape hp
  obtain ⟨aA, cA, rfl⟩ := RI.shape hA
  obtain ⟨aB, cB, rfl⟩ := RI.shape hB
  have hlA := (RI.len hA).2.2
  have hlB := (RI.len hB).2.2
  refine Cl.of Tryz.func18 rfl Tryz.ntmps18 (by simp) (args_cons (k := 0) rfl (args_cons (k := 1) rfl (args0))) ?_
  refine .regSeq ?_
  refine .o (.box hs rfl rfl ?_); intro b3 w hs
  refine .o (.alloc hs Tryz.zeroValue42 rfl ?_); intro b4 w hs
  refine .z zg (.nil (.seq (.regSeq (.z (zfa fa_api_Twins_0) (.y hs (zld Tryz.isAgg25) (.z (zlen Tryz.runUnderlying25) (.z (zfa fa_api_Twins_1) (.y hs (zld Tryz.isAgg25) (.z (zlen Tryz.runUnderlying25) ?_)))))))))
  refine .z zneq (.nil ?_)
  refine (.condN rfl (fun hc17 => ?_) (fun hc17 => ?_))
  · refine .regSeq (.z (zbd [_] bld_api_Outcome) ?_)
    refine .o (.stores (vs := [_]) hs rfl rfl Tryz.sizeOf42 ?_); intro w hs
    refine .z zg (.nil ?_)
    refine .ret (rT (?_))
    exact Fin.retD [] [] hs fun w hs => ⟨_, results2 Tryz.results18 (rcells (vs := [_]) hs rfl Tryz.isAgg42 Tryz.sizeOf42) rfl, H, _, _, HLe.refl _, rfl, (by unfold meetErr; rw [if_pos (by omega)]), by rw [if_neg (by decide)]; exact RS.nil H 1 none 0, hs.out⟩
  · refine .skip ?_
    refine nT ?_
    refine .regSeq ?_
    refine .o (.alloc hs Tryz.zeroValue42 rfl ?_); intro b6 w hs
    refine .nil (.seq (.regSeq (.z zm (.z (zlen Tryz.runUnderlying28) (.z zm (.nil ?_))))))
    refine .for (N := l.length) (J := fun k fr w => ∃ v6 en, OwnS 1 v6 (Is (meetVals A B (l.take k))) en ∧ (∀ q ∈ l.take k, meet1 A B q = 0) ∧ fr = [(3, .pointer (some ⟨b3, 0, none⟩)), (4, .pointer (some ⟨b4, 0, none⟩)), (6, .pointer (some ⟨b6, 0, none⟩)), (19, .slice al l.length cpl)] ∧ St H w (.blk b6 [v6] :: en :: .blk b4 [.slice none 0 0] :: .blk b3 [.slice aA A.length cA, .slice aB B.length cB] :: σ)) (by omega) ?_ ?_ ?_
    · exact .mk ⟨_, _, .nil 1 none, by simp, rfl, hs.nul.sub (by repeat (first | exact Sub.refl _ | constructor | apply Sub.weaken))⟩
    · rintro k fr w hk ⟨v6, en, hO, h0, rfl, hs⟩
      obtain ⟨pp, hx⟩ := nth hk
      obtain ⟨a6, l6, c6, rfl, h6⟩ := hO.shape
      refine .block (.regSeq ?_)
      refine .ixX hs hp rfl rfl Tryz.runUnderlying28 Tryz.sizeOf54 hx rfl ?_; intro b23 o23 hc23
      refine .q hs (q_loadsR (vs := pp.c) rfl Tryz.isAgg54 Tryz.sizeOf54 hc23) ?_
      refine .o (.alloc hs Tryz.zeroValue54 rfl ?_); intro b8 w hs
      refine .o (.stores (vs := pp.c) hs rfl rfl Tryz.sizeOf54 ?_); intro w hs
      refine .nil (.seq (.regSeq (.z (zfa fa_api_Probe_0) (.y hs (zld Tryz.isAgg3) (.z (zfa fa_api_Twins_0) (.y hs (zld Tryz.isAgg25) (.z (zlen Tryz.runUnderlying25) (.z zsub ?_))))))))
      refine .o (.call Tryz.call52 rfl (probe_isWithin_spec hs) ?_); rintro _ w ⟨rfl, hs⟩
      refine .z znot (.z zm ?_)
      refine .bif (t' := 33) rfl (fun hb33 => ?_) (fun hb33 => ?_)
      · refine .gFs 4 8 false rfl rfl rfl ?_
        refine .z zpT (.nil ?_)
        refine (.condT rfl rfl ?_)
        refine .regSeq (.z (zbd [_] bld_api_Outcome) ?_)
        refine .o (.stores (vs := [_]) hs rfl rfl Tryz.sizeOf42 ?_); intro w hs
        refine .z zg (.nil ?_)
        refine .ret (rT (rB (rT (rB (rT (?_))))))
        have hm : meet1 A B pp = 91 := by unfold meet1; rw [if_pos (.inl (fun h => by simp at hb33; omega))]
        exact Fin.retD [] [] hs fun w hs => ⟨_, results2 Tryz.results18 (rcells (vs := [_]) hs rfl Tryz.isAgg42 Tryz.sizeOf42) rfl, H, _, _, HLe.refl _, rfl, (by unfold meetErr; rw [if_neg (by omega), meetE_at h0 hx (by rw [hm]; decide), hm]), by rw [if_neg (by decide)]; exact RS.nil H 1 none 0, hs.out⟩
      · refine .gT rfl rfl ?_
        refine .z (zfa fa_api_Probe_1) ?_
        refine .gT rfl rfl ?_
        refine .y hs (zld Tryz.isAgg3) ?_
        refine .gT rfl rfl ?_
        refine .o (.call Tryz.call52 rfl (probe_isWithin_spec hs) ?_); rintro _ w ⟨rfl, hs⟩
        refine .gT rfl rfl ?_
        refine .z znot (.z zpF (.nil ?_))
        refine (.cond rfl (fun hc38 => ?_) (fun hc38 => ?_))
        · refine .regSeq (.z (zbd [_] bld_api_Outcome) ?_)
          refine .o (.stores (vs := [_]) hs rfl rfl Tryz.sizeOf42 ?_); intro w hs
          refine .z zg (.nil ?_)
          refine .ret (rT (rB (rT (rB (rT (?_))))))
          have hm : meet1 A B pp = 91 := by unfold meet1; rw [if_pos (.inr (fun h => by simp at hc38; omega))]
          exact Fin.retD [] [] hs fun w hs => ⟨_, results2 Tryz.results18 (rcells (vs := [_]) hs rfl Tryz.isAgg42 Tryz.sizeOf42) rfl, H, _, _, HLe.refl _, rfl, (by unfold meetErr; rw [if_neg (by omega), meetE_at h0 hx (by rw [hm]; decide), hm]), by rw [if_neg (by decide)]; exact RS.nil H 1 none 0, hs.out⟩
        · refine .skip ?_
          refine nT ?_
          refine .seq (.draw mix rfl hs ?_); intro w hs
          refine .z 0 rfl (zfa fa_api_Twins_0) ?_; refine .y 1 rfl hs Tryz.isAgg25 ?_; refine .z 2 rfl (zfa fa_api_Probe_0) ?_; refine .y 3 rfl hs Tryz.isAgg3 ?_
          have hu : 1 ≤ pp.u ∧ pp.u ≤ (A.length : Int) - 1 := by simpa using hb33
          have ht : 0 ≤ pp.t ∧ pp.t ≤ 1000 := by simpa using hc38
          have hxA := gi_get (l := A) (i := pp.u.toNat) (by omega)
          have hxB := gi_get (l := B) (i := pp.u.toNat) (by omega)
          refine .ixX (enc := fun x => [I x]) (i := 4) hs rfl (by kernel_rfl) .none hA rfl rfl Tryz.runUnderlying25 Tryz.sizeOf3 hxA (by omega) ?_; intro b44 o44 hc44; replace hc44 := CellsAt.one hc44
          refine .r (i := 5) hs rfl (by kernel_rfl) .none (q_loadR rfl Tryz.isAgg3 hc44) ?_
          refine .z 6 rfl (zfa fa_api_Twins_1) ?_; refine .y 7 rfl hs Tryz.isAgg25 ?_; refine .z 8 rfl (zfa fa_api_Probe_0) ?_; refine .y 9 rfl hs Tryz.isAgg3 ?_
          refine .ixX (enc := fun x => [I x]) (i := 10) hs rfl (by kernel_rfl) .none hB rfl rfl Tryz.runUnderlying25 Tryz.sizeOf3 hxB (by omega) ?_; intro b50 o50 hc50; replace hc50 := CellsAt.one hc50
          refine .r (i := 11) hs rfl (by kernel_rfl) .none (q_loadR rfl Tryz.isAgg3 hc50) ?_
          refine .z 12 rfl zg ?_; refine .z 13 rfl zg ?_; refine .done (by kernel_rfl) hs ?_
          refine .seq (.regSeq (.z zm ?_))
          refine .o (.call Tryz.call52 rfl (probe_isWithin_spec hs) ?_); rintro _ w ⟨rfl, hs⟩
          refine .z znot (.z zm ?_)
          refine .bif (t' := 55) rfl (fun hb55 => ?_) (fun hb55 => ?_)
          · refine .gFs 3 3 false rfl rfl rfl ?_
            refine .z zpT (.nil ?_)
            refine (.condT rfl rfl ?_)
            refine .regSeq (.z (zbd [_] bld_api_Outcome) ?_)
            refine .o (.stores (vs := [_]) hs rfl rfl Tryz.sizeOf42 ?_); intro w hs
            refine .z zg (.nil ?_)
            refine .ret (rT (rB (rT (rB (rT (?_))))))
            have hm : meet1 A B pp = 25 := by unfold meet1; rw [if_neg (by omega), if_pos (.inl (fun h => by simp at hb55; omega))]
            exact Fin.retD [] [] hs fun w hs => ⟨_, results2 Tryz.results18 (rcells (vs := [_]) hs rfl Tryz.isAgg42 Tryz.sizeOf42) rfl, H, _, _, HLe.refl _, rfl, (by unfold meetErr; rw [if_neg (by omega), meetE_at h0 hx (by rw [hm]; decide), hm]), by rw [if_neg (by decide)]; exact RS.nil H 1 none 0, hs.out⟩
          · refine .gT rfl rfl ?_
            refine .z zm ?_
            refine .gT rfl rfl ?_
            refine .o (.call Tryz.call52 rfl (probe_isWithin_spec hs) ?_); rintro _ w ⟨rfl, hs⟩
            refine .gT rfl rfl ?_
            refine .z znot (.z zpF (.nil ?_))
            refine (.cond rfl (fun hc59 => ?_) (fun hc59 => ?_))
            · refine .regSeq (.z (zbd [_] bld_api_Outcome) ?_)
              refine .o (.stores (vs := [_]) hs rfl rfl Tryz.sizeOf42 ?_); intro w hs
              refine .z zg (.nil ?_)
              refine .ret (rT (rB (rT (rB (rT (?_))))))
              have hm : meet1 A B pp = 25 := by unfold meet1; rw [if_neg (by omega), if_pos (.inr (fun h => by simp at hc59; omega))]
              exact Fin.retD [] [] hs fun w hs => ⟨_, results2 Tryz.results18 (rcells (vs := [_]) hs rfl Tryz.isAgg42 Tryz.sizeOf42) rfl, H, _, _, HLe.refl _, rfl, (by unfold meetErr; rw [if_neg (by omega), meetE_at h0 hx (by rw [hm]; decide), hm]), by rw [if_neg (by decide)]; exact RS.nil H 1 none 0, hs.out⟩
            · refine .skip ?_
              refine nT ?_
              refine .seq (.regSeq ?_)
              have hra : -1280000 ≤ gi A pp.u.toNat ∧ gi A pp.u.toNat ≤ 1280000 := by simpa using hb55
              have hrb : -1280000 ≤ gi B pp.u.toNat ∧ gi B pp.u.toNat ≤ 1280000 := by simpa using hc59
              refine .z zm (.z zm (.z zsub (.z zm (.z zm (.z zsub (.z zmax (.z (zfa fa_api_Probe_1) (.y hs (zld Tryz.isAgg3) (.z zmul ?_)))))))))
              refine .z zgtr (.nil ?_)
              refine (.condD rfl (fun hc71 => ?_) (fun hc71 => ?_))
              · refine .regSeq (.z (zbd [_] bld_api_Outcome) ?_)
                refine .o (.stores (vs := [_]) hs rfl rfl Tryz.sizeOf42 ?_); intro w hs
                refine .z zg (.nil ?_)
                refine .ret (rT (rB (rT (rB (rT (?_))))))
                have hm : meet1 A B pp = 92 := by unfold meet1; rw [if_neg (by omega), if_neg (by omega), if_pos (by omega)]
                exact Fin.retD [] [] hs fun w hs => ⟨_, results2 Tryz.results18 (rcells (vs := [_]) hs rfl Tryz.isAgg42 Tryz.sizeOf42) rfl, H, _, _, HLe.refl _, rfl, (by unfold meetErr; rw [if_neg (by omega), meetE_at h0 hx (by rw [hm]; decide), hm]), by rw [if_neg (by decide)]; exact RS.nil H 1 none 0, hs.out⟩
              · refine .skip ?_
                refine nT ?_
                refine .region (.z (zfa fa_api_Outcome_0) (.y hs (zld Tryz.isAgg25) (.z zm (.z zm (.z zadd ?_)))))
                refine .q hs (q_shr rfl rfl (by decide)) ?_
                rw [shr1]
                refine .o (.buildSlice (cells := [_]) hs bls_sl_int_1 rfl rfl ?_); intro b79 w hs
                refine .o (.append (ys := [I ((gi A pp.u.toNat + gi B pp.u.toNat) / 2)]) hs app_sl_int_int rfl rfl hO (.own .here rfl rfl) (by simp [Value.oneCell']) (fun l' h => by simp [meetVals] at h; omega) ?_); intro v80 en80 w hO2 hs
                obtain ⟨a80, l80, c80, rfl, h80⟩ := hO2.shape
                refine .z (zfa fa_api_Outcome_0) ?_
                refine .o (.store hs rfl rfl Tryz.sizeOf25 ?_); intro w hs
                refine .nil ?_
                refine nB (nT ?_)
                have hm : meet1 A B pp = 0 := by unfold meet1; rw [if_neg (by omega), if_neg (by omega), if_neg (by omega)]
                refine .mk ⟨_, _, ?_, ?_, rfl, hs.sub (by repeat (first | exact Sub.refl _ | constructor | apply Sub.weaken))⟩
                · rw [take_snoc hx]; simpa [meetVals] using hO2
                · rw [take_snoc hx]; intro q hq; simp only [List.mem_append, List.mem_singleton] at hq; rcases hq with hq | rfl; exact h0 q hq; exact hm
    · rintro fr w ⟨v6, en, hO, h0, rfl, hs⟩
      rw [List.take_length] at hO h0
      obtain ⟨a6, l6, c6, rfl, h6⟩ := hO.shape
      refine nT ?_
      refine .regSeq (.y hs (zls [_] Tryz.isAgg42 Tryz.sizeOf42) ?_)
      refine .o (.stores (vs := [_]) hs rfl rfl Tryz.sizeOf42 ?_); intro w hs
      refine .z zg (.nil ?_)
      refine .ret ?_
      obtain ⟨H3, g1, r1, hs⟩ := hO.publishI (by simp [meetVals]; omega) hs (by repeat constructor)
      exact Fin.retD [] [] hs fun w hs => ⟨_, results2 Tryz.results18 (rcells (vs := [_]) hs rfl Tryz.isAgg42 Tryz.sizeOf42) rfl, H3, _, _, g1, rfl, (by unfold meetErr; rw [if_neg (by omega), meetE_all h0]), by rw [if_pos rfl]; exact r1, hs.out⟩
end Go.Proofs.YtiiokdeehlfeeaaGreat
