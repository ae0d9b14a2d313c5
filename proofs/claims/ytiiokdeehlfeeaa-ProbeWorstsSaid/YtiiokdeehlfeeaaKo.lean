/-
  Texts of this claim, joined: Opn Opb Cls Fct.
-/
import Derived.Test.YtiiokdeehlfeeaaKn
import Derived.Test.YtiiokdeehlfeeaaProg
import Derived.KernelRfl
import Derived.JoinedOf
/-
  What an argument of each type of this program holds, when it is read.
-/
namespace Go.Proofs.Ytiiokdeehlfeeaa
open Go.MW Go.ChangeShapes Go.WideShapes
set_option maxRecDepth 100000
theorem c_int : Try.prog.cellsOf 3 = 1 := by kernel_rfl
theorem c_ints : Try.prog.cellsOf 22 = 1 := by kernel_rfl
theorem c_lims : Try.prog.cellsOf 30 = 1 := by kernel_rfl
theorem c_Limit : Try.prog.cellsOf 100 = 4 := by kernel_rfl
theorem c_System : Try.prog.cellsOf 32 = 2 := by kernel_rfl
theorem c_Ask : Try.prog.cellsOf 34 = 4 := by kernel_rfl
theorem c_Probe : Try.prog.cellsOf 48 = 2 := by kernel_rfl
theorem b_int : Try.prog.bytesOf 3 = 8 := by kernel_rfl
theorem b_Limit : Try.prog.bytesOf 100 = 32 := by kernel_rfl
theorem b_Probe : Try.prog.bytesOf 48 = 16 := by kernel_rfl
theorem reach_eq : reachBytes = 140737488351232 := rfl
section
variable {H : Type} {enc : TypeId × Value → H} {w : World} {sp : Nat → Bool} {held : Bool} {n : Nat} {cs : List Value} {y : DataW H × List MemPlace} {v : Value} {d : DataW H} {p : List MemPlace} {r : Reach} {base : Nat}
theorem o_ints (hw : Wt Try.prog 22 y.1) (h : DataW.trod enc Try.prog w 0 sp held n 22 cs = some y) : ∃ v xs, cs = [v] ∧ RI (hp w) v xs ∧ IsIn xs := by
  obtain ⟨v, xs, h1, h2, h3, h4⟩ := trod_RI Try.underlying22 Try.underlying3 c_int hw h
  rw [b_int, reach_eq] at h3
  exact ⟨v, xs, h1, h2, by omega, h4⟩
theorem o_lims (hw : Wt Try.prog 30 y.1) (h : DataW.trod enc Try.prog w 0 sp held n 30 cs = some y) : ∃ v ls, cs = [v] ∧ RL (hp w) v ls ∧ ls.length ≤ 4398046510976 ∧ ∀ l ∈ ls, l.In := by
  obtain ⟨v, zs, h1, h2, h9, h3⟩ := trod_RS (k := 4) Try.underlying30 Try.underlying100 rfl (by decide) (by
    intro i f hf
    match i with
    | 0 | 1 | 2 | 3 => cases hf; exact ⟨rfl, Try.underlying3, c_int⟩
    | i + 4 => simp at hf) c_Limit hw h
  obtain ⟨ls, h4, h5⟩ := fours h3
  rw [b_Limit, reach_eq] at h9
  have h6 : zs.length = ls.length := by have := congrArg List.length h4; simpa using this
  exact ⟨v, ls, h1, by unfold RL; rw [← h4]; exact h2, by omega, h5⟩
theorem o_probes (hw : Wt Try.prog 35 y.1) (h : DataW.trod enc Try.prog w 0 sp held n 35 cs = some y) : ∃ v ls, cs = [v] ∧ RPs (hp w) v ls ∧ PrbsIn ls := by
  obtain ⟨v, zs, h1, h2, h9, h3⟩ := trod_RS (k := 2) Try.underlying35 Try.underlying48 rfl (by decide) (by
    intro i f hf
    match i with
    | 0 | 1 => cases hf; exact ⟨rfl, Try.underlying3, c_int⟩
    | i + 2 => simp at hf) c_Probe hw h
  obtain ⟨ls, h4, h5⟩ := twos h3
  rw [b_Probe, reach_eq] at h9
  have h6 : zs.length = ls.length := by have := congrArg List.length h4; simpa using this
  exact ⟨v, ls, h1, by unfold RPs; rw [← h4]; exact h2, by omega, h5⟩
theorem o_System (hw : Wt Try.prog 32 y.1) (h : DataW.trod enc Try.prog w 0 sp held n 32 cs = some y) : ∃ (s : Syst) (u : Value), cs = [I s.many, u] ∧ RL (hp w) u s.lims ∧ s.In := by
  obtain ⟨ys, m, _, rfl, hlen, hyl, hg⟩ := DataW.trod_struct Try.underlying32 h
  rw [c_System] at hlen
  obtain ⟨c0, c1, rfl⟩ := len2 hlen
  obtain ⟨_, h0, k0⟩ := fld hg hyl 0 rfl rfl rfl c_int Try.underlying32 hw
  obtain ⟨_, h1, k1⟩ := fld hg hyl 1 rfl rfl rfl c_lims Try.underlying32 hw
  obtain ⟨m, e0, i0⟩ := trod_i Try.underlying3 h0
  obtain ⟨u, ls, e1, r1, i1⟩ := o_lims k1 h1
  cases e0; cases e1
  exact ⟨⟨m, ls⟩, _, rfl, r1, i0, i1⟩
theorem o_Ask (hw : Wt Try.prog 34 y.1) (h : DataW.trod enc Try.prog w 0 sp held n 34 cs = some y) : ∃ a, RAsk (hp w) (.agg cs.toArray) a ∧ a.In := by
  obtain ⟨ys, m, _, rfl, hlen, hyl, hg⟩ := DataW.trod_struct Try.underlying34 h
  rw [c_Ask] at hlen
  obtain ⟨c0, c1, c2, c3, rfl⟩ := len4 hlen
  obtain ⟨_, h0, k0⟩ := fld hg hyl 0 rfl rfl rfl c_System Try.underlying34 hw
  obtain ⟨_, h1, k1⟩ := fld hg hyl 1 rfl rfl rfl c_ints Try.underlying34 hw
  obtain ⟨_, h2, k2⟩ := fld hg hyl 2 rfl rfl rfl c_int Try.underlying34 hw
  obtain ⟨s, u, e0, r0, i0⟩ := o_System k0 h0
  obtain ⟨uw, ws, e1, r1, i1⟩ := o_ints k1 h1
  obtain ⟨m, e2, i2⟩ := trod_i Try.underlying3 h2
  cases e0; cases e1; cases e2
  exact ⟨⟨s, ws, m⟩, ⟨_, _, rfl, r0, r1⟩, i0, i1, i2⟩
theorem open_Ask (hv : Value.okWide Try.prog w r base 34 v) (h : DataW.Trod enc Try.prog w 0 sp held 34 v d p) (hw : Wt Try.prog 34 d) : ∃ a, RAsk (hp w) v a ∧ a.In := by
  obtain ⟨cs, n, rfl, hn, _⟩ := arg_struct Try.underlying34 hv h
  exact o_Ask hw hn
theorem open_System (hv : Value.okWide Try.prog w r base 32 v) (h : DataW.Trod enc Try.prog w 0 sp held 32 v d p) (hw : Wt Try.prog 32 d) : ∃ s, RSy (hp w) v s ∧ s.In := by
  obtain ⟨cs, n, rfl, hn, _⟩ := arg_struct Try.underlying32 hv h
  obtain ⟨s, u, rfl, h1, h2⟩ := o_System hw hn
  exact ⟨s, ⟨u, rfl, h1⟩, h2⟩
theorem open_probes (hv : Value.okWide Try.prog w r base 35 v) (h : DataW.Trod enc Try.prog w 0 sp held 35 v d p) (hw : Wt Try.prog 35 d) : ∃ l, RPs (hp w) v l ∧ PrbsIn l := by
  obtain ⟨n, hn⟩ := arg_slice Try.underlying35 hv h
  obtain ⟨v, ls, h1, h2, h3⟩ := o_probes hw hn
  cases h1
  exact ⟨ls, h2, h3⟩
theorem open_ints (hv : Value.okWide Try.prog w r base 22 v) (h : DataW.Trod enc Try.prog w 0 sp held 22 v d p) (hw : Wt Try.prog 22 d) : ∃ l, RI (hp w) v l ∧ IsIn l := by
  obtain ⟨n, hn⟩ := arg_slice Try.underlying22 hv h
  obtain ⟨v, ls, h1, h2, h3⟩ := o_ints hw hn
  cases h1
  exact ⟨ls, h2, h3⟩
end
end Go.Proofs.Ytiiokdeehlfeeaa

/-
  What an argument of each of the made types holds, when it is read.
-/
namespace Go.Proofs.Ytiiokdeehlfeeaa
open Go.MW Go.ChangeShapes Go.WideShapes
set_option maxRecDepth 100000
theorem c_tris : Try.prog.cellsOf 23 = 1 := by kernel_rfl
theorem c_twos : Try.prog.cellsOf 26 = 1 := by kernel_rfl
theorem c_3 : Try.prog.cellsOf 211 = 3 := by kernel_rfl
theorem c_2 : Try.prog.cellsOf 29 = 2 := by kernel_rfl
theorem c_Raw : Try.prog.cellsOf 25 = 4 := by kernel_rfl
theorem c_Case : Try.prog.cellsOf 28 = 5 := by kernel_rfl
theorem b_3 : Try.prog.bytesOf 211 = 24 := by kernel_rfl
theorem b_2 : Try.prog.bytesOf 29 = 16 := by kernel_rfl
section
variable {H : Type} {enc : TypeId × Value → H} {w : World} {sp : Nat → Bool} {held : Bool} {n : Nat} {cs : List Value} {y : DataW H × List MemPlace} {v : Value} {d : DataW H} {p : List MemPlace} {r : Reach} {base : Nat}
theorem o_tris (hw : Wt Try.prog 23 y.1) (h : DataW.trod enc Try.prog w 0 sp held n 23 cs = some y) : ∃ (v : Value) (ls : List Tri), cs = [v] ∧ RS (hp w) 3 v (ls.map Tri.v) ∧ ls.length ≤ 17592186043904 := by
  obtain ⟨v, zs, h1, h2, h9, h3⟩ := trod_RA (k := 3) Try.underlying23 Try.underlying211 Try.underlying3 c_int (by decide) c_3 hw h
  obtain ⟨ls, h4⟩ := tris h3
  rw [b_3, reach_eq] at h9
  have h6 : zs.length = ls.length := by have := congrArg List.length h4; simpa using this
  exact ⟨v, ls, h1, by rw [← h4]; exact h2, by omega⟩
theorem o_twos (hw : Wt Try.prog 26 y.1) (h : DataW.trod enc Try.prog w 0 sp held n 26 cs = some y) : ∃ (v : Value) (ls : List Two), cs = [v] ∧ RS (hp w) 2 v (ls.map Two.v) ∧ TwosIn ls := by
  obtain ⟨v, zs, h1, h2, h9, h3⟩ := trod_RA (k := 2) Try.underlying26 Try.underlying29 Try.underlying3 c_int (by decide) c_2 hw h
  obtain ⟨ls, h4, h5⟩ := twos2 h3
  rw [b_2, reach_eq] at h9
  have h6 : zs.length = ls.length := by have := congrArg List.length h4; simpa using this
  exact ⟨v, ls, h1, by rw [← h4]; exact h2, by omega, h5⟩
theorem o_Raw (hw : Wt Try.prog 25 y.1) (h : DataW.trod enc Try.prog w 0 sp held n 25 cs = some y) : ∃ r, RRawC (hp w) cs r ∧ r.In := by
  obtain ⟨ys, m, _, rfl, hlen, hyl, hg⟩ := DataW.trod_struct Try.underlying25 h
  rw [c_Raw] at hlen
  obtain ⟨c0, c1, c2, c3, rfl⟩ := len4 hlen
  obtain ⟨_, h0, k0⟩ := fld hg hyl 0 rfl rfl rfl c_ints Try.underlying25 hw
  obtain ⟨_, h1, k1⟩ := fld hg hyl 1 rfl rfl rfl c_tris Try.underlying25 hw
  obtain ⟨_, h2, k2⟩ := fld hg hyl 2 rfl rfl rfl c_ints Try.underlying25 hw
  obtain ⟨_, h3, k3⟩ := fld hg hyl 3 rfl rfl rfl c_int Try.underlying25 hw
  obtain ⟨v0, hull, e0, r0, i0⟩ := o_ints k0 h0
  obtain ⟨v1, ls, e1, r1, i1⟩ := o_tris k1 h1
  obtain ⟨v2, ws, e2, r2, i2⟩ := o_ints k2 h2
  obtain ⟨m, e3, i3⟩ := trod_i Try.underlying3 h3
  cases e0; cases e1; cases e2; cases e3
  exact ⟨⟨hull, ls, ws, m⟩, ⟨_, _, _, rfl, r0, r1, r2⟩, i0, i2, i1, i3⟩
theorem open_Case (hv : Value.okWide Try.prog w r base 28 v) (h : DataW.Trod enc Try.prog w 0 sp held 28 v d p) (hw : Wt Try.prog 28 d) : ∃ c, RCaseV (hp w) v c ∧ c.In := by
  obtain ⟨cs, n, rfl, hn, _⟩ := arg_struct Try.underlying28 hv h
  obtain ⟨ys, m, _, e, hlen, hyl, hg⟩ := DataW.trod_struct Try.underlying28 hn
  cases e
  rw [c_Case] at hlen
  obtain ⟨c0, c1, c2, c3, c4, rfl⟩ := len5 hlen
  obtain ⟨_, h0, k0⟩ := fld hg hyl 0 rfl rfl rfl c_Raw Try.underlying28 hw
  obtain ⟨_, h1, k1⟩ := fld hg hyl 1 rfl rfl rfl c_twos Try.underlying28 hw
  obtain ⟨r, r0, i0⟩ := o_Raw k0 h0
  obtain ⟨vp, ls, e1, r1, i1⟩ := o_twos k1 h1
  cases e1
  exact ⟨⟨r, ls⟩, ⟨_, rfl, [c0, c1, c2, c3], c4, rfl, r0, r1⟩, i0, i1⟩
theorem open_two (hv : Value.okWide Try.prog w r base 29 v) (h : DataW.Trod enc Try.prog w 0 sp held 29 v d p) (_ : Wt Try.prog 29 d) : ∃ x : Two, v = .agg #[I x.a, I x.b] ∧ I64 x.a ∧ I64 x.b := by
  obtain ⟨cs, n, rfl, hn⟩ := arg_arr Try.underlying29 hv h
  obtain ⟨xs, h1, rfl, h3⟩ := trod_arr Try.underlying29 Try.underlying3 c_int c_2 hn
  obtain ⟨a, b, rfl⟩ := len2 h1
  exact ⟨⟨a, b⟩, rfl, h3 a (by simp), h3 b (by simp)⟩
end
end Go.Proofs.Ytiiokdeehlfeeaa

/-
  The facts on the whole program that each row asks for.
-/
namespace Go.Proofs.Ytiiokdeehlfeeaa
theorem cl_make : Try.prog.make = some .cut := by kernel_rfl
theorem cl_enter : Try.prog.mayEnter = true := by kernel_rfl
theorem cl_lifts : Try.prog.liftsFinal = false := by kernel_rfl
theorem cl_keys : Try.prog.plainKeys = true := by kernel_rfl
theorem cl_laid : laidOutB Try.prog = true := by kernel_rfl
theorem cl_maps : mapsRowed Try.prog = true := by kernel_rfl
theorem cl_heard : Try.prog.stopsHeard = true := by kernel_rfl
theorem cl_stops : Try.prog.stops = [] := by kernel_rfl
theorem cl_knobs : Try.prog.stopKnobs = [] := by kernel_rfl
theorem band {a b : Bool} (h : a = true) (k : b = true) : (a && b) = true := by rw [h, k]; rfl
theorem beqT {α : Type} [BEq α] [LawfulBEq α] {a b : α} (h : a = b) : (a == b) = true := by rw [h]; exact beq_self_eq_true _
theorem cl_own : ownKnob Try.prog.godebug = none := by kernel_rfl
end Go.Proofs.Ytiiokdeehlfeeaa

/-
  Facts on the types of this program that the walks name; made by a program (gen.py facts).
-/
namespace Go.Proofs.Ytiiokdeehlfeeaa
open Go.MW
theorem mix : Try.prog.follows .mixedOrders = true := by kernel_rfl
theorem fa_moorsomref09_Raw_0 : FA Try.prog 25 0 0 := by
  have h := faOf (k := 0) Try.runUnderlying25 rfl Try.sizeOf22
  exact h
theorem fa_moorsomref09_Raw_1 : FA Try.prog 25 1 1 := by
  have h := faOf (k := 1) Try.runUnderlying25 rfl Try.sizeOf23
  exact h
theorem fa_moorsomref09_Raw_2 : FA Try.prog 25 2 2 := by
  have h := faOf (k := 2) Try.runUnderlying25 rfl Try.sizeOf22
  exact h
theorem fa_moorsomref09_Raw_3 : FA Try.prog 25 3 3 := by
  have h := faOf (k := 3) Try.runUnderlying25 rfl Try.sizeOf3
  exact h
theorem fa_moorsomlaw09_Case_0 : FA Try.prog 28 0 0 := by
  have h := faOf (k := 0) Try.runUnderlying28 rfl Try.sizeOf25
  exact h
theorem fa_moorsomlaw09_Case_1 : FA Try.prog 28 1 4 := by
  have h := faOf (k := 1) Try.runUnderlying28 rfl Try.sizeOf26
  exact h
theorem fa_api_System_0 : FA Try.prog 32 0 0 := by
  have h := faOf (k := 0) Try.runUnderlying32 rfl Try.sizeOf3
  exact h
theorem fa_api_System_1 : FA Try.prog 32 1 1 := by
  have h := faOf (k := 1) Try.runUnderlying32 rfl Try.sizeOf30
  exact h
theorem fa_api_Ask_0 : FA Try.prog 34 0 0 := by
  have h := faOf (k := 0) Try.runUnderlying34 rfl Try.sizeOf32
  exact h
theorem fa_api_Ask_1 : FA Try.prog 34 1 2 := by
  have h := faOf (k := 1) Try.runUnderlying34 rfl Try.sizeOf22
  exact h
theorem fa_api_Ask_2 : FA Try.prog 34 2 3 := by
  have h := faOf (k := 2) Try.runUnderlying34 rfl Try.sizeOf3
  exact h
theorem fa_api_Proof_0 : FA Try.prog 40 0 0 := by
  have h := faOf (k := 0) Try.runUnderlying40 rfl Try.sizeOf3
  exact h
theorem fa_api_Proof_1 : FA Try.prog 40 1 1 := by
  have h := faOf (k := 1) Try.runUnderlying40 rfl Try.sizeOf38
  exact h
theorem fa_api_Probe_0 : FA Try.prog 48 0 0 := by
  have h := faOf (k := 0) Try.runUnderlying48 rfl Try.sizeOf3
  exact h
theorem fa_api_Probe_1 : FA Try.prog 48 1 1 := by
  have h := faOf (k := 1) Try.runUnderlying48 rfl Try.sizeOf3
  exact h
theorem fa_moorsomlaw09_Shown_0 : FA Try.prog 65 0 0 := by
  have h := faOf (k := 0) Try.runUnderlying65 rfl Try.sizeOf3
  exact h
theorem fa_moorsomlaw09_Shown_1 : FA Try.prog 65 1 1 := by
  have h := faOf (k := 1) Try.runUnderlying65 rfl Try.sizeOf40
  exact h
theorem fa_api_Outcome_0 : FA Try.prog 71 0 0 := by
  have h := faOf (k := 0) Try.runUnderlying71 rfl Try.sizeOf22
  exact h
theorem fa_api_Range_0 : FA Try.prog 76 0 0 := by
  have h := faOf (k := 0) Try.runUnderlying76 rfl Try.sizeOf3
  exact h
theorem fa_api_Range_1 : FA Try.prog 76 1 1 := by
  have h := faOf (k := 1) Try.runUnderlying76 rfl Try.sizeOf3
  exact h
theorem fa_moorsomlaw02_Raw_0 : FA Try.prog 85 0 0 := by
  have h := faOf (k := 0) Try.runUnderlying85 rfl Try.sizeOf3
  exact h
theorem fa_moorsomlaw02_Raw_1 : FA Try.prog 85 1 1 := by
  have h := faOf (k := 1) Try.runUnderlying85 rfl Try.sizeOf83
  exact h
theorem fa_api_Limit_0 : FA Try.prog 100 0 0 := by
  have h := faOf (k := 0) Try.runUnderlying100 rfl Try.sizeOf3
  exact h
theorem fa_api_Limit_1 : FA Try.prog 100 1 1 := by
  have h := faOf (k := 1) Try.runUnderlying100 rfl Try.sizeOf3
  exact h
theorem fa_api_Limit_2 : FA Try.prog 100 2 2 := by
  have h := faOf (k := 2) Try.runUnderlying100 rfl Try.sizeOf3
  exact h
theorem fa_api_Limit_3 : FA Try.prog 100 3 3 := by
  have h := faOf (k := 3) Try.runUnderlying100 rfl Try.sizeOf3
  exact h
theorem fa_moorsomlaw02_Proof_0 : FA Try.prog 120 0 0 := by
  have h := faOf (k := 0) Try.runUnderlying120 rfl Try.sizeOf40
  exact h
theorem fa_moorsomlaw02_Proof_1 : FA Try.prog 120 1 2 := by
  have h := faOf (k := 1) Try.runUnderlying120 rfl Try.sizeOf22
  exact h
theorem fa_probe_doubled_0 : FA Try.prog 132 0 0 := by
  have h := faOf (k := 0) Try.runUnderlying132 rfl Try.sizeOf34
  exact h
theorem fa_probe_doubled_1 : FA Try.prog 132 1 4 := by
  have h := faOf (k := 1) Try.runUnderlying132 rfl Try.sizeOf32
  exact h
theorem fa_probe_doubled_2 : FA Try.prog 132 2 6 := by
  have h := faOf (k := 2) Try.runUnderlying132 rfl Try.sizeOf22
  exact h
theorem fa_api_Pick_0 : FA Try.prog 140 0 0 := by
  have h := faOf (k := 0) Try.runUnderlying140 rfl Try.sizeOf22
  exact h
theorem fa_api_Pick_1 : FA Try.prog 140 1 1 := by
  have h := faOf (k := 1) Try.runUnderlying140 rfl Try.sizeOf3
  exact h
theorem fa_api_Pick_2 : FA Try.prog 140 2 2 := by
  have h := faOf (k := 2) Try.runUnderlying140 rfl Try.sizeOf40
  exact h
theorem fa_api_Pick_3 : FA Try.prog 140 3 4 := by
  have h := faOf (k := 3) Try.runUnderlying140 rfl Try.sizeOf138
  exact h
theorem fa_api_Twins_0 : FA Try.prog 146 0 0 := by
  have h := faOf (k := 0) Try.runUnderlying146 rfl Try.sizeOf22
  exact h
theorem fa_api_Twins_1 : FA Try.prog 146 1 1 := by
  have h := faOf (k := 1) Try.runUnderlying146 rfl Try.sizeOf22
  exact h
theorem fa_api_Use_0 : FA Try.prog 154 0 0 := by
  have h := faOf (k := 0) Try.runUnderlying154 rfl Try.sizeOf3
  exact h
theorem fa_api_Use_1 : FA Try.prog 154 1 1 := by
  have h := faOf (k := 1) Try.runUnderlying154 rfl Try.sizeOf3
  exact h
theorem fa_bound_step_0 : FA Try.prog 205 0 0 := by
  have h := faOf (k := 0) Try.runUnderlying205 rfl Try.sizeOf3
  exact h
theorem fa_bound_step_1 : FA Try.prog 205 1 1 := by
  have h := faOf (k := 1) Try.runUnderlying205 rfl Try.sizeOf3
  exact h
theorem fa_bound_step_2 : FA Try.prog 205 2 2 := by
  have h := faOf (k := 2) Try.runUnderlying205 rfl Try.sizeOf3
  exact h
theorem fa_bound_step_3 : FA Try.prog 205 3 3 := by
  have h := faOf (k := 3) Try.runUnderlying205 rfl Try.sizeOf3
  exact h
theorem fa_bound_told_2 : FA Try.prog 209 2 2 := by
  have h := faOf (k := 2) Try.runUnderlying209 rfl Try.sizeOf41
  exact h
theorem fa_bound_flow_0 : FA Try.prog 227 0 0 := by
  have h := faOf (k := 0) Try.runUnderlying227 rfl Try.sizeOf32
  exact h
theorem fa_bound_flow_1 : FA Try.prog 227 1 2 := by
  have h := faOf (k := 1) Try.runUnderlying227 rfl Try.sizeOf22
  exact h
theorem fa_bound_flow_2 : FA Try.prog 227 2 3 := by
  have h := faOf (k := 2) Try.runUnderlying227 rfl Try.sizeOf22
  exact h
theorem fa_moorsomref02_step_0 : FA Try.prog 244 0 0 := by
  have h := faOf (k := 0) Try.runUnderlying244 rfl Try.sizeOf3
  exact h
theorem fa_moorsomref02_step_1 : FA Try.prog 244 1 1 := by
  have h := faOf (k := 1) Try.runUnderlying244 rfl Try.sizeOf4
  exact h
theorem bld_api_System : BldT Try.prog 32 [(0, 1), (1, 1)] [.int .i64 0, .slice none 0 0] := bldOf Try.zeroValue32 rfl Try.runUnderlying32 (by simp [Try.sizeOf3, Try.sizeOf30])
theorem bld_api_Ask : BldT Try.prog 34 [(0, 2), (2, 1), (3, 1)] [.int .i64 0, .slice none 0 0, .slice none 0 0, .int .i64 0] := bldOf Try.zeroValue34 rfl Try.runUnderlying34 (by simp [Try.sizeOf22, Try.sizeOf3, Try.sizeOf32])
theorem bld_api_Proof : BldT Try.prog 40 [(0, 1), (1, 1)] [.int .i64 0, .slice none 0 0] := bldOf Try.zeroValue40 rfl Try.runUnderlying40 (by simp [Try.sizeOf3, Try.sizeOf38])
theorem bld_api_Probe : BldT Try.prog 48 [(0, 1), (1, 1)] [.int .i64 0, .int .i64 0] := bldOf Try.zeroValue48 rfl Try.runUnderlying48 (by simp [Try.sizeOf3])
theorem bld_api_Outcome : BldT Try.prog 71 [(0, 1)] [.slice none 0 0] := bldOf Try.zeroValue71 rfl Try.runUnderlying71 (by simp [Try.sizeOf22])
theorem bld_api_Range : BldT Try.prog 76 [(0, 1), (1, 1)] [.int .i64 0, .int .i64 0] := bldOf Try.zeroValue76 rfl Try.runUnderlying76 (by simp [Try.sizeOf3])
theorem bld_moorsomlaw02_Raw : BldT Try.prog 85 [(0, 1), (1, 1)] [.int .i64 0, .slice none 0 0] := bldOf Try.zeroValue85 rfl Try.runUnderlying85 (by simp [Try.sizeOf3, Try.sizeOf83])
theorem bld_api_Limit : BldT Try.prog 100 [(0, 1), (1, 1), (2, 1), (3, 1)] [.int .i64 0, .int .i64 0, .int .i64 0, .int .i64 0] := bldOf Try.zeroValue100 rfl Try.runUnderlying100 (by simp [Try.sizeOf3])
theorem bld_probe_doubled : BldT Try.prog 132 [(0, 4), (4, 2), (6, 1)] [.int .i64 0, .slice none 0 0, .slice none 0 0, .int .i64 0, .int .i64 0, .slice none 0 0, .slice none 0 0] := bldOf Try.zeroValue132 rfl Try.runUnderlying132 (by simp [Try.sizeOf22, Try.sizeOf32, Try.sizeOf34])
theorem bld_api_Pick : BldT Try.prog 140 [(0, 1), (1, 1), (2, 2), (4, 1)] [.slice none 0 0, .int .i64 0, .int .i64 0, .slice none 0 0, .slice none 0 0] := bldOf Try.zeroValue140 rfl Try.runUnderlying140 (by simp [Try.sizeOf138, Try.sizeOf22, Try.sizeOf3, Try.sizeOf40])
theorem bld_api_Twins : BldT Try.prog 146 [(0, 1), (1, 1)] [.slice none 0 0, .slice none 0 0] := bldOf Try.zeroValue146 rfl Try.runUnderlying146 (by simp [Try.sizeOf22])
theorem bld_api_Use : BldT Try.prog 154 [(0, 1), (1, 1)] [.int .i64 0, .int .i64 0] := bldOf Try.zeroValue154 rfl Try.runUnderlying154 (by simp [Try.sizeOf3])
theorem bld_struct : BldT Try.prog 161 [] [] := bldOf Try.zeroValue161 rfl Try.runUnderlying161 (by simp [])
theorem bld_bound_step : BldT Try.prog 205 [(0, 1), (1, 1), (2, 1), (3, 1)] [.int .i64 0, .int .i64 0, .int .i64 0, .int .i64 0] := bldOf Try.zeroValue205 rfl Try.runUnderlying205 (by simp [Try.sizeOf3])
theorem bld_bound_told : BldT Try.prog 209 [(0, 1), (1, 1), (2, 1)] [.int .i64 0, .int .i64 0, .int .i64 0] := bldOf Try.zeroValue209 rfl Try.runUnderlying209 (by simp [Try.sizeOf3, Try.sizeOf41])
theorem bld_bound_flow : BldT Try.prog 227 [(0, 2), (2, 1), (3, 1)] [.int .i64 0, .slice none 0 0, .slice none 0 0, .slice none 0 0] := bldOf Try.zeroValue227 rfl Try.runUnderlying227 (by simp [Try.sizeOf22, Try.sizeOf32])
theorem bld_moorsomref02_step : BldT Try.prog 244 [(0, 1), (1, 1)] [.int .i64 0, .bool false] := bldOf Try.zeroValue244 rfl Try.runUnderlying244 (by simp [Try.sizeOf3, Try.sizeOf4])
theorem bls_sl_int_0 : BldS Try.prog 22 0 1 [] := blsOf Try.runUnderlying22 Try.sizeOf3 Try.zeroValue3 (by decide) (by kernel_rfl)
theorem bls_sl_int_1 : BldS Try.prog 22 1 1 [.int .i64 0] := blsOf Try.runUnderlying22 Try.sizeOf3 Try.zeroValue3 (by decide) (by kernel_rfl)
theorem bls_sl_int_2 : BldS Try.prog 22 2 1 [.int .i64 0, .int .i64 0] := blsOf Try.runUnderlying22 Try.sizeOf3 Try.zeroValue3 (by decide) (by kernel_rfl)
theorem bls_sl_int_3 : BldS Try.prog 22 3 1 [.int .i64 0, .int .i64 0, .int .i64 0] := blsOf Try.runUnderlying22 Try.sizeOf3 Try.zeroValue3 (by decide) (by kernel_rfl)
theorem bls_sl_int_4 : BldS Try.prog 22 4 1 [.int .i64 0, .int .i64 0, .int .i64 0, .int .i64 0] := blsOf Try.runUnderlying22 Try.sizeOf3 Try.zeroValue3 (by decide) (by kernel_rfl)
theorem bls_sl_api_Limit_0 : BldS Try.prog 30 0 4 [] := blsOf Try.runUnderlying30 Try.sizeOf100 Try.zeroValue100 (by decide) (by kernel_rfl)
theorem bls_sl_api_Limit_1 : BldS Try.prog 30 1 4 [.int .i64 0, .int .i64 0, .int .i64 0, .int .i64 0] := blsOf Try.runUnderlying30 Try.sizeOf100 Try.zeroValue100 (by decide) (by kernel_rfl)
theorem bls_sl_api_Limit_2 : BldS Try.prog 30 2 4 [.int .i64 0, .int .i64 0, .int .i64 0, .int .i64 0, .int .i64 0, .int .i64 0, .int .i64 0, .int .i64 0] := blsOf Try.runUnderlying30 Try.sizeOf100 Try.zeroValue100 (by decide) (by kernel_rfl)
theorem bls_sl_api_Limit_4 : BldS Try.prog 30 4 4 [.int .i64 0, .int .i64 0, .int .i64 0, .int .i64 0, .int .i64 0, .int .i64 0, .int .i64 0, .int .i64 0, .int .i64 0, .int .i64 0, .int .i64 0, .int .i64 0, .int .i64 0, .int .i64 0, .int .i64 0, .int .i64 0] := blsOf Try.runUnderlying30 Try.sizeOf100 Try.zeroValue100 (by decide) (by kernel_rfl)
theorem bls_sl_api_Limit_7 : BldS Try.prog 30 7 4 [.int .i64 0, .int .i64 0, .int .i64 0, .int .i64 0, .int .i64 0, .int .i64 0, .int .i64 0, .int .i64 0, .int .i64 0, .int .i64 0, .int .i64 0, .int .i64 0, .int .i64 0, .int .i64 0, .int .i64 0, .int .i64 0, .int .i64 0, .int .i64 0, .int .i64 0, .int .i64 0, .int .i64 0, .int .i64 0, .int .i64 0, .int .i64 0, .int .i64 0, .int .i64 0, .int .i64 0, .int .i64 0] := blsOf Try.runUnderlying30 Try.sizeOf100 Try.zeroValue100 (by decide) (by kernel_rfl)
theorem bls_sl_api_Probe_0 : BldS Try.prog 35 0 2 [] := blsOf Try.runUnderlying35 Try.sizeOf48 Try.zeroValue48 (by decide) (by kernel_rfl)
theorem bls_sl_api_Probe_1 : BldS Try.prog 35 1 2 [.int .i64 0, .int .i64 0] := blsOf Try.runUnderlying35 Try.sizeOf48 Try.zeroValue48 (by decide) (by kernel_rfl)
theorem bls_sl_api_Probe_3 : BldS Try.prog 35 3 2 [.int .i64 0, .int .i64 0, .int .i64 0, .int .i64 0, .int .i64 0, .int .i64 0] := blsOf Try.runUnderlying35 Try.sizeOf48 Try.zeroValue48 (by decide) (by kernel_rfl)
theorem bls_sl_api_Use_1 : BldS Try.prog 38 1 2 [.int .i64 0, .int .i64 0] := blsOf Try.runUnderlying38 Try.sizeOf154 Try.zeroValue154 (by decide) (by kernel_rfl)
theorem bls_sl_4_int_1 : BldS Try.prog 83 1 4 [.int .i64 0, .int .i64 0, .int .i64 0, .int .i64 0] := blsOf Try.runUnderlying83 Try.sizeOf95 Try.zeroValue95 (by decide) (by kernel_rfl)
theorem bls_sl_api_Twins_1 : BldS Try.prog 138 1 2 [.slice none 0 0, .slice none 0 0] := blsOf Try.runUnderlying138 Try.sizeOf146 Try.zeroValue146 (by decide) (by kernel_rfl)
theorem bls_sl_bound_step_1 : BldS Try.prog 198 1 4 [.int .i64 0, .int .i64 0, .int .i64 0, .int .i64 0] := blsOf Try.runUnderlying198 Try.sizeOf205 Try.zeroValue205 (by decide) (by kernel_rfl)
theorem app_sl_int_int : AppT Try.prog 22 22 3 1 8 := ⟨Try.runUnderlying22, Try.runUnderlying22, Try.sizeOf3, ⟨_, Try.typeInfo3, rfl, by decide⟩, ⟨_, Try.zeroValue3, rfl⟩⟩
theorem app_sl_api_Limit_api_Limit : AppT Try.prog 30 30 100 4 32 := ⟨Try.runUnderlying30, Try.runUnderlying30, Try.sizeOf100, ⟨_, Try.typeInfo100, rfl, by decide⟩, ⟨_, Try.zeroValue100, rfl⟩⟩
theorem app_sl_api_Probe_api_Probe : AppT Try.prog 35 35 48 2 16 := ⟨Try.runUnderlying35, Try.runUnderlying35, Try.sizeOf48, ⟨_, Try.typeInfo48, rfl, by decide⟩, ⟨_, Try.zeroValue48, rfl⟩⟩
theorem app_sl_api_Use_api_Use : AppT Try.prog 38 38 154 2 16 := ⟨Try.runUnderlying38, Try.runUnderlying38, Try.sizeOf154, ⟨_, Try.typeInfo154, rfl, by decide⟩, ⟨_, Try.zeroValue154, rfl⟩⟩
theorem app_sl_api_Twins_api_Twins : AppT Try.prog 138 138 146 2 48 := ⟨Try.runUnderlying138, Try.runUnderlying138, Try.sizeOf146, ⟨_, Try.typeInfo146, rfl, by decide⟩, ⟨_, Try.zeroValue146, rfl⟩⟩
theorem app_sl_bound_step_bound_step : AppT Try.prog 198 198 205 4 32 := ⟨Try.runUnderlying198, Try.runUnderlying198, Try.sizeOf205, ⟨_, Try.typeInfo205, rfl, by decide⟩, ⟨_, Try.zeroValue205, rfl⟩⟩
end Go.Proofs.Ytiiokdeehlfeeaa
