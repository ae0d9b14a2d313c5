/-
  Texts of these claims, joined: Opn Cls Fct Wa Wb Wc Wd We Wf Wg Wh Wn Wo Wp Wt Wu Wv.
-/
import Derived.Test.YtiiokdeehlfeeaaGreatGc
import Derived.Test.YtiiokdeehlfeeaaGreatProg
import Derived.KernelRfl
import Derived.JoinedOf
namespace Go.Proofs.YtiiokdeehlfeeaaGreat
open Go.MW Go.ChangeShapes Go.WideShapes
set_option maxRecDepth 100000
theorem c_int : Tryz.prog.cellsOf 3 = 1 := by kernel_rfl
theorem c_lims : Tryz.prog.cellsOf 22 = 1 := by kernel_rfl
theorem c_Limit : Tryz.prog.cellsOf 157 = 4 := by kernel_rfl
theorem c_System : Tryz.prog.cellsOf 24 = 2 := by kernel_rfl
theorem b_int : Tryz.prog.bytesOf 3 = 8 := by kernel_rfl
theorem b_Limit : Tryz.prog.bytesOf 157 = 32 := by kernel_rfl
theorem reach_eq : reachBytes = 140737488351232 := rfl
section
variable {H : Type} {enc : TypeId × Value → H} {w : World} {sp : Nat → Bool} {held : Bool} {n : Nat} {cs : List Value} {y : DataW H × List MemPlace} {v : Value} {d : DataW H} {p : List MemPlace} {r : Reach} {base : Nat}
theorem o_ints (hw : Wt Tryz.prog 25 y.1) (h : DataW.trod enc Tryz.prog w 0 sp held n 25 cs = some y) : ∃ v xs, cs = [v] ∧ RI (hp w) v xs ∧ IsIn xs := by
  obtain ⟨v, xs, h1, h2, h3, h4⟩ := trod_RI Tryz.underlying25 Tryz.underlying3 c_int hw h
  rw [b_int, reach_eq] at h3
  exact ⟨v, xs, h1, h2, by omega, h4⟩
theorem o_lims (hw : Wt Tryz.prog 22 y.1) (h : DataW.trod enc Tryz.prog w 0 sp held n 22 cs = some y) : ∃ v ls, cs = [v] ∧ RL (hp w) v ls ∧ ls.length ≤ 4398046510976 ∧ ∀ l ∈ ls, l.In := by
  obtain ⟨v, zs, h1, h2, h9, h3⟩ := trod_RS (k := 4) Tryz.underlying22 Tryz.underlying157 rfl (by decide) (by
    intro i f hf
    match i with
    | 0 | 1 | 2 | 3 => cases hf; exact ⟨rfl, Tryz.underlying3, c_int⟩
    | i + 4 => simp at hf) c_Limit hw h
  obtain ⟨ls, h4, h5⟩ := fours h3
  rw [b_Limit, reach_eq] at h9
  have h6 : zs.length = ls.length := by have := congrArg List.length h4; simpa using this
  exact ⟨v, ls, h1, by unfold RL; rw [← h4]; exact h2, by omega, h5⟩
theorem o_System (hw : Wt Tryz.prog 24 y.1) (h : DataW.trod enc Tryz.prog w 0 sp held n 24 cs = some y) : ∃ (s : Syst) (u : Value), cs = [I s.many, u] ∧ RL (hp w) u s.lims ∧ s.In := by
  obtain ⟨ys, m, _, rfl, hlen, hyl, hg⟩ := DataW.trod_struct Tryz.underlying24 h
  rw [c_System] at hlen
  obtain ⟨c0, c1, rfl⟩ := len2 hlen
  obtain ⟨_, h0, k0⟩ := fld hg hyl 0 rfl rfl rfl c_int Tryz.underlying24 hw
  obtain ⟨_, h1, k1⟩ := fld hg hyl 1 rfl rfl rfl c_lims Tryz.underlying24 hw
  obtain ⟨m, e0, i0⟩ := trod_i Tryz.underlying3 h0
  obtain ⟨u, ls, e1, r1, i1⟩ := o_lims k1 h1
  cases e0; cases e1
  exact ⟨⟨m, ls⟩, _, rfl, r1, i0, i1⟩
theorem open_System (hv : Value.okWide Tryz.prog w r base 24 v) (h : DataW.Trod enc Tryz.prog w 0 sp held 24 v d p) (hw : Wt Tryz.prog 24 d) : ∃ s, RSy (hp w) v s ∧ s.In := by
  obtain ⟨cs, n, rfl, hn, _⟩ := arg_struct Tryz.underlying24 hv h
  obtain ⟨s, u, rfl, h1, h2⟩ := o_System hw hn
  exact ⟨s, ⟨u, rfl, h1⟩, h2⟩
theorem open_ints (hv : Value.okWide Tryz.prog w r base 25 v) (h : DataW.Trod enc Tryz.prog w 0 sp held 25 v d p) (hw : Wt Tryz.prog 25 d) : ∃ l, RI (hp w) v l ∧ IsIn l := by
  obtain ⟨n, hn⟩ := arg_slice Tryz.underlying25 hv h
  obtain ⟨v, ls, h1, h2, h3⟩ := o_ints hw hn
  cases h1
  exact ⟨ls, h2, h3⟩
end
end Go.Proofs.YtiiokdeehlfeeaaGreat

namespace Go.Proofs.YtiiokdeehlfeeaaGreat
theorem cl_make : Tryz.prog.make = some .cut := by kernel_rfl
theorem cl_enter : Tryz.prog.mayEnter = true := by kernel_rfl
theorem cl_lifts : Tryz.prog.liftsFinal = false := by kernel_rfl
theorem cl_keys : Tryz.prog.plainKeys = true := by kernel_rfl
theorem cl_laid : laidOutB Tryz.prog = true := by kernel_rfl
theorem cl_maps : mapsRowed Tryz.prog = true := by kernel_rfl
theorem cl_heard : Tryz.prog.stopsHeard = true := by kernel_rfl
theorem cl_stops : Tryz.prog.stops = [] := by kernel_rfl
theorem cl_knobs : Tryz.prog.stopKnobs = [] := by kernel_rfl
theorem band {a b : Bool} (h : a = true) (k : b = true) : (a && b) = true := by rw [h, k]; rfl
theorem beqT {α : Type} [BEq α] [LawfulBEq α] {a b : α} (h : a = b) : (a == b) = true := by rw [h]; exact beq_self_eq_true _
theorem cl_own : ownKnob Tryz.prog.godebug = none := by kernel_rfl
end Go.Proofs.YtiiokdeehlfeeaaGreat

namespace Go.Proofs.YtiiokdeehlfeeaaGreat
open Go.MW
theorem mix : Tryz.prog.follows .mixedOrders = true := by kernel_rfl
theorem fa_api_System_0 : FA Tryz.prog 24 0 0 := by
  have h := faOf (k := 0) Tryz.runUnderlying24 rfl Tryz.sizeOf3
  exact h
theorem fa_api_System_1 : FA Tryz.prog 24 1 1 := by
  have h := faOf (k := 1) Tryz.runUnderlying24 rfl Tryz.sizeOf22
  exact h
theorem fa_bound_told_2 : FA Tryz.prog 143 2 2 := by
  have h := faOf (k := 2) Tryz.runUnderlying143 rfl Tryz.sizeOf30
  exact h
theorem fa_api_Limit_0 : FA Tryz.prog 157 0 0 := by
  have h := faOf (k := 0) Tryz.runUnderlying157 rfl Tryz.sizeOf3
  exact h
theorem fa_api_Limit_1 : FA Tryz.prog 157 1 1 := by
  have h := faOf (k := 1) Tryz.runUnderlying157 rfl Tryz.sizeOf3
  exact h
theorem fa_api_Limit_2 : FA Tryz.prog 157 2 2 := by
  have h := faOf (k := 2) Tryz.runUnderlying157 rfl Tryz.sizeOf3
  exact h
theorem fa_api_Limit_3 : FA Tryz.prog 157 3 3 := by
  have h := faOf (k := 3) Tryz.runUnderlying157 rfl Tryz.sizeOf3
  exact h
theorem fa_bound_step_0 : FA Tryz.prog 197 0 0 := by
  have h := faOf (k := 0) Tryz.runUnderlying197 rfl Tryz.sizeOf3
  exact h
theorem fa_bound_step_1 : FA Tryz.prog 197 1 1 := by
  have h := faOf (k := 1) Tryz.runUnderlying197 rfl Tryz.sizeOf3
  exact h
theorem fa_bound_step_2 : FA Tryz.prog 197 2 2 := by
  have h := faOf (k := 2) Tryz.runUnderlying197 rfl Tryz.sizeOf3
  exact h
theorem fa_bound_step_3 : FA Tryz.prog 197 3 3 := by
  have h := faOf (k := 3) Tryz.runUnderlying197 rfl Tryz.sizeOf3
  exact h
theorem fa_bound_flow_0 : FA Tryz.prog 205 0 0 := by
  have h := faOf (k := 0) Tryz.runUnderlying205 rfl Tryz.sizeOf24
  exact h
theorem fa_bound_flow_1 : FA Tryz.prog 205 1 2 := by
  have h := faOf (k := 1) Tryz.runUnderlying205 rfl Tryz.sizeOf25
  exact h
theorem fa_bound_flow_2 : FA Tryz.prog 205 2 3 := by
  have h := faOf (k := 2) Tryz.runUnderlying205 rfl Tryz.sizeOf25
  exact h
theorem fa_moorsomref02_step_0 : FA Tryz.prog 226 0 0 := by
  have h := faOf (k := 0) Tryz.runUnderlying226 rfl Tryz.sizeOf3
  exact h
theorem fa_moorsomref02_step_1 : FA Tryz.prog 226 1 1 := by
  have h := faOf (k := 1) Tryz.runUnderlying226 rfl Tryz.sizeOf4
  exact h
theorem bld_api_System : BldT Tryz.prog 24 [(0, 1), (1, 1)] [.int .i64 0, .slice none 0 0] := bldOf Tryz.zeroValue24 rfl Tryz.runUnderlying24 (by simp [Tryz.sizeOf22, Tryz.sizeOf3])
theorem bld_bound_told : BldT Tryz.prog 143 [(0, 1), (1, 1), (2, 1)] [.int .i64 0, .int .i64 0, .int .i64 0] := bldOf Tryz.zeroValue143 rfl Tryz.runUnderlying143 (by simp [Tryz.sizeOf3, Tryz.sizeOf30])
theorem bld_api_Limit : BldT Tryz.prog 157 [(0, 1), (1, 1), (2, 1), (3, 1)] [.int .i64 0, .int .i64 0, .int .i64 0, .int .i64 0] := bldOf Tryz.zeroValue157 rfl Tryz.runUnderlying157 (by simp [Tryz.sizeOf3])
theorem bld_bound_step : BldT Tryz.prog 197 [(0, 1), (1, 1), (2, 1), (3, 1)] [.int .i64 0, .int .i64 0, .int .i64 0, .int .i64 0] := bldOf Tryz.zeroValue197 rfl Tryz.runUnderlying197 (by simp [Tryz.sizeOf3])
theorem bld_bound_flow : BldT Tryz.prog 205 [(0, 2), (2, 1), (3, 1)] [.int .i64 0, .slice none 0 0, .slice none 0 0, .slice none 0 0] := bldOf Tryz.zeroValue205 rfl Tryz.runUnderlying205 (by simp [Tryz.sizeOf24, Tryz.sizeOf25])
theorem bld_moorsomref02_step : BldT Tryz.prog 226 [(0, 1), (1, 1)] [.int .i64 0, .bool false] := bldOf Tryz.zeroValue226 rfl Tryz.runUnderlying226 (by simp [Tryz.sizeOf3, Tryz.sizeOf4])
theorem bls_sl_api_Limit_0 : BldS Tryz.prog 22 0 4 [] := blsOf Tryz.runUnderlying22 Tryz.sizeOf157 Tryz.zeroValue157 (by decide) (by kernel_rfl)
theorem bls_sl_api_Limit_1 : BldS Tryz.prog 22 1 4 [.int .i64 0, .int .i64 0, .int .i64 0, .int .i64 0] := blsOf Tryz.runUnderlying22 Tryz.sizeOf157 Tryz.zeroValue157 (by decide) (by kernel_rfl)
theorem bls_sl_api_Limit_7 : BldS Tryz.prog 22 7 4 [.int .i64 0, .int .i64 0, .int .i64 0, .int .i64 0, .int .i64 0, .int .i64 0, .int .i64 0, .int .i64 0, .int .i64 0, .int .i64 0, .int .i64 0, .int .i64 0, .int .i64 0, .int .i64 0, .int .i64 0, .int .i64 0, .int .i64 0, .int .i64 0, .int .i64 0, .int .i64 0, .int .i64 0, .int .i64 0, .int .i64 0, .int .i64 0, .int .i64 0, .int .i64 0, .int .i64 0, .int .i64 0] := blsOf Tryz.runUnderlying22 Tryz.sizeOf157 Tryz.zeroValue157 (by decide) (by kernel_rfl)
theorem bls_sl_int_0 : BldS Tryz.prog 25 0 1 [] := blsOf Tryz.runUnderlying25 Tryz.sizeOf3 Tryz.zeroValue3 (by decide) (by kernel_rfl)
theorem bls_sl_int_1 : BldS Tryz.prog 25 1 1 [.int .i64 0] := blsOf Tryz.runUnderlying25 Tryz.sizeOf3 Tryz.zeroValue3 (by decide) (by kernel_rfl)
theorem bls_sl_int_2 : BldS Tryz.prog 25 2 1 [.int .i64 0, .int .i64 0] := blsOf Tryz.runUnderlying25 Tryz.sizeOf3 Tryz.zeroValue3 (by decide) (by kernel_rfl)
theorem bls_sl_int_3 : BldS Tryz.prog 25 3 1 [.int .i64 0, .int .i64 0, .int .i64 0] := blsOf Tryz.runUnderlying25 Tryz.sizeOf3 Tryz.zeroValue3 (by decide) (by kernel_rfl)
theorem bls_sl_int_4 : BldS Tryz.prog 25 4 1 [.int .i64 0, .int .i64 0, .int .i64 0, .int .i64 0] := blsOf Tryz.runUnderlying25 Tryz.sizeOf3 Tryz.zeroValue3 (by decide) (by kernel_rfl)
theorem bls_sl_bound_step_1 : BldS Tryz.prog 188 1 4 [.int .i64 0, .int .i64 0, .int .i64 0, .int .i64 0] := blsOf Tryz.runUnderlying188 Tryz.sizeOf197 Tryz.zeroValue197 (by decide) (by kernel_rfl)
theorem app_sl_api_Limit_api_Limit : AppT Tryz.prog 22 22 157 4 32 := ⟨Tryz.runUnderlying22, Tryz.runUnderlying22, Tryz.sizeOf157, ⟨_, Tryz.typeInfo157, rfl, by decide⟩, ⟨_, Tryz.zeroValue157, rfl⟩⟩
theorem app_sl_int_int : AppT Tryz.prog 25 25 3 1 8 := ⟨Tryz.runUnderlying25, Tryz.runUnderlying25, Tryz.sizeOf3, ⟨_, Tryz.typeInfo3, rfl, by decide⟩, ⟨_, Tryz.zeroValue3, rfl⟩⟩
theorem app_sl_bound_step_bound_step : AppT Tryz.prog 188 188 197 4 32 := ⟨Tryz.runUnderlying188, Tryz.runUnderlying188, Tryz.sizeOf197, ⟨_, Tryz.typeInfo197, rfl, by decide⟩, ⟨_, Tryz.zeroValue197, rfl⟩⟩
end Go.Proofs.YtiiokdeehlfeeaaGreat

namespace Go.Proofs.YtiiokdeehlfeeaaGreat
open Go.MW
theorem bound_within_spec {H : Heap} {w : World} {σ : List Ent} {a0 a1 a2 : Int} (hs : St H w σ) : Cl Tryz.prog 167 [I a0, I a1, I a2] w fun v w' => v = .bool (decide (a1 ≤ a0 ∧ a0 ≤ a2)) ∧ St H w' σ := by
  refine Cl.of Tryz.func167 rfl Tryz.ntmps167 (by simp) (args_cons (k := 0) rfl (args_cons (k := 1) rfl (args_cons (k := 2) rfl (args0)))) ?_
  refine .regSeq (.z zg (.nil (.regSeq (.z zm (.z zm (.z zleq (.z zm ?_)))))))
  refine .bifD (t' := 10) rfl (fun hb10 => ?_) (fun hb10 => ?_)
  · refine .gT rfl rfl ?_
    refine .z zm ?_
    refine .gT rfl rfl ?_
    refine .z zm ?_
    refine .gT rfl rfl ?_
    refine .z zleq (.z zpT (.z zg (.nil ?_)))
    refine .ret (Fin.ret1 Tryz.results167 rfl ?_)
    exact ⟨by simp [*], hs.out⟩
  · refine .gFs 3 3 true rfl rfl rfl ?_
    refine .z zpF (.z zg (.nil ?_))
    refine .ret (Fin.ret1 Tryz.results167 rfl ?_)
    exact ⟨by simp [*], hs.out⟩
theorem bound_isLimit_spec {H : Heap} {w : World} {σ : List Ent} {many : Int} {l : Lim} (hs : St H w σ) : Cl Tryz.prog 170 [I many, .agg l.c.toArray] w fun v w' => v = .bool (l.ok many) ∧ St H w' σ := by
  refine Cl.of Tryz.func170 rfl Tryz.ntmps170 (by simp) (args_cons (k := 0) rfl (args_cons (k := 1) rfl (args0))) ?_
  refine .regSeq ?_
  refine .o (.box hs rfl rfl ?_); intro b3 w hs
  refine .z zg (.nil (.regSeq (.z (zfa fa_api_Limit_0) (.y hs (zld Tryz.isAgg3) (.z zm ?_)))))
  refine .o (.call Tryz.call167 rfl (bound_within_spec hs) ?_); rintro _ w ⟨rfl, hs⟩
  refine .z zm ?_
  refine .bif (t' := 9) rfl (fun hb9 => ?_) (fun hb9 => ?_)
  · refine .gT rfl rfl ?_
    refine .z (zfa fa_api_Limit_1) ?_
    refine .gT rfl rfl ?_
    refine .y hs (zld Tryz.isAgg3) ?_
    refine .gT rfl rfl ?_
    refine .z zm ?_
    refine .gT rfl rfl ?_
    refine .o (.call Tryz.call167 rfl (bound_within_spec hs) ?_); rintro _ w ⟨rfl, hs⟩
    refine .z zpT (.z zm ?_)
    refine .bif (t' := 15) rfl (fun hb15 => ?_) (fun hb15 => ?_)
    · refine .gT rfl rfl ?_
      refine .z (zfa fa_api_Limit_0) ?_
      refine .gT rfl rfl ?_
      refine .y hs (zld Tryz.isAgg3) ?_
      refine .gT rfl rfl ?_
      refine .z (zfa fa_api_Limit_1) ?_
      refine .gT rfl rfl ?_
      refine .y hs (zld Tryz.isAgg3) ?_
      refine .gT rfl rfl ?_
      refine .z zneq (.z zpT (.z zm ?_))
      refine .bifN (t' := 22) rfl (fun hb22 => ?_) (fun hb22 => ?_)
      · refine .gT rfl rfl ?_
        refine .z (zfa fa_api_Limit_2) ?_
        refine .gT rfl rfl ?_
        refine .y hs (zld Tryz.isAgg3) ?_
        refine .gT rfl rfl ?_
        refine .o (.call Tryz.call167 rfl (bound_within_spec hs) ?_); rintro _ w ⟨rfl, hs⟩
        refine .z zpT (.z zm ?_)
        refine .bif (t' := 27) rfl (fun hb27 => ?_) (fun hb27 => ?_)
        · refine .gT rfl rfl ?_
          refine .z (zfa fa_api_Limit_3) ?_
          refine .gT rfl rfl ?_
          refine .y hs (zld Tryz.isAgg3) ?_
          refine .gT rfl rfl ?_
          refine .o (.call Tryz.call167 rfl (bound_within_spec hs) ?_); rintro _ w ⟨rfl, hs⟩
          refine .z zpT (.z zg (.nil ?_))
          refine .ret (Fin.ret1 Tryz.results170 rfl ?_)
          exact ⟨by simp [Lim.ok, *], hs.out⟩
        · refine .gFs 3 22 true rfl rfl rfl ?_
          refine .z zpF (.z zg (.nil ?_))
          refine .ret (Fin.ret1 Tryz.results170 rfl ?_)
          exact ⟨by simp [Lim.ok, *], hs.out⟩
      · refine .gFs 3 17 true rfl rfl rfl ?_
        refine .z zpF (.z zm ?_)
        refine .gFs 3 22 true rfl rfl rfl ?_
        refine .z zpF (.z zg (.nil ?_))
        refine .ret (Fin.ret1 Tryz.results170 rfl ?_)
        exact ⟨by simp [Lim.ok, *], hs.out⟩
    · refine .gFs 5 10 true rfl rfl rfl ?_
      refine .z zpF (.z zm ?_)
      refine .gFs 3 17 true rfl rfl rfl ?_
      refine .z zpF (.z zm ?_)
      refine .gFs 3 22 true rfl rfl rfl ?_
      refine .z zpF (.z zg (.nil ?_))
      refine .ret (Fin.ret1 Tryz.results170 rfl ?_)
      exact ⟨by simp [Lim.ok, *], hs.out⟩
  · refine .gFs 4 4 true rfl rfl rfl ?_
    refine .z zpF (.z zm ?_)
    refine .gFs 5 10 true rfl rfl rfl ?_
    refine .z zpF (.z zm ?_)
    refine .gFs 3 17 true rfl rfl rfl ?_
    refine .z zpF (.z zm ?_)
    refine .gFs 3 22 true rfl rfl rfl ?_
    refine .z zpF (.z zg (.nil ?_))
    refine .ret (Fin.ret1 Tryz.results170 rfl ?_)
    exact ⟨by simp [Lim.ok, *], hs.out⟩
theorem IndexFunc_Lim {H : Heap} {w : World} {σ : List Ent} {v : Value} {ls : List Lim} {g : Nat} {cap : List Value} {p : Lim → Bool} (hs : St H w σ) (hr : RL H v ls)
    (hc : ∀ args w, (callFunc g args).run Tryz.prog w = .ok (.enter g args) w) (hp : ∀ w l, St H w σ → Cl Tryz.prog g ([.agg l.c.toArray] ++ cap) w fun u w' => u = .bool (p l) ∧ St H w' σ) :
    Cl Tryz.prog 195 [v, .func (.func g) #[] cap.toArray] w fun u w' => u = I (match ls.findIdx? p with | some k => (k : Int) | none => -1) ∧ St H w' σ := by
  obtain ⟨a, c, rfl⟩ := RS.shape hr
  have hl := (RS.len hr).2.2
  refine Cl.of Tryz.func195 rfl Tryz.ntmps195 (by simp) (args_cons (k := 0) rfl (args_cons (k := 1) rfl (args0))) ?_
  refine .regSeq (.z zg (.nil (.seq (.regSeq (.z zm ?_)))))
  refine .q hs (q_lenR hr rfl Tryz.runUnderlying22) ?_
  refine .z zm (.nil ?_)
  refine .for (N := (ls.map Lim.c).length) (J := fun k fr w => fr = [(1, .func (.func g) #[] cap.toArray), (0, .slice a (ls.map Lim.c).length c)] ∧ St H w σ ∧ ∀ j < k, ∀ l, ls[j]? = some l → p l = false) (by omega) ?_ ?_ ?_
  · exact .mk ⟨rfl, hs, fun j hj => by omega⟩
  · rintro k fr w hk ⟨rfl, hs, hno⟩
    obtain ⟨l, hl⟩ := nth (l := ls) (by simpa using hk)
    refine .block (.regSeq (.z zm (.z zg (.nil (.regSeq (.z zm (.z zm (.z zm ?_))))))))
    refine .ixX hs hr rfl rfl Tryz.runUnderlying22 Tryz.sizeOf157 hl rfl ?_; intro b14 o14 hc14
    refine .y hs (zls [_, _, _, _] Tryz.isAgg157 Tryz.sizeOf157) ?_
    refine .o (.callG (first := []) rfl rfl hc (hp _ _ hs) ?_); rintro _ w ⟨rfl, hs⟩
    refine .nil ?_
    refine (.cond rfl (fun hc16 => ?_) (fun hc16 => ?_))
    · refine .regSeq (.z zm (.z zg (.nil ?_)))
      refine .ret (rB (rT (rB (rT (Fin.ret1 Tryz.results195 rfl ?_)))))
      exact ⟨by rw [findIdx_hit hl hc16 hno], hs⟩
    · refine .skip ?_
      refine nB (nT ?_)
      exact .mk ⟨rfl, hs, upto_succ hno hl hc16⟩
  · rintro fr w ⟨rfl, hs, hno⟩
    refine nT ?_
    refine .regSeq (.z zg (.nil ?_))
    refine .ret (Fin.ret1 Tryz.results195 rfl ?_)
    exact ⟨by rw [findIdx_miss (by simpa using hno)], hs⟩
theorem ContainsFunc_Lim {H : Heap} {w : World} {σ : List Ent} {v : Value} {ls : List Lim} {g : Nat} {cap : List Value} {p : Lim → Bool} (hs : St H w σ) (hr : RL H v ls)
    (hc : ∀ args w, (callFunc g args).run Tryz.prog w = .ok (.enter g args) w) (hp : ∀ w l, St H w σ → Cl Tryz.prog g ([.agg l.c.toArray] ++ cap) w fun u w' => u = .bool (p l) ∧ St H w' σ) :
    Cl Tryz.prog 168 [v, .func (.func g) #[] cap.toArray] w fun u w' => u = .bool (ls.any p) ∧ St H w' σ := by
  refine Cl.of Tryz.func168 rfl Tryz.ntmps168 (by simp) (args_cons (k := 0) rfl (args_cons (k := 1) rfl (args0))) ?_
  refine .regSeq (.z zg (.nil (.regSeq (.z zm (.z zm ?_)))))
  refine .o (.call Tryz.call195 rfl (IndexFunc_Lim hs hr hc hp) ?_); rintro _ w ⟨rfl, hs⟩
  refine .z zgeq (.z zg (.nil ?_))
  refine .ret (Fin.ret1 Tryz.results168 rfl ?_)
  exact ⟨by rw [any_findIdx]; cases ls.findIdx? p <;> simp <;> omega, hs⟩
theorem bound_Check_1 {H : Heap} {w : World} {σ : List Ent} {b : Nat} {many : Int} {v : Value} {l : Lim} (hs : St H w σ) (hm : Mem σ (.blk b [I many, v])) : Cl Tryz.prog 169 [.agg l.c.toArray, .pointer (some ⟨b, 0, none⟩)] w fun v w' => v = .bool (!l.ok many) ∧ St H w' σ := by
  refine Cl.of Tryz.func169 rfl Tryz.ntmps169 (by simp) (args_cons (k := 0) rfl (args_cons (k := 1) rfl (args0))) ?_
  refine .regSeq ?_
  refine .o (.box hs rfl rfl ?_); intro b2 w hs
  refine .z zg (.nil (.regSeq (.z (zfa fa_api_System_0) ?_)))
  refine .q hs (q_load rfl Tryz.isAgg3 (.there hm) rfl) ?_
  refine .q hs (q_loads (vs := l.c) rfl Tryz.isAgg157 Tryz.sizeOf157) ?_
  refine .o (.call Tryz.call170 rfl (bound_isLimit_spec hs) ?_); rintro _ w ⟨rfl, hs⟩
  refine .z znot (.z zg (.nil ?_))
  refine .ret (Fin.ret1 Tryz.results169 rfl ?_)
  exact ⟨rfl, hs.out⟩
theorem bound_Check_spec {H : Heap} {w : World} {σ : List Ent} {v : Value} {s : Syst} (hs : St H w σ) (hr : RSy H v s) : Cl Tryz.prog 113 [v] w fun v w' => v = I s.check ∧ St H w' σ := by
  obtain ⟨u, rfl, hr⟩ := hr
  obtain ⟨a, c, rfl⟩ := RS.shape hr
  refine Cl.of Tryz.func113 rfl Tryz.ntmps113 (by simp) (args_cons (k := 0) rfl (args0)) ?_
  refine .regSeq ?_
  refine .o (.box hs rfl rfl ?_); intro b1 w hs
  refine .z zg (.nil (.seq (.block (.regSeq (.z (zfa fa_api_System_0) (.y hs (zld Tryz.isAgg3) ?_))))))
  refine .o (.call Tryz.call167 rfl (bound_within_spec hs) ?_); rintro _ w ⟨rfl, hs⟩
  refine .z znot (.z zg (.nil ?_))
  refine (.cond rfl (fun hc3 => ?_) (fun hc3 => ?_))
  · refine .regSeq (.z zg (.nil ?_))
    refine .ret (rB (rT (Fin.ret1 Tryz.results113 rfl ?_)))
    exact ⟨congrArg I (by unfold Syst.check; (repeat' split) <;> simp_all <;> omega), hs.out⟩
  · refine .regSeq (.z (zfa fa_api_System_1) (.y hs (zld Tryz.isAgg22) ?_))
    refine .q hs (q_lenR hr rfl Tryz.runUnderlying22) ?_
    refine .z zgtr (.z zg (.nil ?_))
    refine (.condD rfl (fun hc8 => ?_) (fun hc8 => ?_))
    · refine .regSeq (.z zg (.nil ?_))
      refine .ret (rB (rT (Fin.ret1 Tryz.results113 rfl ?_)))
      exact ⟨congrArg I (by unfold Syst.check; (repeat' split) <;> simp_all <;> omega), hs.out⟩
    · refine .regSeq (.z (zfa fa_api_System_1) (.y hs (zld Tryz.isAgg22) ?_))
      refine .q hs (q_makeFunc (f := []) (c := [_]) rfl rfl) ?_
      refine .o (.call Tryz.call168 rfl (ContainsFunc_Lim (p := fun l => !l.ok s.many) hs hr Tryz.call169 (fun w l hs => bound_Check_1 hs .here)) ?_); rintro _ w ⟨rfl, hs⟩
      refine .z zg (.nil ?_)
      refine (.cond rfl (fun hc13 => ?_) (fun hc13 => ?_))
      · refine .regSeq (.z zg (.nil ?_))
        refine .ret (rB (rT (Fin.ret1 Tryz.results113 rfl ?_)))
        exact ⟨congrArg I (by unfold Syst.check; (repeat' split) <;> simp_all <;> omega), hs.out⟩
      · refine .skip ?_
        refine nB (nT ?_)
        refine .regSeq (.z zg (.nil ?_))
        refine .ret (Fin.ret1 Tryz.results113 rfl ?_)
        exact ⟨congrArg I (by unfold Syst.check; (repeat' split) <;> simp_all <;> omega), hs.out⟩
end Go.Proofs.YtiiokdeehlfeeaaGreat

namespace Go.Proofs.YtiiokdeehlfeeaaGreat
open Go.MW
theorem bound_steps_1_iter {H : Heap} {b : Nat} {s : Syst} {u : Value} (hok : s.Ok) (hb : Row H b [I s.many, u]) (hr : RL H u s.lims) : ItA Tryz.prog 196 [.pointer (some ⟨b, 0, none⟩)] H s.arcs := by
  intro l II Ix _ _ hy H0 σb0 σf w hle hI0 hs
  obtain ⟨a, c, rfl⟩ := RS.shape hr
  have hb1 : cellAt H0 b 1 = some (.slice a (s.lims.map Lim.c).length c) := cellAt.mono (by rw [hb.cell]; rfl) hle
  have hlen := hok.len
  refine Cl.of Tryz.func196 rfl Tryz.ntmps196 (by simp) (args_cons (k := 0) rfl (args_cons (k := 1) rfl (args0))) ?_
  refine .regSeq (.z (zfa fa_api_System_1) (.y hs (zld Tryz.isAgg22) ?_))
  refine .q hs (q_lenR (hr.mono hle) rfl Tryz.runUnderlying22) ?_
  refine .z zm (.nil ?_)
  refine .for (N := (s.lims.map Lim.c).length) (J := fun k fr w => fr = [(6, .slice a (s.lims.map Lim.c).length c), (0, .func (.yield l) #[] #[])] ∧ ∃ H1 σb, HLe H H1 ∧ HLe H0 H1 ∧ II k H1 σb ∧ St H1 w (σb ++ σf)) (by simp; omega) ?_ ?_ ?_
  · exact .mk ⟨rfl, H0, σb0, hle, HLe.refl _, hI0, hs⟩
  · rintro k fr w hk ⟨rfl, H1, σb, hle1, hle0, hI, hs⟩
    obtain ⟨x, hx⟩ := nth (l := s.lims) (by simpa using hk)
    obtain ⟨hA, hB, _⟩ := hok.arc (List.mem_of_getElem? hx) k
    refine .block (.regSeq (.z zm ?_))
    refine .ixX hs (hr.mono hle1) rfl rfl Tryz.runUnderlying22 Tryz.sizeOf157 hx rfl ?_; intro b11 o11 hc11
    refine .q hs (q_loadsR (vs := x.c) rfl Tryz.isAgg157 Tryz.sizeOf157 hc11) ?_
    refine .o (.alloc hs Tryz.zeroValue157 rfl ?_); intro b4 w hs
    refine .z zg ?_
    refine .o (.stores (vs := x.c) hs rfl rfl Tryz.sizeOf157 ?_); intro w hs
    refine .nil (.regSeq (.z zm (.z (zfa fa_api_Limit_0) (.y hs (zld Tryz.isAgg3) (.z (zfa fa_api_Limit_1) (.y hs (zld Tryz.isAgg3) (.z (zfa fa_api_Limit_2) (.y hs (zld Tryz.isAgg3) (.z zm ?_)))))))))
    refine .z (zbd [_, _, _, _] bld_bound_step) ?_
    have hk' : k < (s.arcs.map fun x => [Value.agg x.v.toArray]).length := by simp [Syst.arcs, arcsOf_length]; simpa using hk
    have hxk : (s.arcs.map fun x => [Value.agg x.v.toArray])[k] = [.agg (x.arc k).v.toArray] := by
      have := arcsOf_get hx
      rw [List.getElem_map]; rw [List.getElem?_eq_some_iff] at this; obtain ⟨h1, h2⟩ := this; simp only [Syst.arcs]; rw [h2]
    have hyd := hy k hk' H1 σb σf w hle1 hI hs.tail
    rw [hxk] at hyd
    refine .o (.yield (vs := [.agg (x.arc k).v.toArray]) rfl (by simp [Arc.v, hA, hB]; rfl) hyd ?_); rintro v22 w ⟨H2, σ2, g1, hs, g3⟩
    obtain ⟨bb, rfl, gT, gF⟩ := yd_bool g3
    refine .z znot (.nil ?_)
    refine (.cond rfl (fun hc23 => ?_) (fun hc23 => ?_))
    · refine .ret (rB (rT (rB (Fin.ret0 Tryz.results196 ?_))))
      exact ⟨H2, σ2, hle0.trans g1, hs, .inr (gF (by simpa using hc23))⟩
    · refine .skip ?_
      refine nB (nT ?_)
      exact .mk ⟨rfl, H2, σ2, hle1.trans g1, hle0.trans g1, gT (by simpa using hc23), hs⟩
  · rintro fr w ⟨rfl, H1, σb, hle1, hle0, hI, hs⟩
    exact Fin.end0 Tryz.results196 ⟨H1, σb, hle0, hs, .inl (by simpa [Syst.arcs, arcsOf_length] using hI)⟩
theorem bound_steps_spec {H : Heap} {w : World} {σ : List Ent} {v : Value} {s : Syst} (hs : St H w σ) (hok : s.Ok) (hr : RSy H v s) :
    Cl Tryz.prog 172 [v] w fun v w' => ∃ H1 b, HLe H H1 ∧ v = .func (.func 196) #[] #[.pointer (some ⟨b, 0, none⟩)] ∧ ItA Tryz.prog 196 [.pointer (some ⟨b, 0, none⟩)] H1 s.arcs ∧ St H1 w' σ := by
  obtain ⟨u, rfl, hr⟩ := hr
  refine Cl.of Tryz.func172 rfl Tryz.ntmps172 (by simp) (args_cons (k := 0) rfl (args0)) ?_
  refine .regSeq ?_
  refine .o (.box hs rfl rfl ?_); intro b1 w hs
  refine .z zg (.nil (.regSeq ?_))
  refine .q hs (q_makeFunc (f := []) (c := [_]) rfl rfl) ?_
  refine .z zg (.nil ?_)
  refine .ret (Fin.ret1 Tryz.results172 rfl ?_)
  obtain ⟨H1, g1, g2, hs⟩ := hs.publish .here
  exact ⟨H1, b1, g1, rfl, bound_steps_1_iter hok g2 (hr.mono g1), hs⟩
theorem bound_nearest_spec {H : Heap} {w : World} {σ : List Ent} {N gf : Nat} {ar : List Arc} {cap : List Value} (hs : St H w σ) (hN : N ≤ 64) (hok : ArcsOk ar (N + 1)) (hit : ItA Tryz.prog gf cap H ar) (hc : ∀ args w, (callFunc gf args).run Tryz.prog w = .ok (.enter gf args) w) :
    Cl Tryz.prog 171 [I N, .func (.func gf) #[] cap.toArray] w fun v w' => ∃ H1 bc bb s ov vo, HLe H H1 ∧ v = .tuple #[.slice (some ⟨bc, 0, none⟩) (N + 1) (N + 1), .slice (some ⟨bb, 0, none⟩) (N + 1) (N + 1), vo] ∧ OvR H1 vo ov ∧ NearR (N + 1) ar s ov ∧ St H1 w' (.blk bc (Is s.cost) :: .blk bb (Arcs s.by_) :: σ) := by
  refine Cl.of Tryz.func171 rfl Tryz.ntmps171 (by simp) (args_cons (k := 0) rfl (args_cons (k := 1) rfl (args0))) ?_
  refine .regSeq ?_
  refine .o (.alloc hs Tryz.zeroValue25 rfl ?_); intro b4 w hs
  refine .o (.alloc hs Tryz.zeroValue188 rfl ?_); intro b5 w hs
  refine .o (.alloc hs Tryz.zeroValue189 rfl ?_); intro b6 w hs
  refine .nil ?_
  refine .cut (fun fs w => ∃ bc bb, FSub fs ⟨70, [], [(1, .func (.func gf) #[] cap.toArray), (0, I N), (4, .pointer (some ⟨b4, 0, none⟩)), (5, .pointer (some ⟨b5, 0, none⟩)), (6, .pointer (some ⟨b6, 0, none⟩))]⟩ ∧ St H w (.blk b4 [.slice (some ⟨bc, 0, none⟩) (N + 1) (N + 1)] :: .blk b5 [.slice (some ⟨bb, 0, none⟩) (N + 1) (N + 1)] :: .blk b6 [.pointer none] :: .blk bc (Is (List.replicate (N + 1) 0)) :: .blk bb (Arcs (mkBy (N + 1) 0)) :: σ)) ?_ ?_
  · refine .draw mix rfl hs ?_; intro w hs
    refine .z 0 rfl zm ?_; refine .z 1 rfl zadd ?_; refine .z 3 rfl zm ?_; refine .z 4 rfl zadd ?_
    refine .e2 (i := 2) (j := 5) (by kernel_rfl) rfl rfl rfl rfl .none .none hs ?_ ?_
    · refine .makeI (N + 1) hs rfl rfl Tryz.runUnderlying25 Tryz.typeInfo3 rfl Tryz.sizeOf3 Tryz.zeroValue3 (by omega) ?_; intro b11 w hs
      refine .go ?_
      refine .e2 (i := 5) (j := 6) (by kernel_rfl) rfl rfl rfl rfl .none .none hs ?_ ?_
      · refine .makeA (N + 1) hs rfl rfl Tryz.runUnderlying188 Tryz.typeInfo197 rfl Tryz.sizeOf197 Tryz.zeroValue197 (by omega) ?_; intro b14 w hs
        refine .go ?_
        refine .e1 (i := 6) (by kernel_rfl) rfl rfl .none hs ?_
        refine .store hs rfl rfl Tryz.sizeOf25 ?_; intro w hs
        refine .go ?_
        refine .e1 (i := 7) (by kernel_rfl) rfl rfl .none hs ?_
        refine .store hs rfl rfl Tryz.sizeOf188 ?_; intro w hs
        refine .go ?_
        refine .done (by kernel_rfl) hs ?_
        exact nT ⟨b11, b14, by repeat (first | exact .nil rfl rfl | refine .cons rfl ?_), hs.sub (by repeat (first | exact Sub.refl _ | constructor | apply Sub.weaken))⟩
      · refine .store hs rfl rfl Tryz.sizeOf25 ?_; intro w hs
        refine .go ?_
        refine .e1 (i := 5) (by kernel_rfl) rfl rfl .none hs ?_
        refine .makeA (N + 1) hs rfl rfl Tryz.runUnderlying188 Tryz.typeInfo197 rfl Tryz.sizeOf197 Tryz.zeroValue197 (by omega) ?_; intro b14 w hs
        refine .go ?_
        refine .e1 (i := 7) (by kernel_rfl) rfl rfl .none hs ?_
        refine .store hs rfl rfl Tryz.sizeOf188 ?_; intro w hs
        refine .go ?_
        refine .done (by kernel_rfl) hs ?_
        exact nT ⟨b11, b14, by repeat (first | exact .nil rfl rfl | refine .cons rfl ?_), hs.sub (by repeat (first | exact Sub.refl _ | constructor | apply Sub.weaken))⟩
    · refine .makeA (N + 1) hs rfl rfl Tryz.runUnderlying188 Tryz.typeInfo197 rfl Tryz.sizeOf197 Tryz.zeroValue197 (by omega) ?_; intro b14 w hs
      refine .go ?_
      refine .e1 (i := 2) (by kernel_rfl) rfl rfl .none hs ?_
      refine .makeI (N + 1) hs rfl rfl Tryz.runUnderlying25 Tryz.typeInfo3 rfl Tryz.sizeOf3 Tryz.zeroValue3 (by omega) ?_; intro b11 w hs
      refine .go ?_
      refine .e1 (i := 6) (by kernel_rfl) rfl rfl .none hs ?_
      refine .store hs rfl rfl Tryz.sizeOf25 ?_; intro w hs
      refine .go ?_
      refine .e1 (i := 7) (by kernel_rfl) rfl rfl .none hs ?_
      refine .store hs rfl rfl Tryz.sizeOf188 ?_; intro w hs
      refine .go ?_
      refine .done (by kernel_rfl) hs ?_
      exact nT ⟨b11, b14, by repeat (first | exact .nil rfl rfl | refine .cons rfl ?_), hs.sub (by repeat (first | exact Sub.refl _ | constructor | apply Sub.weaken))⟩
  · rintro s w ⟨bc, bb, hfs, hs⟩
    refine WE.sub ?_ hfs
    refine .seq (.regSeq (.y hs (zld Tryz.isAgg188) (.z (zlen Tryz.runUnderlying188) (.z zm (.nil ?_)))))
    refine .for (N := N + 1) (J := fun k fr w => fr = [(1, .func (.func gf) #[] cap.toArray), (0, I N), (4, .pointer (some ⟨b4, 0, none⟩)), (5, .pointer (some ⟨b5, 0, none⟩)), (6, .pointer (some ⟨b6, 0, none⟩))] ∧ St H w (.blk b4 [.slice (some ⟨bc, 0, none⟩) (N + 1) (N + 1)] :: .blk b5 [.slice (some ⟨bb, 0, none⟩) (N + 1) (N + 1)] :: .blk b6 [.pointer none] :: .blk bc (Is (List.replicate (N + 1) 0)) :: .blk bb (Arcs (mkBy (N + 1) k)) :: σ)) (by omega) ?_ ?_ ?_
    · exact .mk ⟨rfl, hs⟩
    · rintro k fr w hk ⟨rfl, hs⟩
      have hkl : k < (mkBy (N + 1) k).length := by rw [mkBy_length (by omega)]; exact hk
      refine .block (.regSeq (.z zm (.z zg (.nil (.region (.y hs (zld Tryz.isAgg188) (.z zm ?_)))))))
      first | (refine .ixw hs Tryz.runUnderlying188 Tryz.sizeOf197 ?_; intro b22 o22 hc22) | refine .z (zixm Tryz.runUnderlying188 Tryz.sizeOf197) ?_
      refine .z (zfa fa_bound_step_3) ?_
      refine .o (.store hs rfl rfl Tryz.sizeOf3 ?_ (by repeat constructor) (blt_Arcs hkl (by omega)) ((Arcs_set3 hkl _).trans (congrArg Arcs (mkBy_set hk)))); intro w hs
      refine .nil ?_
      refine nB (nT ?_)
      exact .mk ⟨rfl, hs⟩
    · rintro fr w ⟨rfl, hs⟩
      refine nT ?_
      refine .seq (.regSeq (.z zm (.z zadd (.z zm (.nil ?_)))))
      refine .forD (N := N + 2) (J := fun r ds fr w => fr = [(1, .func (.func gf) #[] cap.toArray), (0, I N), (4, .pointer (some ⟨b4, 0, none⟩)), (5, .pointer (some ⟨b5, 0, none⟩)), (6, .pointer (some ⟨b6, 0, none⟩))] ∧ ∃ Ds H1 s vo, ds = marks Ds ∧ HLe H H1 ∧ NInv (N + 1) ar r 0 none s ∧ (r = 0 ∨ ∃ x, OvR H1 vo (some x) ∧ NInv (N + 1) ar (r - 1) ar.length (some x) s) ∧ St H1 w (.blk b4 [.slice (some ⟨bc, 0, none⟩) (N + 1) (N + 1)] :: .blk b5 [.slice (some ⟨bb, 0, none⟩) (N + 1) (N + 1)] :: .blk b6 [vo] :: .blk bc (Is s.cost) :: .blk bb (Arcs s.by_) :: (mes Ds ++ σ))) (by omega) ?_ ?_ ?_
      · exact .mk (ds := []) ⟨rfl, [], H, ⟨List.replicate (N + 1) 0, List.replicate (N + 1) ⟨0, 0, 0, -1⟩⟩, _, rfl, HLe.refl _, NInv.init (by omega), .inl rfl, by rw [mkBy_full] at hs; exact hs⟩
      · rintro r ds fr w hr ⟨rfl, Ds, H1, s, vo, rfl, hle1, hN0, -, hs⟩
        refine .block (.regSeq ?_)
        refine .o (.store hs rfl rfl Tryz.sizeOf189 ?_); intro w hs
        refine .nil (.seq (.regSeq (.z zm (.nil (.block ?_)))))
        refine .rangeFunc (gf := gf) (cap := cap) (xs := ar.map fun x => [.agg x.v.toArray]) (σb := [.blk b4 [.slice (some ⟨bc, 0, none⟩) (N + 1) (N + 1)], .blk b5 [.slice (some ⟨bb, 0, none⟩) (N + 1) (N + 1)], .blk b6 [.pointer none], .blk bc (Is s.cost), .blk bb (Arcs s.by_)]) (σf := mes Ds ++ σ) hs trivial rfl (hit.mono hle1) hc (by simp) rfl
          (I := fun k H' σb => ∃ s ov vo, σb = [.blk b4 [.slice (some ⟨bc, 0, none⟩) (N + 1) (N + 1)], .blk b5 [.slice (some ⟨bb, 0, none⟩) (N + 1) (N + 1)], .blk b6 [vo], .blk bc (Is s.cost), .blk bb (Arcs s.by_)] ∧ OvR H' vo ov ∧ NInv (N + 1) ar r k ov s) (Ix := fun _ _ _ => False) (by rintro k _ _ σ g1 ⟨s, ov, vo, g2, g3, g4⟩; exact ⟨s, ov, vo, g2, g3.mono g1, g4⟩) (fun _ _ _ _ _ h => h)
          ⟨s, none, _, rfl, rfl, hN0⟩ ?_ ?_ (fun D c H' σb w _ h _ => h.elim)
        · rintro l k hk H2 σb2 σf2 w hle2 ⟨s, ov, vo, rfl, hov, hN⟩ hs ⟨rr, hrr⟩
          obtain ⟨x, hx⟩ := nth (l := ar) (by simpa using hk)
          obtain ⟨c1, c2, c3, c4, c5, c6⟩ := hok.2 x (List.mem_of_getElem? hx)
          have hxk : (ar.map fun x => [Value.agg x.v.toArray])[k] = [.agg x.v.toArray] := by rw [List.getElem_map]; rw [List.getElem?_eq_some_iff] at hx; obtain ⟨h1, h2⟩ := hx; rw [h2]
          rw [hxk]
          have hkl : k < ar.length := by simpa using hk
          have hal := hok.1
          have hlc := hN.lc
          have hlb := hN.lb
          have lo1 := hN.lo x.f c1
          have hi1 := hN.hi x.f c1
          refine .region ?_
          refine .o (.alloc hs Tryz.zeroValue197 rfl ?_); intro b8 w hs
          refine .o (.stores (vs := x.v) hs rfl rfl Tryz.sizeOf197 ?_); intro w hs
          refine .nil ?_
          refine nT ?_
          refine ⟨H2, [.blk b8 x.v, .blk b4 [.slice (some ⟨bc, 0, none⟩) (N + 1) (N + 1)], .blk b5 [.slice (some ⟨bb, 0, none⟩) (N + 1) (N + 1)], .blk b6 [vo], .blk bc (Is s.cost), .blk bb (Arcs s.by_)], HLe.refl _, hs, ?_⟩; rintro w σf2 - hs
          refine .block ?_
          refine .seq (.draw mix rfl hs ?_); intro w hs
          refine .y 0 rfl hs Tryz.isAgg25 ?_; refine .z 1 rfl (zfa fa_bound_step_0) ?_; refine .y 2 rfl hs Tryz.isAgg3 ?_
          first | (refine .ixv 3 rfl hs Tryz.runUnderlying25 Tryz.sizeOf3 ?_; intro b34 o34 hc34) | refine .z 3 rfl (zix Tryz.runUnderlying25 Tryz.sizeOf3) ?_
          refine .y 4 rfl hs Tryz.isAgg3 ?_; refine .z 5 rfl (zfa fa_bound_step_2) ?_; refine .y 6 rfl hs Tryz.isAgg3 ?_; refine .z 7 rfl zadd ?_; refine .y 8 rfl hs Tryz.isAgg25 ?_; refine .z 9 rfl (zfa fa_bound_step_1) ?_; refine .y 10 rfl hs Tryz.isAgg3 ?_
          first | (refine .ixv 11 rfl hs Tryz.runUnderlying25 Tryz.sizeOf3 ?_; intro b42 o42 hc42) | refine .z 11 rfl (zix Tryz.runUnderlying25 Tryz.sizeOf3) ?_
          refine .y 12 rfl hs Tryz.isAgg3 ?_; refine .z 13 rfl zlss ?_; refine .done (by kernel_rfl) hs ?_
          refine (.condD rfl (fun hc44 => ?_) (fun hc44 => ?_))
          · refine .seq (.draw mix rfl hs ?_); intro w hs
            refine .y 0 rfl hs Tryz.isAgg25 ?_; refine .z 1 rfl (zfa fa_bound_step_1) ?_; refine .y 2 rfl hs Tryz.isAgg3 ?_; refine .y 3 rfl hs Tryz.isAgg188 ?_; refine .z 4 rfl (zfa fa_bound_step_1) ?_; refine .y 5 rfl hs Tryz.isAgg3 ?_; refine .y 6 rfl hs Tryz.isAgg25 ?_; refine .z 7 rfl (zfa fa_bound_step_0) ?_; refine .y 8 rfl hs Tryz.isAgg3 ?_
            first | (refine .ixv 9 rfl hs Tryz.runUnderlying25 Tryz.sizeOf3 ?_; intro b54 o54 hc54) | refine .z 9 rfl (zix Tryz.runUnderlying25 Tryz.sizeOf3) ?_
            refine .y 10 rfl hs Tryz.isAgg3 ?_; refine .z 11 rfl (zfa fa_bound_step_2) ?_; refine .y 12 rfl hs Tryz.isAgg3 ?_; refine .z 13 rfl zadd ?_
            refine .loads (i := 14) (vs := x.v) hs rfl (by kernel_rfl) .none rfl Tryz.isAgg197 Tryz.sizeOf197 ?_
            first | (refine .ixv 15 rfl hs Tryz.runUnderlying25 Tryz.sizeOf3 ?_; intro b60 o60 hc60) | refine .z 15 rfl (zix Tryz.runUnderlying25 Tryz.sizeOf3) ?_
            refine .e1 (i := 16) (by kernel_rfl) rfl rfl .none hs ?_
            refine .store hs rfl rfl Tryz.sizeOf3 ?_; intro w hs
            refine .go ?_
            first | (refine .ixw 17 rfl hs Tryz.runUnderlying188 Tryz.sizeOf197 ?_; intro b61 o61 hc61) | refine .z 17 rfl (zixm Tryz.runUnderlying188 Tryz.sizeOf197) ?_
            refine .e1 (i := 18) (by kernel_rfl) rfl rfl .none hs ?_
            refine .stores (vs := x.v) hs rfl rfl Tryz.sizeOf197 ?_; intro w hs
            refine .go ?_
            refine .done (by kernel_rfl) hs ?_
            refine .region ?_
            refine .o (.store hs rfl rfl Tryz.sizeOf189 ?_); intro w hs
            refine .nil ?_
            refine nB ?_
            obtain ⟨H3, g1, g2, hs⟩ := hs.publish .here
            exact ⟨H3, _, g1, hs, s.rlx x, some x, _, rfl, ⟨b8, rfl, g2⟩, hN.relax hok hx hc44⟩
          · refine .skip ?_
            refine nB ?_
            exact ⟨H2, _, HLe.refl _, hs.tail, s, ov, vo, rfl, hov, hN.skip hok hx (by unfold BS.can; omega)⟩
        · rintro D H2 σb2 w hle2 ⟨s, ov, vo, rfl, hov, hN⟩ hs
          obtain ⟨a', rfl, ha'⟩ := hov.ptr
          replace hs : St H2 w (.blk b4 [.slice (some ⟨bc, 0, none⟩) (N + 1) (N + 1)] :: .blk b5 [.slice (some ⟨bb, 0, none⟩) (N + 1) (N + 1)] :: .blk b6 [.pointer a'] :: .blk bc (Is s.cost) :: .blk bb (Arcs s.by_) :: (mes (D :: Ds) ++ σ)) := St.deep (σ1 := [_, _, _, _, _]) hs
          have hN : NInv (N + 1) ar r ar.length ov s := by simpa using hN
          refine nB (nT ?_)
          refine .regSeq (.y hs (zld Tryz.isAgg189) ?_)
          refine .q hs (q_eqPN rfl rfl Tryz.runUnderlying189) ?_
          refine .nil ?_
          refine (.cond rfl (fun hc63 => ?_) (fun hc63 => ?_))
          · refine .seq (.draw mix rfl hs ?_); intro w hs
            refine .y 0 rfl hs Tryz.isAgg25 ?_; refine .y 1 rfl hs Tryz.isAgg188 ?_
            refine .e1 (i := 2) (by kernel_rfl) rfl rfl .none hs ?_
            refine .store hs rfl rfl Tryz.sizeOf25 ?_; intro w hs
            refine .go ?_
            refine .e1 (i := 3) (by kernel_rfl) rfl rfl .none hs ?_
            refine .store hs rfl rfl Tryz.sizeOf188 ?_; intro w hs
            refine .go ?_
            refine .e1 (i := 4) (by kernel_rfl) rfl rfl .none hs ?_
            refine .store hs rfl rfl Tryz.sizeOf189 ?_; intro w hs
            refine .go ?_
            refine .done (by kernel_rfl) hs ?_
            refine .ret (rB (rT (rB (rT (?_)))))
            obtain ⟨rfl, rfl⟩ := OvR.no ha' hc63
            refine Fin.retD (D :: Ds) [_, _, _, _, _] hs fun w hs => ⟨_, results3 Tryz.results171 (rcell hs rfl Tryz.isAgg25) (rcell hs rfl Tryz.isAgg188) (rcell hs rfl Tryz.isAgg189), H2, bc, bb, s, none, _, hle1.trans hle2, rfl, hov, ⟨r, hN, fun h => (h rfl).elim⟩, hs.sub (by repeat (first | exact Sub.refl _ | constructor | apply Sub.weaken))⟩
          · refine .skip ?_
            refine nB (nT ?_)
            obtain ⟨x, rfl⟩ := OvR.yes ha' hc63
            exact .mk (ds := marks (D :: Ds)) ⟨rfl, D :: Ds, H2, s, _, rfl, hle1.trans hle2, hN.next hok, .inr ⟨x, hov, hN⟩, hs⟩
      · rintro ds fr w ⟨rfl, Ds, H1, s, vo, rfl, hle1, hN0, hor, hs⟩
        obtain ⟨x, hov, hN⟩ : ∃ x, OvR H1 vo (some x) ∧ NInv (N + 1) ar (N + 2 - 1) ar.length (some x) s := hor.resolve_left (by omega)
        obtain ⟨b3, rfl, hrow⟩ := hov
        refine nT ?_
        refine .seq (.draw mix rfl hs ?_); intro w hs
        refine .y 0 rfl hs Tryz.isAgg25 ?_; refine .y 1 rfl hs Tryz.isAgg188 ?_; refine .y 2 rfl hs Tryz.isAgg189 ?_
        refine .e1 (i := 3) (by kernel_rfl) rfl rfl .none hs ?_
        refine .store hs rfl rfl Tryz.sizeOf25 ?_; intro w hs
        refine .go ?_
        refine .e1 (i := 4) (by kernel_rfl) rfl rfl .none hs ?_
        refine .store hs rfl rfl Tryz.sizeOf188 ?_; intro w hs
        refine .go ?_
        refine .e1 (i := 5) (by kernel_rfl) rfl rfl .none hs ?_
        refine .store hs rfl rfl Tryz.sizeOf189 ?_; intro w hs
        refine .go ?_
        refine .done (by kernel_rfl) hs ?_
        refine .ret ?_
        refine Fin.retD Ds [_, _, _, _, _] hs fun w hs => ⟨_, results3 Tryz.results171 (rcell hs rfl Tryz.isAgg25) (rcell hs rfl Tryz.isAgg188) (rcell hs rfl Tryz.isAgg189), H1, bc, bb, s, some x, _, hle1, rfl, ⟨b3, rfl, hrow⟩, ⟨N + 1, hN, fun _ => rfl⟩, hs.sub (by repeat (first | exact Sub.refl _ | constructor | apply Sub.weaken))⟩
theorem bound_isSound_spec {H : Heap} {w : World} {σ : List Ent} {v : Value} {s : Syst} (hs : St H w σ) (hok : s.Ok) (hr : RSy H v s) :
    Cl Tryz.prog 114 [v] w fun v w' => ∃ H1 b, HLe H H1 ∧ v = .bool b ∧ (b = true ↔ s.Sound) ∧ St H1 w' σ := by
  obtain ⟨u, rfl, hr⟩ := hr
  obtain ⟨N, hN⟩ := Int.eq_ofNat_of_zero_le hok.m0
  have hN1 := hok.m1
  have hn : s.n = N + 1 := by simp [Syst.n, hN]
  have hoka := hok.arcs
  rw [hn] at hoka
  rw [hN]
  refine Cl.of Tryz.func114 rfl Tryz.ntmps114 (by simp) (args_cons (k := 0) rfl (args0)) ?_
  refine .regSeq ?_
  refine .o (.box hs rfl rfl ?_); intro b1 w hs
  refine .z zg (.nil ?_)
  refine .seq (.draw mix rfl hs ?_); intro w hs
  refine .z 0 rfl (zfa fa_api_System_0) ?_; refine .y 1 rfl hs Tryz.isAgg3 ?_; refine .ys 2 rfl hs [_, _] Tryz.isAgg24 Tryz.sizeOf24 ?_
  refine .e1 (i := 3) (by kernel_rfl) rfl rfl .none hs ?_
  refine .call Tryz.call172 rfl (bound_steps_spec (s := s) hs hok ⟨u, by rw [hN], hr⟩) ?_; rintro _ w ⟨H1, b10, hle1, rfl, hit, hs⟩
  refine .go ?_
  refine .e1 (i := 4) (by kernel_rfl) rfl rfl .none hs ?_
  refine .call Tryz.call171 rfl (bound_nearest_spec hs (by omega) hoka hit Tryz.call196) ?_; rintro _ w ⟨H2, bc, bb, st, ov, vo, hle2, rfl, hov, hnr, hs⟩
  obtain ⟨a', rfl, ha'⟩ := hov.ptr
  refine .go ?_
  refine .z 5 rfl zm ?_; refine .z 6 rfl zex ?_; refine .z 7 rfl zex ?_; refine .z 8 rfl zex ?_; refine .z 9 rfl zg ?_; refine .z 10 rfl zg ?_; refine .z 11 rfl zg ?_; refine .done (by kernel_rfl) hs ?_
  refine .regSeq (.z zm ?_)
  refine .q hs (q_eqPN rfl rfl Tryz.runUnderlying189) ?_
  refine .z zg (.nil ?_)
  refine .ret (Fin.ret1 Tryz.results114 rfl ?_)
  refine ⟨H2, _, hle1.trans hle2, rfl, ?_, hs.out⟩
  obtain ⟨r, hN2, hr2⟩ := hnr
  cases ov with
  | none =>
    rw [ha']
    exact ⟨fun _ => ⟨_, (hN2.sol hoka (by omega)).1⟩, fun _ => rfl⟩
  | some x =>
    rw [ha']
    exact ⟨fun h => (by cases h), fun h => (hN2.none hoka (by omega) (by have := hr2 (by simp); omega) h).elim⟩
end Go.Proofs.YtiiokdeehlfeeaaGreat

namespace Go.Proofs.YtiiokdeehlfeeaaGreat
open Go.MW
theorem math_bits_Mul64_one {H : Heap} {w : World} {σ : List Ent} {c : Int} (hs : St H w σ) (hc : 0 ≤ c ∧ c < 4294967296) : Cl Tryz.prog 210 [.int .u64 1, .int .u64 c] w fun v w' => v = .tuple #[.int .u64 0, .int .u64 c] ∧ St H w' σ := by
  refine Cl.of Tryz.func210 rfl Tryz.ntmps210 (by simp) (args_cons (k := 0) rfl (args_cons (k := 1) rfl (args0))) ?_
  refine .regSeq (.z zg (.z zg (.nil (.regSeq (.z zm ?_)))))
  first | refine .q hs (q_low rfl rfl ⟨by omega, by omega⟩) ?_ | refine .q hs (q_bits rfl rfl) ?_
  refine .z zg (.nil (.regSeq (.z zm ?_)))
  first | refine .q hs (q_high rfl rfl ⟨by omega, by omega⟩) ?_ | refine .q hs (q_shr rfl rfl (by decide)) ?_
  refine .z zg (.nil (.regSeq (.z zm ?_)))
  first | refine .q hs (q_low rfl rfl ⟨by omega, by omega⟩) ?_ | refine .q hs (q_bits rfl rfl) ?_
  refine .z zg (.nil (.regSeq (.z zm ?_)))
  first | refine .q hs (q_high rfl rfl ⟨by omega, by omega⟩) ?_ | refine .q hs (q_shr rfl rfl (by decide)) ?_
  refine .z zg (.nil (.regSeq (.z zm (.z zm (.z zmul (.z zg (.nil (.regSeq (.z zm ?_)))))))))
  refine .z zm (.z zmul (.z zm ?_))
  first | refine .q hs (q_high rfl rfl ⟨by omega, by omega⟩) ?_ | refine .q hs (q_shr rfl rfl (by decide)) ?_
  refine .z zadd (.z zg (.nil (.regSeq (.z zm ?_))))
  first | refine .q hs (q_low rfl rfl ⟨by omega, by omega⟩) ?_ | refine .q hs (q_bits rfl rfl) ?_
  refine .z zg (.nil (.regSeq (.z zm ?_)))
  first | refine .q hs (q_high rfl rfl ⟨by omega, by omega⟩) ?_ | refine .q hs (q_shr rfl rfl (by decide)) ?_
  refine .z zg (.nil (.regSeq (.z zm (.z zm (.z zm (.z zmul (.z zadd (.z zg (.nil ?_)))))))))
  refine .regSeq (.z zm (.z zm (.z zmul (.z zm (.z zadd (.z zm ?_))))))
  first | refine .q hs (q_high rfl rfl ⟨by omega, by omega⟩) ?_ | refine .q hs (q_shr rfl rfl (by decide)) ?_
  refine .z zadd (.z zg (.nil (.regSeq (.z zm (.z zm (.z zmul (.z zg (.nil ?_))))))))
  refine .ret (Fin.ret2 Tryz.results210 rfl rfl ?_)
  exact ⟨by simp, hs⟩
theorem math_bits_Mul_one {H : Heap} {w : World} {σ : List Ent} {c : Int} (hs : St H w σ) (hc : 0 ≤ c ∧ c < 4294967296) : Cl Tryz.prog 197 [.int .u64 1, .int .u64 c] w fun v w' => v = .tuple #[.int .u64 0, .int .u64 c] ∧ St H w' σ := by
  refine Cl.of Tryz.func197 rfl Tryz.ntmps197 (by simp) (args_cons (k := 0) rfl (args_cons (k := 1) rfl (args0))) ?_
  refine .regSeq (.z zg (.z zg (.nil ?_)))
  refine .seq (.condF rfl rfl ?_)
  refine .skip ?_
  refine nT ?_
  refine .regSeq (.z zm (.z zm ?_))
  refine .o (.call Tryz.call210 rfl (math_bits_Mul64_one hs hc) ?_); rintro _ w ⟨rfl, hs⟩
  refine .z zm (.z zex (.z zex (.z zg (.z zg (.nil (.regSeq (.z zm (.z zm (.z zg ?_)))))))))
  refine .z zg (.nil ?_)
  refine .ret (Fin.ret2 Tryz.results197 rfl rfl ?_)
  exact ⟨rfl, hs⟩
theorem fill_step {c k : Nat} {z : Int} : let n := min k (c - k); (List.replicate k z ++ List.replicate (c - k) 0).take k ++ List.replicate n z ++ (List.replicate k z ++ List.replicate (c - k) 0).drop (k + n) = List.replicate (k + n) z ++ List.replicate (c - (k + n)) (0 : Int) := by
  intro n
  have hn : n ≤ c - k := Nat.min_le_right _ _
  have e0 : (List.replicate k z).length = k := by simp
  rw [List.take_left' e0]
  have e1 : (List.replicate k z ++ List.replicate (c - k) 0).drop (k + n) = List.replicate (c - (k + n)) (0 : Int) := by
    rw [show k + n = (List.replicate k z).length + n by simp, List.drop_append]
    simp
    omega
  rw [e1, List.replicate_append_replicate]
theorem slices_Repeat_int {H : Heap} {w : World} {σ : List Ent} {z : Int} {bx c : Nat} (hs : St H w σ) (hm : Mem σ (.blk bx (Is [z]))) (h1 : 1 ≤ c) (h2 : c ≤ 1000000) : Cl Tryz.prog 176 [.slice (some ⟨bx, 0, none⟩) 1 1, I c] w fun v w' => ∃ b, v = .slice (some ⟨b, 0, none⟩) c c ∧ St H w' (.blk b (Is (List.replicate c z)) :: σ) := by
  refine Cl.of Tryz.func176 rfl Tryz.ntmps176 (by simp) (args_cons (k := 0) rfl (args_cons (k := 1) rfl (args0))) ?_
  refine .regSeq (.z zg (.nil (.seq (.regSeq (.z zm (.z zlss (.nil ?_)))))))
  refine (.condD rfl (fun hc10 => ?_) (fun hc10 => ?_))
  · omega
  · refine .skip ?_
    refine nT ?_
    refine .regSeq (.z zm (.z (zlen Tryz.runUnderlying25) ?_))
    first | refine .q hs (q_convI rfl Tryz.runUnderlying3 Tryz.runUnderlying106 ⟨by omega, by omega⟩) ?_ | refine .q hs (q_convU rfl Tryz.runUnderlying3 Tryz.runUnderlying106 ⟨by omega, by omega⟩) ?_ | refine .q hs (q_conv rfl Tryz.runUnderlying3 Tryz.runUnderlying106) ?_
    refine .z zm ?_
    first | refine .q hs (q_convI rfl Tryz.runUnderlying3 Tryz.runUnderlying106 ⟨by omega, by omega⟩) ?_ | refine .q hs (q_convU rfl Tryz.runUnderlying3 Tryz.runUnderlying106 ⟨by omega, by omega⟩) ?_ | refine .q hs (q_conv rfl Tryz.runUnderlying3 Tryz.runUnderlying106) ?_
    refine .o (.call Tryz.call197 rfl (math_bits_Mul_one (c := c) hs (by omega)) ?_); rintro _ w ⟨rfl, hs⟩
    refine .z zm (.z zex (.z zex (.z zg (.z zg (.nil (.seq (.regSeq (.z zm (.z zgtr ?_)))))))))
    refine .z zm ?_
    refine .bifD (t' := 23) rfl (fun hb23 => ?_) (fun hb23 => ?_)
    · refine .gFs 2 2 false rfl rfl rfl ?_
      refine .z zpT (.nil ?_)
      refine (.condT rfl rfl ?_)
      first | omega | (simp at hc26; omega)
    · refine .gT rfl rfl ?_
      refine .z zm ?_
      refine .gT rfl rfl ?_
      refine .z zgtr (.z zpF (.nil ?_))
      refine (.condD rfl (fun hc26 => ?_) (fun hc26 => ?_))
      · first | omega | (simp at hc26; omega)
      · refine .skip ?_
        refine nT ?_
        refine .regSeq (.z zm ?_)
        first | refine .q hs (q_convI rfl Tryz.runUnderlying106 Tryz.runUnderlying3 ⟨by omega, by omega⟩) ?_ | refine .q hs (q_convU rfl Tryz.runUnderlying106 Tryz.runUnderlying3 ⟨by omega, by omega⟩) ?_ | refine .q hs (q_conv rfl Tryz.runUnderlying106 Tryz.runUnderlying3) ?_
        refine .o (.makeI c hs rfl rfl Tryz.runUnderlying25 Tryz.typeInfo3 rfl Tryz.sizeOf3 Tryz.zeroValue3 (by omega) ?_); intro b30 w hs
        refine .z zg (.nil (.regSeq (.z zm (.z zm ?_))))
        refine .o (.copyI (k := 1) (xs := List.replicate c 0) (zs := [z]) hs rfl rfl ⟨_, _, rfl⟩ Tryz.runUnderlying25 Tryz.sizeOf3 (by omega) rfl (first_own (xs := [z]) (.there hm) rfl rfl) (by simp; omega) ?_); intro w hs
        refine .z zg (.nil (.seq (.block ?_)))
        refine .loop (fun k : Nat => ⟨48, [], [(8, I k), (7, .slice (some ⟨b30, 0, none⟩) c c)]⟩) (fun k w => (1 ≤ k ∧ k ≤ c) ∧ St H w (.blk b30 (Is (List.replicate k z ++ List.replicate (c - k) 0)) :: σ)) (fun k => c - k) 1 (by repeat (first | exact .nil rfl rfl | refine .cons rfl ?_)) ⟨⟨by omega, by omega⟩, by
            have e : List.take 0 (List.replicate c (0 : Int)) ++ [z] ++ List.drop (0 + 1) (List.replicate c 0) = List.replicate 1 z ++ List.replicate (c - 1) 0 := by simp
            rw [e] at hs; exact hs⟩ ?_
        rintro k w ⟨⟨k1, k2⟩, hs⟩
        refine .seq (.regSeq (.z zm (.z zm (.z (zlen Tryz.runUnderlying25) (.z zlss (.nil ?_))))))
        refine (.condD rfl (fun hc37 => ?_) (fun hc37 => ?_))
        · refine .skip ?_
          refine nT ?_
          refine .block ?_
          refine .draw mix rfl hs ?_; intro w hs
          refine .z 0 rfl zm ?_; refine .z 1 rfl zm ?_; refine .z 2 rfl zm ?_
          refine .p (i := 3) rfl (by kernel_rfl) .none (q_sliceLI (k := k) rfl rfl Tryz.runUnderlying25 Tryz.sizeOf3 (by omega) (by omega)) ?_
          refine .z 4 rfl zm ?_; refine .z 5 rfl zm ?_
          refine .p (i := 6) rfl (by kernel_rfl) .none (q_sliceHI (k := k) rfl rfl Tryz.runUnderlying25 Tryz.sizeOf3 (by omega)) ?_
          refine .e1 (i := 7) (by kernel_rfl) rfl rfl .none hs ?_
          refine .copyI (k := min k (c - k)) (xs := List.replicate k z ++ List.replicate (c - k) 0) (zs := List.replicate (min k (c - k)) z) hs rfl rfl ⟨_, _, rfl⟩ Tryz.runUnderlying25 Tryz.sizeOf3 rfl (by simp) (first_own (xs := List.replicate k z ++ List.replicate (c - k) 0) .here (by rw [List.drop_zero, List.take_append_of_le_length (by simp; omega)]; simp) (by simp)) (by simp; omega) ?_; intro w hs
          refine .go ?_
          refine .z 8 rfl zadd ?_; refine .z 9 rfl zg ?_; refine .done (by kernel_rfl) hs ?_
          refine nB (nT ?_)
          exact ⟨k + min k (c - k), by repeat (first | exact .nil rfl rfl | refine .cons rfl ?_), ⟨⟨by omega, by omega⟩, by
              have e := fill_step (z := z) (c := c) (k := k)
              simp only [Nat.mul_one, Nat.zero_add] at hs
              rw [e] at hs; exact hs⟩, by omega⟩
        · refine .exit ?_
          refine xT (xT (xB (nT ?_)))
          refine .regSeq (.z zm (.z zg (.nil ?_)))
          refine .ret (Fin.ret1 Tryz.results176 rfl ?_)
          obtain rfl : k = c := by omega
          exact ⟨b30, rfl, by simpa using hs⟩
theorem slices_Clone_intN {H : Heap} {w : World} {σ : List Ent} {v : Value} {xs : List Int} (hs : St H w σ) (hr : RI H v xs) (hx : xs.length ≤ 17592186044416) : Cl Tryz.prog 81 [v] w fun u w' => ∃ en, (nnil v = true → nnil u = true) ∧ OwnS 1 u (Is xs) en ∧ St H w' (en :: σ) := by
  obtain ⟨a, c, rfl⟩ := RI.shape hr
  have hl := (RI.len hr).2.2
  refine Cl.of Tryz.func81 rfl Tryz.ntmps81 (by simp) (args_cons (k := 0) rfl (args0)) ?_
  refine .regSeq (.z zg (.nil (.seq (.regSeq (.z zm ?_)))))
  refine .q hs (q_eqSN rfl rfl Tryz.runUnderlying25) ?_
  refine .nil ?_
  refine (.cond rfl (fun hc4 => ?_) (fun hc4 => ?_))
  · refine .regSeq (.z zg (.nil ?_))
    refine .ret (rT (Fin.ret1 Tryz.results81 rfl ?_))
    obtain rfl : a = none := by simpa using hc4
    obtain rfl := hr.nilOf
    exact ⟨.nul, fun h => h, .nil 1 none, hs.nul⟩
  · refine .skip ?_
    refine nT ?_
    refine .regSeq ?_
    refine .o (.buildSlice (cells := []) hs bls_sl_int_0 rfl rfl ?_); intro b5 w hs
    refine .z zm ?_
    refine .o (.appendN (xs := []) (ys := Is xs) hs app_sl_int_int rfl rfl (.full rfl) (.ints hr) (by simp [Value.oneCell']) (fun l h => by simp at h; omega) ?_); intro v7 en7 w hnn hO hs
    refine .z zg (.nil ?_)
    refine .ret (Fin.ret1 Tryz.results81 rfl ?_)
    exact ⟨en7, fun _ => hnn rfl, hO, hs⟩
theorem slices_Clone_int {H : Heap} {w : World} {σ : List Ent} {v : Value} {xs : List Int} (hs : St H w σ) (hr : RI H v xs) (hx : xs.length ≤ 17592186044416) : Cl Tryz.prog 81 [v] w fun v w' => ∃ en, OwnS 1 v (Is xs) en ∧ St H w' (en :: σ) :=
  (slices_Clone_intN hs hr hx).mono fun _ _ ⟨en, _, h⟩ => ⟨en, h⟩
theorem slices_Reverse_step {H : Heap} {w : World} {σ : List Ent} {v : Value} {l : List Arc} {en : Ent} (hs : St H w (en :: σ)) (ho : OwnS 4 v (Arcs l) en) (hl : l.length ≤ 1000000) :
    Cl Tryz.prog 212 [v] w fun _ w' => ∃ en', OwnS 4 v (Arcs l.reverse) en' ∧ St H w' (en' :: σ) := by
  rcases ho with ⟨a, rfl, h2, rfl⟩ | ⟨b, len, cap, sp, rfl, rfl, h2, h3, h4⟩
  · obtain rfl : l = [] := by
      have := congrArg List.length h2
      rw [Arcs_length] at this
      exact List.length_eq_zero_iff.1 (by simp at this; omega)
    have hs := hs.tail
    refine Cl.of Tryz.func212 rfl Tryz.ntmps212 (by simp) (args_cons (k := 0) rfl (args0)) ?_
    refine .regSeq (.z zm (.z (zlen Tryz.runUnderlying188) (.z zsub (.z zg (.z zg (.nil (.block ?_)))))))
    refine .loop (fun _ : Unit => ⟨28, [], [(2, I 0), (3, I (-1))]⟩) (fun _ w => St H w σ) (fun _ => 0) () (by repeat (first | exact .nil rfl rfl | refine .cons rfl ?_)) hs ?_
    rintro _ w hs
    refine .seq (.regSeq (.z zm (.z zm (.z zlss (.nil ?_)))))
    refine (.condD rfl (fun hc9 => ?_) (fun hc9 => ?_))
    · omega
    · refine .exit ?_
      refine xT (xT (xB ?_))
      exact Fin.end0 Tryz.results212 ⟨.nul, .nil 4 a, hs.nul⟩
  obtain rfl : len = l.length := by rw [Arcs_length] at h2; omega
  refine Cl.of Tryz.func212 rfl Tryz.ntmps212 (by simp) (args_cons (k := 0) rfl (args0)) ?_
  refine .regSeq (.z zm (.z (zlen Tryz.runUnderlying188) (.z zsub (.z zg (.z zg (.nil (.block ?_)))))))
  refine .loop (fun p : Nat × List Arc => ⟨28, [], [(2, I p.1), (3, I ((l.length : Int) - 1 - p.1)), (0, .slice (some ⟨b, 0, none⟩) l.length cap)]⟩) (fun p w => (2 * p.1 ≤ l.length + 1 ∧ Turned l p.2 p.1) ∧ St H w (.blk b (Arcs p.2 ++ sp) :: σ)) (fun p => l.length - p.1) (0, l) (.cons rfl (.consI rfl (by simp) (.cons rfl (.nil rfl rfl)))) ⟨⟨by simp, .start l⟩, hs⟩ ?_
  rintro ⟨i, L⟩ w ⟨⟨h5, h6⟩, hs⟩
  dsimp only at h5 h6 hs ⊢
  have hL := h6.1
  refine .seq (.regSeq (.z zm (.z zm (.z zlss (.nil ?_)))))
  refine (.condD rfl (fun hc9 => ?_) (fun hc9 => ?_))
  · refine .skip ?_
    refine nT ?_
    refine .seq (.block ?_)
    refine .draw mix rfl hs ?_; intro w hs
    refine .z 0 rfl zm ?_; refine .z 1 rfl zm ?_; refine .z 2 rfl zm ?_; refine .z 3 rfl zm ?_; refine .z 4 rfl zm ?_; refine .z 5 rfl zm ?_
    refine .p (i := 6) rfl (by kernel_rfl) .none (q_ixOm (k := l.length - 1 - i) rfl rfl Tryz.runUnderlying188 Tryz.sizeOf197 (by omega) (by omega)) ?_
    refine .loads (i := 7) (vs := (ga L (l.length - 1 - i)).v) hs rfl (by kernel_rfl) .none rfl Tryz.isAgg197 Tryz.sizeOf197 ?_ (hv := Arcs_sub_sp (by omega) sp)
    refine .z 8 rfl zm ?_; refine .z 9 rfl zm ?_
    first | (refine .ixw 10 rfl hs Tryz.runUnderlying188 Tryz.sizeOf197 ?_; intro b24 o24 hc24) | refine .z 10 rfl (zixm Tryz.runUnderlying188 Tryz.sizeOf197) ?_
    refine .loads (i := 11) (vs := (ga L i).v) hs rfl (by kernel_rfl) .none rfl Tryz.isAgg197 Tryz.sizeOf197 ?_ (hv := Arcs_sub_sp (by omega) sp)
    first | (refine .ixw 12 rfl hs Tryz.runUnderlying188 Tryz.sizeOf197 ?_; intro b26 o26 hc26) | refine .z 12 rfl (zixm Tryz.runUnderlying188 Tryz.sizeOf197) ?_
    refine .e1 (i := 13) (by kernel_rfl) rfl rfl .none hs ?_
    refine .stores (vs := (ga L (l.length - 1 - i)).v) hs rfl rfl Tryz.sizeOf197 ?_ (by repeat constructor) (ble_Arcs_sp (by omega) sp) (setL_Arcs_sp (by omega) _ sp); intro w hs
    refine .go ?_
    refine .p (i := 14) rfl (by kernel_rfl) .none (q_ixOm (k := l.length - 1 - i) rfl rfl Tryz.runUnderlying188 Tryz.sizeOf197 (by omega) (by omega)) ?_
    refine .e1 (i := 15) (by kernel_rfl) rfl rfl .none hs ?_
    refine .stores (vs := (ga L i).v) hs rfl rfl Tryz.sizeOf197 ?_ (by repeat constructor) (ble_Arcs_sp (by simp; omega) sp) (setL_Arcs_sp (by simp; omega) _ sp); intro w hs
    refine .go ?_
    refine .done (by kernel_rfl) hs ?_
    refine nB (nT ?_)
    refine .region (.z zm (.z zadd (.z zm (.z zsub (.z zg (.z zg (.nil ?_)))))))
    refine nT ?_
    exact ⟨(i + 1, _), .cons rfl (.consI rfl (by push_cast; omega) (.cons rfl (.nil rfl rfl))), ⟨⟨by dsimp only; omega, h6.step (by omega)⟩, hs⟩, by dsimp only; omega⟩
  · refine .exit ?_
    refine xT (xT (xB ?_))
    rw [h6.done (by omega)] at hs
    exact Fin.end0 Tryz.results212 ⟨_, .inr ⟨b, l.length, cap, sp, rfl, rfl, by rw [Arcs_length]; simp, by rw [← h3]; simp [Arcs_length], h4⟩, hs⟩
end Go.Proofs.YtiiokdeehlfeeaaGreat

namespace Go.Proofs.YtiiokdeehlfeeaaGreat
open Go.MW
theorem bound_flow_rest_1_iter {H : Heap} {b1 bf bt bl cl : Nat} {s : Syst} {ts lf : List Int} {vl : Value} {sp : List Value} (hok : s.Ok) (hb : Row H b1 [.pointer (some ⟨bf, 0, none⟩)]) (hF : FlowH H bf s ts lf vl bt bl cl sp) (hlt : ts.length = s.lims.length) :
    ItA Tryz.prog 211 [.pointer (some ⟨b1, 0, none⟩)] H (resid s.arcs ts) := by
  intro l II Ix hmI hmX hy H0 σb0 σf w hle hI0 hs
  have hb0 : cellAt H0 b1 0 = some (.pointer (some ⟨bf, 0, none⟩)) := (hb.mono hle).at 0
  have hF0 := hF.mono hle
  have hsys := hF0.f.cells 0 [I s.many, vl]
  have hlen : s.arcs.length = ts.length := by simp [Syst.arcs, arcsOf_length, hlt]
  refine Cl.of Tryz.func211 rfl Tryz.ntmps211 (by simp) (args_cons (k := 0) rfl (args_cons (k := 1) rfl (args0))) ?_
  refine .regSeq ?_
  refine .o (.box hs rfl rfl ?_); intro b2 w hs
  refine .nil (.regSeq (.y hs (zld Tryz.isAgg171) (.z znc (.z (zfa fa_bound_flow_0) ?_))))
  refine .q hs (q_loadsR (vs := [I s.many, vl]) rfl Tryz.isAgg24 Tryz.sizeOf24 hsys) ?_
  refine .o (.call Tryz.call172 rfl (bound_steps_spec (s := s) hs hok ⟨vl, rfl, hF0.l⟩) ?_); rintro _ w ⟨H1, b8, hle1, rfl, hit, hs⟩
  refine .nil (.block ?_)
  refine .rangeFunc (gf := 196) (cap := [.pointer (some ⟨b8, 0, none⟩)]) (xs := s.arcs.map fun x : Arc => [Value.agg x.v.toArray]) (σb := .blk b2 [.func (.yield l) #[] #[]] :: σb0) (σf := σf) hs trivial rfl hit Tryz.call196 (by simp) rfl
    (I := fun k H' σb => ∃ σo, σb = .blk b2 [.func (.yield l) #[] #[]] :: σo ∧ HLe H0 H' ∧ II (preN s.arcs ts k) H' σo)
    (Ix := fun c H' σb => c = .ret ∧ ∃ σo, σb = .blk b2 [.func (.yield l) #[] #[]] :: σo ∧ HLe H0 H' ∧ Ix H' σo)
    (fun k _ _ σ g1 ⟨σo, g2, g3, g4⟩ => ⟨σo, g2, g3.trans g1, hmI _ _ _ _ g1 g4⟩) (fun c _ _ σ g1 ⟨g0, σo, g2, g3, g4⟩ => ⟨g0, σo, g2, g3.trans g1, hmX _ _ _ g1 g4⟩)
    ⟨σb0, rfl, hle1, by rw [preN_zero]; exact hmI _ _ _ _ hle1 hI0⟩ ?_ ?_ ?_
  · rintro l2 k hk H2 σb2 σf2 w hle2 ⟨σo, rfl, hle0, hIk⟩ hs ⟨rr, hrr⟩
    obtain ⟨x, hx⟩ := nth (l := s.arcs) (by simpa using hk)
    obtain ⟨c1, c2, c3, c4, c5, c6⟩ := hok.arcs.2 x (List.mem_of_getElem? hx)
    have hxk : (s.arcs.map fun x => [Value.agg x.v.toArray])[k] = [.agg x.v.toArray] := by rw [List.getElem_map]; rw [List.getElem?_eq_some_iff] at hx; obtain ⟨h1, h2⟩ := hx; rw [h2]
    rw [hxk]
    have hkt : k < ts.length := by rw [← hlen]; simpa using hk
    have hxl : x.l = (k : Int) := arcsOf_l hx
    obtain ⟨r1, r2, r3⟩ := resid_get (ts := ts) hx hkt
    refine .region ?_
    refine .o (.alloc hs Tryz.zeroValue197 rfl ?_); intro b3 w hs
    refine .o (.stores (vs := x.v) hs rfl rfl Tryz.sizeOf197 ?_); intro w hs
    refine .nil ?_
    refine nT ?_
    refine ⟨H2, .blk b3 x.v :: .blk b2 [.func (.yield l) #[] #[]] :: σo, HLe.refl _, hs, ?_⟩; rintro w σf2 - hs
    refine .block (.seq (.regSeq ?_))
    refine .y hs (zld Tryz.isAgg212) ?_
    refine .q hs (q_loads (vs := x.v) rfl Tryz.isAgg197 Tryz.sizeOf197) ?_
    have hyd := hy (preN s.arcs ts k) (by simpa using (List.getElem?_eq_some_iff.1 r1).1) H2 σo (.blk b3 x.v :: .blk b2 [.func (.yield l) #[] #[]] :: σf2) w (hle.trans hle0) hIk (St.deep (σ1 := σo) (St.deep (σ1 := .blk b3 x.v :: σo) (hs.perm (.swap _ _ _))))
    rw [map_at r1] at hyd
    refine .o (.yield (vs := [.agg x.v.toArray]) rfl rfl hyd ?_); rintro v12 w ⟨H3, σ3, hle3, hs, g3⟩
    obtain ⟨bb, rfl, gT, gF⟩ := yd_bool g3
    replace hs : St H3 w (.blk b3 x.v :: .blk b2 [.func (.yield l) #[] #[]] :: (σ3 ++ σf2)) := (St.shallow (σ1 := .blk b3 x.v :: σ3) (St.shallow (σ1 := σ3) hs)).perm (.swap _ _ _)
    refine .z znot (.nil ?_)
    refine (.cond rfl (fun hc13 => ?_) (fun hc13 => ?_))
    · refine .ret (rT (rB (?_)))
      exact ⟨H3, .blk b2 [.func (.yield l) #[] #[]] :: σ3, hle3, hs.tail, rfl, σ3, rfl, hle0.trans hle3, gF (by simpa using hc13)⟩
    · refine .skip ?_
      refine nT ?_
      refine .seq (.draw mix rfl hs ?_); intro w hs
      have hb3 : cellAt H3 b1 0 = some (.pointer (some ⟨bf, 0, none⟩)) := cellAt.mono hb0 (hle0.trans hle3)
      have hf3 : cellAt H3 bf 2 = some (.slice (some ⟨bt, 0, none⟩) ts.length ts.length) := ((hF0.mono (hle0.trans hle3)).f).at 2
      have ht3 : cellAt H3 bt k = some (I (gi ts k)) := ((hF0.mono (hle0.trans hle3)).t).at k (Is_gi hkt)
      have hI3 := gT (by simpa using hc13)
      refine .r (i := 0) hs rfl (by kernel_rfl) .none (q_loadR rfl Tryz.isAgg171 hb3) ?_
      refine .z 1 rfl znc ?_; refine .z 2 rfl (zfa fa_bound_flow_1) ?_; refine .y 3 rfl hs Tryz.isAgg25 ?_; refine .z 4 rfl (zfa fa_bound_step_3) ?_; refine .y 5 rfl hs Tryz.isAgg3 ?_
      refine .p (i := 6) rfl (by kernel_rfl) .none (q_ixO (k := k) rfl rfl Tryz.runUnderlying25 Tryz.sizeOf3 hxl hkt) ?_
      refine .r (i := 7) hs rfl (by kernel_rfl) .none (q_loadR rfl Tryz.isAgg3 ht3) ?_
      refine .z 8 rfl zgtr ?_; refine .z 9 rfl zm ?_
      refine .bifD (t' := 23) rfl (fun hb23 => ?_) (fun hb23 => ?_)
      · refine .y 10 rfl hs Tryz.isAgg212 ?_
        refine .z 11 rfl (zfa fa_bound_step_1) ?_; refine .y 12 rfl hs Tryz.isAgg3 ?_; refine .z 13 rfl (zfa fa_bound_step_0) ?_; refine .y 14 rfl hs Tryz.isAgg3 ?_; refine .z 15 rfl (zfa fa_bound_step_2) ?_; refine .y 16 rfl hs Tryz.isAgg3 ?_; refine .z 17 rfl zneg ?_; refine .z 18 rfl (zfa fa_bound_step_3) ?_; refine .y 19 rfl hs Tryz.isAgg3 ?_; refine .z 20 rfl (zbd [_, _, _, _] bld_bound_step) ?_
        refine .e1 (i := 21) (by kernel_rfl) rfl rfl (.some rfl rfl) hs ?_
        obtain ⟨r4, r5⟩ := r2 hb23
        have hyd := hy (preN s.arcs ts k + 1) (by simpa using (List.getElem?_eq_some_iff.1 r4).1) H3 σ3 (.blk b3 x.v :: .blk b2 [.func (.yield l) #[] #[]] :: σf2) w (hle.trans (hle0.trans hle3)) hI3 (St.deep (σ1 := σ3) (St.deep (σ1 := .blk b3 x.v :: σ3) (hs.perm (.swap _ _ _))))
        rw [map_at r4] at hyd
        refine .yield (vs := [.agg x.back.v.toArray]) rfl rfl hyd ?_; rintro v35 w ⟨H4, σ4, hle4, hs, g4⟩
        obtain ⟨bb4, rfl, gT4, gF4⟩ := yd_bool g4
        replace hs : St H4 w (.blk b3 x.v :: .blk b2 [.func (.yield l) #[] #[]] :: (σ4 ++ σf2)) := (St.shallow (σ1 := .blk b3 x.v :: σ4) (St.shallow (σ1 := σ4) hs)).perm (.swap _ _ _)
        refine .go ?_
        refine .z 22 rfl znot ?_; refine .z 23 rfl zpT ?_; refine .done (by kernel_rfl) hs ?_
        refine (.cond rfl (fun hc37 => ?_) (fun hc37 => ?_))
        · refine .ret (rB (?_))
          exact ⟨H4, .blk b2 [.func (.yield l) #[] #[]] :: σ4, hle3.trans hle4, hs.tail, rfl, σ4, rfl, hle0.trans (hle3.trans hle4), gF4 (by simpa using hc37)⟩
        · refine .skip ?_
          refine nB ?_
          exact ⟨H4, .blk b2 [.func (.yield l) #[] #[]] :: σ4, hle3.trans hle4, hs.tail, σ4, rfl, hle0.trans (hle3.trans hle4), by rw [r5]; exact gT4 (by simpa using hc37)⟩
      · refine .qF (i := 10) rfl (by kernel_rfl) rfl rfl ?_
        refine .qF (i := 11) rfl (by kernel_rfl) rfl rfl ?_
        refine .qF (i := 12) rfl (by kernel_rfl) rfl rfl ?_
        refine .qF (i := 13) rfl (by kernel_rfl) rfl rfl ?_
        refine .qF (i := 14) rfl (by kernel_rfl) rfl rfl ?_
        refine .qF (i := 15) rfl (by kernel_rfl) rfl rfl ?_
        refine .qF (i := 16) rfl (by kernel_rfl) rfl rfl ?_
        refine .qF (i := 17) rfl (by kernel_rfl) rfl rfl ?_
        refine .qF (i := 18) rfl (by kernel_rfl) rfl rfl ?_
        refine .qF (i := 19) rfl (by kernel_rfl) rfl rfl ?_
        refine .qF (i := 20) rfl (by kernel_rfl) rfl rfl ?_
        refine .qF (i := 21) rfl (by kernel_rfl) rfl rfl ?_
        refine .qF (i := 22) rfl (by kernel_rfl) rfl rfl ?_
        refine .z 23 rfl zpF ?_; refine .done (by kernel_rfl) hs ?_
        refine (.condF rfl rfl ?_)
        refine .skip ?_
        refine nB ?_
        exact ⟨H3, .blk b2 [.func (.yield l) #[] #[]] :: σ3, hle3, hs.tail, σ3, rfl, hle0.trans hle3, by rw [r3 hb23]; exact hI3⟩
  · rintro D H2 σb2 w hle2 ⟨σo, rfl, hle0, hIk⟩ hs
    refine nB ?_
    exact Fin.endD [D] [] hs.shallowD fun w hs => ⟨_, results0 Tryz.results211, H2, σo, hle0, hs, .inl (by simpa [preN_end hlen] using hIk)⟩
  · rintro D c H2 σb2 w hle2 ⟨rfl, σo, rfl, hle0, hx⟩ hs
    exact .ret (rB (Fin.retD [D] [] hs.shallowD fun w hs => ⟨_, results0 Tryz.results211, H2, σo, hle0, hs, .inr hx⟩))
theorem bound_flow_rest_spec {H : Heap} {w : World} {σ : List Ent} {bf bt bl cl : Nat} {s : Syst} {ts lf : List Int} {vl : Value} {sp : List Value} (hs : St H w σ) (hok : s.Ok) (hF : FlowH H bf s ts lf vl bt bl cl sp) (hlt : ts.length = s.lims.length) :
    Cl Tryz.prog 198 [.pointer (some ⟨bf, 0, none⟩)] w fun v w' => ∃ H1 b, HLe H H1 ∧ v = .func (.func 211) #[] #[.pointer (some ⟨b, 0, none⟩)] ∧ ItA Tryz.prog 211 [.pointer (some ⟨b, 0, none⟩)] H1 (resid s.arcs ts) ∧ St H1 w' σ := by
  refine Cl.of Tryz.func198 rfl Tryz.ntmps198 (by simp) (args_cons (k := 0) rfl (args0)) ?_
  refine .regSeq ?_
  refine .o (.box hs rfl rfl ?_); intro b1 w hs
  refine .z zg (.nil (.regSeq ?_))
  refine .q hs (q_makeFunc (f := []) (c := [_]) rfl rfl) ?_
  refine .z zg (.nil ?_)
  refine .ret (Fin.ret1 Tryz.results198 rfl ?_)
  obtain ⟨H1, g1, g2, hs⟩ := hs.publish .here
  exact ⟨H1, b1, g1, rfl, bound_flow_rest_1_iter hok g2 (hF.mono g1) hlt, hs⟩
theorem bound_flow_way_spec {H : Heap} {w : World} {σ : List Ent} {bf bt bl cl to : Nat} {s : Syst} {ts lf : List Int} {vl : Value} {sp : List Value} (hs : St H w σ) (hok : s.Ok) (hF : FlowH H bf s ts lf vl bt bl cl sp) (hlt : ts.length = s.lims.length) (hll : lf.length = s.n)
    (hD : ∃ p, Feas (resid s.arcs ts) p) (hto : to < s.n) (hpos : 0 < gi lf to) :
    Cl Tryz.prog 202 [.pointer (some ⟨bf, 0, none⟩), I to] w fun v w' => ∃ H1 p en, HLe H H1 ∧ OwnS 4 v (Arcs p) en ∧ St H1 w' (en :: σ) ∧ WayR s.n s.arcs ts lf p to := by
  obtain ⟨N, hN⟩ := Int.eq_ofNat_of_zero_le hok.m0
  have hN1 := hok.m1
  have hn : s.n = N + 1 := by simp [Syst.n, hN]
  have hoka := hok.arcs
  have hlen : s.arcs.length = ts.length := by simp [Syst.arcs, arcsOf_length, hlt]
  rw [hn] at hoka hll hto ⊢
  obtain ⟨D, hg⟩ := resid_WG (by omega) (by omega) hoka hlen hD
  have hf0 : cellAt H bf 0 = some (I (N : Int)) := by have := hF.f.at 0 (v := I s.many); rwa [hN] at this
  have hf3 : cellAt H bf 3 = some (.slice (some ⟨bl, 0, none⟩) lf.length cl) := hF.f.at 3
  refine Cl.of Tryz.func202 rfl Tryz.ntmps202 (by simp) (args_cons (k := 0) rfl (args_cons (k := 1) rfl (args0))) ?_
  refine .regSeq ?_
  refine .o (.box hs rfl rfl ?_); intro b2 w hs
  refine .z zg (.nil (.regSeq ?_))
  refine .o (.buildSlice (cells := [_]) hs bls_sl_int_1 rfl rfl ?_); intro b13 w hs
  refine .y hs (zld Tryz.isAgg171) (.z znc (.z (zfa fa_bound_flow_0) (.z (zfa fa_api_System_0) (.y hs (zld Tryz.isAgg3) (.z zadd ?_)))))
  refine .o (.call Tryz.call176 rfl (slices_Repeat_int (z := far) (c := N + 1) hs .here (by omega) (by omega)) ?_); rintro _ w ⟨bc, rfl, hs⟩
  refine .o (.alloc hs Tryz.zeroValue25 rfl ?_); intro b5 w hs
  refine .o (.store hs rfl rfl Tryz.sizeOf25 ?_); intro w hs
  refine .nil (.regSeq (.y hs (zld Tryz.isAgg171) (.z znc (.z (zfa fa_bound_flow_0) (.z (zfa fa_api_System_0) (.y hs (zld Tryz.isAgg3) (.z zadd ?_)))))))
  refine .o (.makeA (N + 1) hs rfl rfl Tryz.runUnderlying188 Tryz.typeInfo197 rfl Tryz.sizeOf197 Tryz.zeroValue197 (by omega) ?_); intro b27 w hs
  refine .o (.alloc hs Tryz.zeroValue188 rfl ?_); intro b6 w hs
  refine .o (.store hs rfl rfl Tryz.sizeOf188 ?_); intro w hs
  refine .nil (.seq (.regSeq (.y hs (zld Tryz.isAgg171) (.z znc (.z (zfa fa_bound_flow_2) (.y hs (zld Tryz.isAgg25) (.z (zlen Tryz.runUnderlying25) (.z zm (.nil ?_)))))))))
  refine .for (N := lf.length) (J := fun k fr w => fr = [(31, .slice (some ⟨bl, 0, none⟩) lf.length cl), (5, .pointer (some ⟨b5, 0, none⟩)), (6, .pointer (some ⟨b6, 0, none⟩)), (2, .pointer (some ⟨b2, 0, none⟩)), (1, I to)] ∧ ∃ st, WInit (N + 1) lf k st ∧   St H w (.blk b6 [.slice (some ⟨b27, 0, none⟩) (N + 1) (N + 1)] :: .blk b27 (Arcs st.by_) :: .blk b5 [.slice (some ⟨bc, 0, none⟩) (N + 1) (N + 1)] :: .blk bc (Is st.cost) :: .blk b2 [.pointer (some ⟨bf, 0, none⟩)] :: σ)) (by omega) ?_ ?_ ?_
  · exact .mk ⟨rfl, _, .start _ _, hs.sub (by repeat (first | exact Sub.refl _ | constructor | apply Sub.weaken))⟩
  · rintro k fr w hk ⟨rfl, st, hI, hs⟩
    have hck : cellAt H bl k = some (I (gi lf k)) := hF.d.at k (Is_get (gi_get hk) sp)
    have hlc := hI.lc
    have hlb := hI.lb
    have hkb : k < st.by_.length := by omega
    refine .block (.regSeq (.z zm ?_))
    first | (refine .ixv hs Tryz.runUnderlying25 Tryz.sizeOf3 ?_; intro b36 o36 hc36) | refine .z (zix Tryz.runUnderlying25 Tryz.sizeOf3) ?_
    refine .q hs (q_loadR rfl Tryz.isAgg3 hck) ?_
    refine .z zg (.z zg (.nil (.regSeq (.z zm (.z zlss (.nil ?_))))))
    refine (.condD rfl (fun hc39 => ?_) (fun hc39 => ?_))
    · refine .regSeq (.y hs (zld Tryz.isAgg25) (.z zm ?_))
      first | (refine .ixv hs Tryz.runUnderlying25 Tryz.sizeOf3 ?_; intro b42 o42 hc42) | refine .z (zix Tryz.runUnderlying25 Tryz.sizeOf3) ?_
      refine .o (.store hs rfl rfl Tryz.sizeOf3 ?_); intro w hs
      refine .nil (.region (.y hs (zld Tryz.isAgg188) (.z zm ?_)))
      first | (refine .ixw hs Tryz.runUnderlying188 Tryz.sizeOf197 ?_; intro b45 o45 hc45) | refine .z (zixm Tryz.runUnderlying188 Tryz.sizeOf197) ?_
      refine .z (zfa fa_bound_step_3) ?_
      refine .o (.store hs rfl rfl Tryz.sizeOf3 ?_ (by repeat constructor) (blt_Arcs hkb (by omega)) (Arcs_set3 hkb _)); intro w hs
      refine .nil ?_
      refine nB (nT ?_)
      exact .mk ⟨rfl, _, hI.take (by omega) hc39, hs⟩
    · refine .skip ?_
      refine nB (nT ?_)
      exact .mk ⟨rfl, _, hI.skip hc39, hs⟩
  · rintro fr w ⟨rfl, st0, hI0, hs⟩
    rw [hll] at hI0
    have hW0 := hI0.inv hg
    refine nT ?_
    refine .seq (.regSeq ?_)
    refine .o (.alloc hs Tryz.zeroValue4 rfl ?_); intro b9 w hs
    refine .o (.store hs rfl rfl Tryz.sizeOf4 ?_); intro w hs
    refine .nil (.block ?_)
    refine .loop (fun p : Nat × List Nat × Heap × BS × Bool => ⟨141, marks p.2.1, [(9, .pointer (some ⟨p.1, 0, none⟩)), (5, .pointer (some ⟨b5, 0, none⟩)), (6, .pointer (some ⟨b6, 0, none⟩)), (2, .pointer (some ⟨b2, 0, none⟩)), (1, I to)]⟩)
      (fun p w => HLe H p.2.2.1 ∧ (∃ j, WInv (N + 1) (resid s.arcs ts) (fun v => gi lf v < 0) D j p.2.2.2.2 p.2.2.2.1 ∧ (p.2.2.2.2 = false → j = (resid s.arcs ts).length)) ∧
        St p.2.2.1 w (.blk p.1 [.bool p.2.2.2.2] :: .blk b6 [.slice (some ⟨b27, 0, none⟩) (N + 1) (N + 1)] :: .blk b27 (Arcs p.2.2.2.1.by_) :: .blk b5 [.slice (some ⟨bc, 0, none⟩) (N + 1) (N + 1)] :: .blk bc (Is p.2.2.2.1.cost) :: .blk b2 [.pointer (some ⟨bf, 0, none⟩)] :: (mes p.2.1 ++ σ)))
      (fun p => 2 * WM (N + 1) D p.2.2.2.1 + (if p.2.2.2.2 = true then 1 else 0)) (b9, [], H, st0, true) (by repeat (first | exact .nil rfl rfl | refine .cons rfl ?_)) ⟨HLe.refl _, ⟨0, hW0, fun h => by cases h⟩, hs⟩ ?_
    rintro ⟨b9, Ds, H1, st, ag⟩ w ⟨hle1, ⟨j, hW, hj⟩, hs⟩
    dsimp only at hle1 hW hj hs ⊢
    have hlc := hW.lc
    have hlb := hW.lb
    refine .seq (.regSeq (.y hs (zld Tryz.isAgg4) (.nil ?_)))
    refine (.cond rfl (fun hc48 => ?_) (fun hc48 => ?_))
    · refine .skip ?_
      refine nT ?_
      refine .seq (.block (.regSeq ?_))
      subst hc48
      refine .o (.store hs rfl rfl Tryz.sizeOf4 ?_); intro w hs
      refine .nil (.regSeq (.y hs (zld Tryz.isAgg171) ?_))
      refine .o (.call Tryz.call198 rfl (bound_flow_rest_spec hs hok (hF.mono hle1) hlt) ?_); rintro _ w ⟨H2, b50, hle2, rfl, hit, hs⟩
      refine .nil (.block ?_)
      refine .rangeFunc (gf := 211) (cap := [.pointer (some ⟨b50, 0, none⟩)]) (xs := (resid s.arcs ts).map fun x : Arc => [Value.agg x.v.toArray])
        (σb := [.blk b9 [.bool false], .blk b6 [.slice (some ⟨b27, 0, none⟩) (N + 1) (N + 1)], .blk b27 (Arcs st.by_), .blk b5 [.slice (some ⟨bc, 0, none⟩) (N + 1) (N + 1)], .blk bc (Is st.cost), .blk b2 [.pointer (some ⟨bf, 0, none⟩)]]) (σf := mes Ds ++ σ) hs trivial rfl hit Tryz.call211 (by simp) rfl
        (I := fun k H' σb => HLe H2 H' ∧ ∃ st' ag, σb = [.blk b9 [.bool ag], .blk b6 [.slice (some ⟨b27, 0, none⟩) (N + 1) (N + 1)], .blk b27 (Arcs st'.by_), .blk b5 [.slice (some ⟨bc, 0, none⟩) (N + 1) (N + 1)], .blk bc (Is st'.cost), .blk b2 [.pointer (some ⟨bf, 0, none⟩)]] ∧
          WInv (N + 1) (resid s.arcs ts) (fun v => gi lf v < 0) D k ag st' ∧ WM (N + 1) D st' ≤ WM (N + 1) D st ∧ (ag = true → WM (N + 1) D st' < WM (N + 1) D st)) (Ix := fun _ _ _ => False)
        (by rintro k _ _ σ g1 ⟨g2, g3⟩; exact ⟨g2.trans g1, g3⟩) (fun _ _ _ _ _ h => h) ⟨HLe.refl _, st, false, rfl, hW.next, Nat.le_refl _, fun h => by cases h⟩ ?_ ?_ (fun D c H' σb w _ h _ => h.elim)
      · rintro l k hk H3 σb3 σf3 w hle3 ⟨hle23, st', ag, rfl, hW', hm1, hm2⟩ hs ⟨rr, hrr⟩
        obtain ⟨x, hx⟩ := nth (l := resid s.arcs ts) (by simpa using hk)
        obtain ⟨c1, c2, c3, c4, c5, c6⟩ := hg.ok x (List.mem_of_getElem? hx)
        rw [map_at hx]
        have hlc' := hW'.lc
        have hlb' := hW'.lb
        have lo1 := hW'.lo x.f c1
        have lo2 := hg.d1 x.f c1
        have hx3 : cellAt H3 bl x.t = some (I (gi lf x.t)) := ((hF.mono (hle1.trans (hle2.trans hle3))).d).at x.t (Is_get (gi_get (by omega)) sp)
        have hf33 : cellAt H3 bf 3 = some (.slice (some ⟨bl, 0, none⟩) lf.length cl) := cellAt.mono hf3 (hle1.trans (hle2.trans hle3))
        refine .region ?_
        refine .o (.alloc hs Tryz.zeroValue197 rfl ?_); intro b10 w hs
        refine .o (.stores (vs := x.v) hs rfl rfl Tryz.sizeOf197 ?_); intro w hs
        refine .nil ?_
        refine nT ?_
        refine ⟨H3, [.blk b10 x.v, .blk b9 [.bool ag], .blk b6 [.slice (some ⟨b27, 0, none⟩) (N + 1) (N + 1)], .blk b27 (Arcs st'.by_), .blk b5 [.slice (some ⟨bc, 0, none⟩) (N + 1) (N + 1)], .blk bc (Is st'.cost), .blk b2 [.pointer (some ⟨bf, 0, none⟩)]], HLe.refl _, hs, ?_⟩; rintro w σf4 - hs
        refine .block ?_
        refine .seq (.draw mix rfl hs ?_); intro w hs
        refine .y 0 rfl hs Tryz.isAgg25 ?_; refine .z 1 rfl (zfa fa_bound_step_0) ?_; refine .y 2 rfl hs Tryz.isAgg3 ?_
        first | (refine .ixv 3 rfl hs Tryz.runUnderlying25 Tryz.sizeOf3 ?_; intro b55 o55 hc55) | refine .z 3 rfl (zix Tryz.runUnderlying25 Tryz.sizeOf3) ?_
        refine .y 4 rfl hs Tryz.isAgg3 ?_; refine .z 5 rfl zlss ?_; refine .z 6 rfl zm ?_
        refine .bifD (t' := 58) rfl (fun hb58 => ?_) (fun hb58 => ?_)
        · refine .y 7 rfl hs Tryz.isAgg25 ?_; refine .z 8 rfl (zfa fa_bound_step_0) ?_; refine .y 9 rfl hs Tryz.isAgg3 ?_
          first | (refine .ixv 10 rfl hs Tryz.runUnderlying25 Tryz.sizeOf3 ?_; intro b62 o62 hc62) | refine .z 10 rfl (zix Tryz.runUnderlying25 Tryz.sizeOf3) ?_
          refine .y 11 rfl hs Tryz.isAgg3 ?_; refine .z 12 rfl (zfa fa_bound_step_2) ?_; refine .y 13 rfl hs Tryz.isAgg3 ?_; refine .z 14 rfl zadd ?_; refine .y 15 rfl hs Tryz.isAgg25 ?_; refine .z 16 rfl (zfa fa_bound_step_1) ?_; refine .y 17 rfl hs Tryz.isAgg3 ?_
          first | (refine .ixv 18 rfl hs Tryz.runUnderlying25 Tryz.sizeOf3 ?_; intro b70 o70 hc70) | refine .z 18 rfl (zix Tryz.runUnderlying25 Tryz.sizeOf3) ?_
          refine .y 19 rfl hs Tryz.isAgg3 ?_; refine .z 20 rfl zlss ?_; refine .z 21 rfl zpT ?_; refine .z 22 rfl zm ?_
          refine .bifD (t' := 74) rfl (fun hb74 => ?_) (fun hb74 => ?_)
          · refine .y 23 rfl hs Tryz.isAgg171 ?_; refine .z 24 rfl znc ?_; refine .z 25 rfl (zfa fa_bound_flow_2) ?_; refine .y 26 rfl hs Tryz.isAgg25 ?_; refine .z 27 rfl (zfa fa_bound_step_1) ?_; refine .y 28 rfl hs Tryz.isAgg3 ?_
            first | (refine .ixv 29 rfl hs Tryz.runUnderlying25 Tryz.sizeOf3 ?_; intro b81 o81 hc81) | refine .z 29 rfl (zix Tryz.runUnderlying25 Tryz.sizeOf3) ?_
            refine .y 30 rfl hs Tryz.isAgg3 ?_; refine .z 31 rfl zgeq ?_; refine .z 32 rfl zm ?_
            refine .bifD (t' := 84) rfl (fun hb84 => ?_) (fun hb84 => ?_)
            · refine .qF (i := 33) rfl (by kernel_rfl) rfl rfl ?_
              refine .qF (i := 34) rfl (by kernel_rfl) rfl rfl ?_
              refine .qF (i := 35) rfl (by kernel_rfl) rfl rfl ?_
              refine .qF (i := 36) rfl (by kernel_rfl) rfl rfl ?_
              refine .qF (i := 37) rfl (by kernel_rfl) rfl rfl ?_
              refine .qF (i := 38) rfl (by kernel_rfl) rfl rfl ?_
              refine .qF (i := 39) rfl (by kernel_rfl) rfl rfl ?_
              refine .qF (i := 40) rfl (by kernel_rfl) rfl rfl ?_
              refine .qF (i := 41) rfl (by kernel_rfl) rfl rfl ?_
              refine .z 42 rfl zpT ?_; refine .z 43 rfl zpT ?_; refine .done (by kernel_rfl) hs ?_
              refine (.condT rfl rfl ?_)
              refine .draw mix rfl hs ?_; intro w hs
              refine .y 0 rfl hs Tryz.isAgg25 ?_; refine .z 1 rfl (zfa fa_bound_step_1) ?_; refine .y 2 rfl hs Tryz.isAgg3 ?_; refine .y 3 rfl hs Tryz.isAgg188 ?_; refine .z 4 rfl (zfa fa_bound_step_1) ?_; refine .y 5 rfl hs Tryz.isAgg3 ?_; refine .y 6 rfl hs Tryz.isAgg25 ?_; refine .z 7 rfl (zfa fa_bound_step_0) ?_; refine .y 8 rfl hs Tryz.isAgg3 ?_
              first | (refine .ixv 9 rfl hs Tryz.runUnderlying25 Tryz.sizeOf3 ?_; intro b105 o105 hc105) | refine .z 9 rfl (zix Tryz.runUnderlying25 Tryz.sizeOf3) ?_
              refine .y 10 rfl hs Tryz.isAgg3 ?_; refine .z 11 rfl (zfa fa_bound_step_2) ?_; refine .y 12 rfl hs Tryz.isAgg3 ?_; refine .z 13 rfl zadd ?_
              refine .loads (i := 14) (vs := x.v) hs rfl (by kernel_rfl) .none rfl Tryz.isAgg197 Tryz.sizeOf197 ?_
              first | (refine .ixv 15 rfl hs Tryz.runUnderlying25 Tryz.sizeOf3 ?_; intro b111 o111 hc111) | refine .z 15 rfl (zix Tryz.runUnderlying25 Tryz.sizeOf3) ?_
              refine .e1 (i := 16) (by kernel_rfl) rfl rfl .none hs ?_
              refine .store hs rfl rfl Tryz.sizeOf3 ?_; intro w hs
              refine .go ?_
              first | (refine .ixw 17 rfl hs Tryz.runUnderlying188 Tryz.sizeOf197 ?_; intro b112 o112 hc112) | refine .z 17 rfl (zixm Tryz.runUnderlying188 Tryz.sizeOf197) ?_
              refine .e1 (i := 18) (by kernel_rfl) rfl rfl .none hs ?_
              refine .stores (vs := x.v) hs rfl rfl Tryz.sizeOf197 ?_; intro w hs
              refine .go ?_
              refine .e1 (i := 19) (by kernel_rfl) rfl rfl .none hs ?_
              refine .store hs rfl rfl Tryz.sizeOf4 ?_; intro w hs
              refine .go ?_
              refine .done (by kernel_rfl) hs ?_
              refine nB ?_
              have := hW'.less hg hx hb58 hb74
              exact ⟨H3, _, HLe.refl _, hs.tail, hle23, st'.rlx x, true, rfl, hW'.relax hg hx hb58 hb74, by omega, fun _ => by omega⟩
            · refine .y 33 rfl hs Tryz.isAgg25 ?_; refine .z 34 rfl (zfa fa_bound_step_0) ?_; refine .y 35 rfl hs Tryz.isAgg3 ?_
              first | (refine .ixv 36 rfl hs Tryz.runUnderlying25 Tryz.sizeOf3 ?_; intro b88 o88 hc88) | refine .z 36 rfl (zix Tryz.runUnderlying25 Tryz.sizeOf3) ?_
              refine .y 37 rfl hs Tryz.isAgg3 ?_; refine .z 38 rfl (zfa fa_bound_step_2) ?_; refine .y 39 rfl hs Tryz.isAgg3 ?_; refine .z 40 rfl zadd ?_; refine .z 41 rfl zlss ?_; refine .z 42 rfl zpF ?_; refine .z 43 rfl zpT ?_; refine .done (by kernel_rfl) hs ?_
              refine (.condD rfl (fun hc95 => ?_) (fun hc95 => ?_))
              · refine .draw mix rfl hs ?_; intro w hs
                refine .y 0 rfl hs Tryz.isAgg25 ?_; refine .z 1 rfl (zfa fa_bound_step_1) ?_; refine .y 2 rfl hs Tryz.isAgg3 ?_; refine .y 3 rfl hs Tryz.isAgg188 ?_; refine .z 4 rfl (zfa fa_bound_step_1) ?_; refine .y 5 rfl hs Tryz.isAgg3 ?_; refine .y 6 rfl hs Tryz.isAgg25 ?_; refine .z 7 rfl (zfa fa_bound_step_0) ?_; refine .y 8 rfl hs Tryz.isAgg3 ?_
                first | (refine .ixv 9 rfl hs Tryz.runUnderlying25 Tryz.sizeOf3 ?_; intro b105 o105 hc105) | refine .z 9 rfl (zix Tryz.runUnderlying25 Tryz.sizeOf3) ?_
                refine .y 10 rfl hs Tryz.isAgg3 ?_; refine .z 11 rfl (zfa fa_bound_step_2) ?_; refine .y 12 rfl hs Tryz.isAgg3 ?_; refine .z 13 rfl zadd ?_
                refine .loads (i := 14) (vs := x.v) hs rfl (by kernel_rfl) .none rfl Tryz.isAgg197 Tryz.sizeOf197 ?_
                first | (refine .ixv 15 rfl hs Tryz.runUnderlying25 Tryz.sizeOf3 ?_; intro b111 o111 hc111) | refine .z 15 rfl (zix Tryz.runUnderlying25 Tryz.sizeOf3) ?_
                refine .e1 (i := 16) (by kernel_rfl) rfl rfl .none hs ?_
                refine .store hs rfl rfl Tryz.sizeOf3 ?_; intro w hs
                refine .go ?_
                first | (refine .ixw 17 rfl hs Tryz.runUnderlying188 Tryz.sizeOf197 ?_; intro b112 o112 hc112) | refine .z 17 rfl (zixm Tryz.runUnderlying188 Tryz.sizeOf197) ?_
                refine .e1 (i := 18) (by kernel_rfl) rfl rfl .none hs ?_
                refine .stores (vs := x.v) hs rfl rfl Tryz.sizeOf197 ?_; intro w hs
                refine .go ?_
                refine .e1 (i := 19) (by kernel_rfl) rfl rfl .none hs ?_
                refine .store hs rfl rfl Tryz.sizeOf4 ?_; intro w hs
                refine .go ?_
                refine .done (by kernel_rfl) hs ?_
                refine nB ?_
                have := hW'.less hg hx hb58 hb74
                exact ⟨H3, _, HLe.refl _, hs.tail, hle23, st'.rlx x, true, rfl, hW'.relax hg hx hb58 hb74, by omega, fun _ => by omega⟩
              · refine .skip ?_
                refine nB ?_
                have := hW'.src x.t c2 (by omega)
                omega
          · refine .qF (i := 23) rfl (by kernel_rfl) rfl rfl ?_
            refine .qF (i := 24) rfl (by kernel_rfl) rfl rfl ?_
            refine .qF (i := 25) rfl (by kernel_rfl) rfl rfl ?_
            refine .qF (i := 26) rfl (by kernel_rfl) rfl rfl ?_
            refine .qF (i := 27) rfl (by kernel_rfl) rfl rfl ?_
            refine .qF (i := 28) rfl (by kernel_rfl) rfl rfl ?_
            refine .qF (i := 29) rfl (by kernel_rfl) rfl rfl ?_
            refine .qF (i := 30) rfl (by kernel_rfl) rfl rfl ?_
            refine .qF (i := 31) rfl (by kernel_rfl) rfl rfl ?_
            refine .qF (i := 32) rfl (by kernel_rfl) rfl rfl ?_
            refine .qF (i := 33) rfl (by kernel_rfl) rfl rfl ?_
            refine .qF (i := 34) rfl (by kernel_rfl) rfl rfl ?_
            refine .qF (i := 35) rfl (by kernel_rfl) rfl rfl ?_
            refine .qF (i := 36) rfl (by kernel_rfl) rfl rfl ?_
            refine .qF (i := 37) rfl (by kernel_rfl) rfl rfl ?_
            refine .qF (i := 38) rfl (by kernel_rfl) rfl rfl ?_
            refine .qF (i := 39) rfl (by kernel_rfl) rfl rfl ?_
            refine .qF (i := 40) rfl (by kernel_rfl) rfl rfl ?_
            refine .qF (i := 41) rfl (by kernel_rfl) rfl rfl ?_
            refine .qF (i := 42) rfl (by kernel_rfl) rfl rfl ?_
            refine .z 43 rfl zpF ?_; refine .done (by kernel_rfl) hs ?_
            refine (.condF rfl rfl ?_)
            refine .skip ?_
            refine nB ?_
            exact ⟨H3, _, HLe.refl _, hs.tail, hle23, st', ag, rfl, hW'.skip hx (fun h => hb74 h.2), hm1, hm2⟩
        · refine .qF (i := 7) rfl (by kernel_rfl) rfl rfl ?_
          refine .qF (i := 8) rfl (by kernel_rfl) rfl rfl ?_
          refine .qF (i := 9) rfl (by kernel_rfl) rfl rfl ?_
          refine .qF (i := 10) rfl (by kernel_rfl) rfl rfl ?_
          refine .qF (i := 11) rfl (by kernel_rfl) rfl rfl ?_
          refine .qF (i := 12) rfl (by kernel_rfl) rfl rfl ?_
          refine .qF (i := 13) rfl (by kernel_rfl) rfl rfl ?_
          refine .qF (i := 14) rfl (by kernel_rfl) rfl rfl ?_
          refine .qF (i := 15) rfl (by kernel_rfl) rfl rfl ?_
          refine .qF (i := 16) rfl (by kernel_rfl) rfl rfl ?_
          refine .qF (i := 17) rfl (by kernel_rfl) rfl rfl ?_
          refine .qF (i := 18) rfl (by kernel_rfl) rfl rfl ?_
          refine .qF (i := 19) rfl (by kernel_rfl) rfl rfl ?_
          refine .qF (i := 20) rfl (by kernel_rfl) rfl rfl ?_
          refine .z 21 rfl zpF ?_; refine .z 22 rfl zm ?_
          refine .qF (i := 23) rfl (by kernel_rfl) rfl rfl ?_
          refine .qF (i := 24) rfl (by kernel_rfl) rfl rfl ?_
          refine .qF (i := 25) rfl (by kernel_rfl) rfl rfl ?_
          refine .qF (i := 26) rfl (by kernel_rfl) rfl rfl ?_
          refine .qF (i := 27) rfl (by kernel_rfl) rfl rfl ?_
          refine .qF (i := 28) rfl (by kernel_rfl) rfl rfl ?_
          refine .qF (i := 29) rfl (by kernel_rfl) rfl rfl ?_
          refine .qF (i := 30) rfl (by kernel_rfl) rfl rfl ?_
          refine .qF (i := 31) rfl (by kernel_rfl) rfl rfl ?_
          refine .qF (i := 32) rfl (by kernel_rfl) rfl rfl ?_
          refine .qF (i := 33) rfl (by kernel_rfl) rfl rfl ?_
          refine .qF (i := 34) rfl (by kernel_rfl) rfl rfl ?_
          refine .qF (i := 35) rfl (by kernel_rfl) rfl rfl ?_
          refine .qF (i := 36) rfl (by kernel_rfl) rfl rfl ?_
          refine .qF (i := 37) rfl (by kernel_rfl) rfl rfl ?_
          refine .qF (i := 38) rfl (by kernel_rfl) rfl rfl ?_
          refine .qF (i := 39) rfl (by kernel_rfl) rfl rfl ?_
          refine .qF (i := 40) rfl (by kernel_rfl) rfl rfl ?_
          refine .qF (i := 41) rfl (by kernel_rfl) rfl rfl ?_
          refine .qF (i := 42) rfl (by kernel_rfl) rfl rfl ?_
          refine .z 43 rfl zpF ?_; refine .done (by kernel_rfl) hs ?_
          refine (.condF rfl rfl ?_)
          refine .skip ?_
          refine nB ?_
          exact ⟨H3, _, HLe.refl _, hs.tail, hle23, st', ag, rfl, hW'.skip hx (fun h => hb58 h.1), hm1, hm2⟩
      · rintro D3 H3 σb3 w hle3 ⟨hle23, st', ag, rfl, hW', hm1, hm2⟩ hs
        replace hs : St H3 w (.blk b9 [.bool ag] :: .blk b6 [.slice (some ⟨b27, 0, none⟩) (N + 1) (N + 1)] :: .blk b27 (Arcs st'.by_) :: .blk b5 [.slice (some ⟨bc, 0, none⟩) (N + 1) (N + 1)] :: .blk bc (Is st'.cost) :: .blk b2 [.pointer (some ⟨bf, 0, none⟩)] :: (mes (D3 :: Ds) ++ σ)) := St.deep (σ1 := [_, _, _, _, _, _]) hs
        rw [List.length_map] at hW'
        refine nB (nB (nT ?_))
        refine .regSeq (.y hs (zld Tryz.isAgg4) (.nil (.region ?_)))
        refine .o (.alloc hs Tryz.zeroValue4 rfl ?_); intro b9 w hs
        refine .o (.store hs rfl rfl Tryz.sizeOf4 ?_); intro w hs
        refine .nil ?_
        refine nT ?_
        exact ⟨(b9, D3 :: Ds, H3, st', ag), by repeat (first | exact .nil rfl rfl | refine .cons rfl ?_), ⟨hle1.trans (hle2.trans hle3), ⟨_, hW', fun _ => rfl⟩, hs.sub (by repeat (first | exact Sub.refl _ | constructor | apply Sub.weaken))⟩, by
            dsimp only
            cases ag with
            | false => simp; omega
            | true => have := hm2 rfl; simp; omega⟩
    · refine .exit ?_
      refine xT (xT (xB (nT ?_)))
      refine .seq (.regSeq ?_)
      subst hc48
      obtain rfl := hj rfl
      refine .y hs (zld Tryz.isAgg25) (.z zm ?_)
      first | (refine .ixv hs Tryz.runUnderlying25 Tryz.sizeOf3 ?_; intro b116 o116 hc116) | refine .z (zix Tryz.runUnderlying25 Tryz.sizeOf3) ?_
      refine .y hs (zld Tryz.isAgg3) (.z zeql (.nil ?_))
      refine (.condD rfl (fun hc118 => ?_) (fun hc118 => ?_))
      · refine .regSeq (.z zg (.nil ?_))
        refine .ret (rT (?_))
        refine Fin.retD Ds [_, _, _, _, _, _] hs fun w hs => ⟨_, results1 Tryz.results202 rfl, H1, [], .nul, hle1, .nil 4 none, (hs.sub (by repeat (first | exact Sub.refl _ | constructor | apply Sub.weaken))).nul, hW.none hg hc118⟩
      · refine .skip ?_
        refine nT ?_
        refine .regSeq (.z zg (.nil (.seq (.regSeq (.z zm (.z zg (.nil (.block ?_))))))))
        have hreach : gi st.cost to < far := by have := hW.top to hto; have e : far = 1152921504606846976 := rfl; omega
        obtain ⟨kk, cc, u, hbk, hroot, hkn, hk0, hcl, hway⟩ := hW.back hg hto hreach hpos
        refine .loop (fun p : Nat × Nat × Value × Ent => ⟨141, marks Ds, [(11, p.2.2.1), (12, I p.2.1), (6, .pointer (some ⟨b6, 0, none⟩))]⟩)
          (fun p w => p.1 ≤ kk ∧ (p.2.1 < N + 1 ∧ gi st.cost p.2.1 < far) ∧ OwnS 4 p.2.2.1 (Arcs (trail st.by_ to p.1)) p.2.2.2 ∧ (∃ d, Back st.by_ to p.1 d p.2.1) ∧ (∃ d, Back st.by_ p.2.1 (kk - p.1) d u) ∧
            St H1 w (p.2.2.2 :: .blk b9 [.bool false] :: .blk b6 [.slice (some ⟨b27, 0, none⟩) (N + 1) (N + 1)] :: .blk b27 (Arcs st.by_) :: .blk b5 [.slice (some ⟨bc, 0, none⟩) (N + 1) (N + 1)] :: .blk bc (Is st.cost) :: .blk b2 [.pointer (some ⟨bf, 0, none⟩)] :: (mes Ds ++ σ)))
          (fun p => kk - p.1) (0, to, .slice none 0 0, .nul) (by repeat (first | exact .nil rfl rfl | refine .cons rfl ?_)) ⟨Nat.zero_le _, ⟨hto, hreach⟩, .nil 4 none, ⟨0, .nil⟩, ⟨cc, hbk⟩, hs.nul⟩ ?_
        rintro ⟨i, v, v11, en⟩ w ⟨hik, ⟨hv1, hv2⟩, hO, ⟨d1, hb1⟩, ⟨d2, hb2⟩, hs⟩
        dsimp only at hik hv1 hv2 hO hb1 hb2 hs ⊢
        have hvb : v < st.by_.length := by omega
        refine .seq (.regSeq (.y hs (zld Tryz.isAgg188) (.z zm ?_)))
        first | (refine .ixw hs Tryz.runUnderlying188 Tryz.sizeOf197 ?_; intro b122 o122 hc122) | refine .z (zixm Tryz.runUnderlying188 Tryz.sizeOf197) ?_
        refine .z (zfa fa_bound_step_3) ?_
        refine .q hs (q_load rfl Tryz.isAgg3 (hv := (Arcs_get hvb (j := 3) (by omega)).trans rfl)) ?_
        refine .z zgeq (.nil ?_)
        refine (.condD rfl (fun hc125 => ?_) (fun hc125 => ?_))
        · refine .skip ?_
          refine nT ?_
          refine .seq (.block (.region (.z zm (.y hs (zld Tryz.isAgg188) (.z zm ?_)))))
          first | (refine .ixw hs Tryz.runUnderlying188 Tryz.sizeOf197 ?_; intro b134 o134 hc134) | refine .z (zixm Tryz.runUnderlying188 Tryz.sizeOf197) ?_
          refine .q hs (q_loads (vs := (ga st.by_ v).v) rfl Tryz.isAgg197 Tryz.sizeOf197 (hv := Arcs_sub hvb)) ?_
          refine .o (.buildSlice (cells := (ga st.by_ v).v) hs bls_sl_bound_step_1 rfl rfl ?_); intro b136 w hs
          refine .o (.append (ys := (ga st.by_ v).v) hs app_sl_bound_step_bound_step rfl rfl hO (.own .here rfl rfl) (by simp [Arc.v, Value.oneCell']) (fun l h => by rw [Arcs_length, trail_length] at h; omega) ?_); intro v137 en137 w hO2 hs
          refine .z zg (.nil ?_)
          refine nB (nT ?_)
          refine .region (.y hs (zld Tryz.isAgg188) (.z zm ?_))
          first | (refine .ixw hs Tryz.runUnderlying188 Tryz.sizeOf197 ?_; intro b128 o128 hc128) | refine .z (zixm Tryz.runUnderlying188 Tryz.sizeOf197) ?_
          refine .z (zfa fa_bound_step_0) ?_
          refine .q hs (q_load rfl Tryz.isAgg3 (hv := (Arcs_get hvb (j := 0) (by omega)).trans rfl)) ?_
          refine .z zg (.nil ?_)
          refine nT ?_
          obtain ⟨g1, g2⟩ := hcl v hv1 hv2 hc125
          obtain ⟨m, hm⟩ : ∃ m, kk - i = m + 1 := by
            refine ⟨kk - i - 1, ?_⟩
            rcases Nat.lt_or_ge i kk with h | h
            · omega
            · obtain e : kk - i = 0 := by omega
              rw [e] at hb2
              cases hb2
              omega
          rw [hm] at hb2
          obtain ⟨d3, hb3⟩ : ∃ d, Back st.by_ (ga st.by_ v).f m d u := by cases hb2 with | cons _ t => exact ⟨_, t⟩
          rw [← Arcs_snoc, ← trail_succ hb1] at hO2
          exact ⟨(i + 1, (ga st.by_ v).f, v137, en137), by repeat (first | exact .nil rfl rfl | refine .cons rfl ?_), ⟨by dsimp only; omega, ⟨g1, g2⟩, hO2, ⟨_, hb1.trans (.cons hc125 .nil)⟩, ⟨d3, by rw [show kk - (i + 1) = m by omega]; exact hb3⟩, hs.sub (by repeat (first | exact Sub.refl _ | constructor | apply Sub.weaken))⟩, by dsimp only; omega⟩
        · refine .exit ?_
          refine xT (xT (xB (nT ?_)))
          refine .regSeq ?_
          obtain rfl : i = kk := by
            rcases Nat.lt_or_ge i kk with h | h
            · obtain ⟨m, hm⟩ : ∃ m, kk - i = m + 1 := ⟨kk - i - 1, by omega⟩
              rw [hm] at hb2
              cases hb2 with
              | cons hl _ => omega
            · omega
          refine .z zm ?_
          refine .o (.call Tryz.call212 rfl (slices_Reverse_step hs hO (by rw [trail_length]; omega)) ?_); rintro v139 w ⟨en', hO', hs⟩
          refine .nil (.regSeq (.z zm (.z zg (.nil ?_))))
          refine .ret ?_
          refine Fin.retD Ds [_, _, _, _, _, _, _] hs fun w hs => ⟨_, results1 Tryz.results202 rfl, H1, _, en', hle1, hO', hs.sub (by repeat (first | exact Sub.refl _ | constructor | apply Sub.weaken)), hway _ rfl⟩
end Go.Proofs.YtiiokdeehlfeeaaGreat

namespace Go.Proofs.YtiiokdeehlfeeaaGreat
open Go.MW
theorem OfEs_lim {s : Syst} {x : Arc} (hok : s.Ok) (hx : OfEs s.arcs x) : ∃ (i : Nat) (l : Lim), s.lims[i]? = some l ∧ x.l = (i : Int) ∧ (l.A = (x.f : Int) ↔ fwd s.arcs x) ∧ i < s.lims.length := by
  obtain ⟨i, y, h1, h2⟩ := hx
  have hl := arcsOf_l h1
  have hlt : i < s.lims.length := by have := (List.getElem?_eq_some_iff.1 h1).1; simpa [Syst.arcs, arcsOf_length] using this
  obtain ⟨l, hl2⟩ := nth hlt
  have h3 := arcsOf_get hl2
  have h1' : (arcsOf s.lims)[i]? = some y := h1
  rw [h3] at h1'
  cases h1'
  obtain ⟨a1, a2, _⟩ := hok.arc (List.mem_of_getElem? hl2) i
  refine ⟨i, l, hl2, ?_, ?_, hlt⟩
  · rcases h2 with rfl | rfl <;> rfl
  · have hg : ga s.arcs i = l.arc i := by simp [ga, Syst.arcs, h3]
    have hxl : x.l.toNat = i := by rcases h2 with rfl | rfl <;> rfl
    unfold fwd
    rw [hxl, hg, ← a1]
    exact ⟨fun e => by exact_mod_cast e, fun e => by exact_mod_cast e⟩
theorem bound_flow_along_spec {H : Heap} {w : World} {σ : List Ent} {bf : Nat} {s : Syst} {vl vt vd : Value} {x : Arc} (hs : St H w σ) (hok : s.Ok) (hf : Row H bf [I s.many, vl, vt, vd]) (hl : RL H vl s.lims) (hx : OfEs s.arcs x) :
    Cl Tryz.prog 213 [.pointer (some ⟨bf, 0, none⟩), .agg x.v.toArray] w fun v w' => v = .bool (decide (fwd s.arcs x)) ∧ St H w' σ := by
  obtain ⟨i, l, hl1, hxl, hfw, hil⟩ := OfEs_lim hok hx
  have hf1 : cellAt H bf 1 = some vl := hf.at 1
  refine Cl.of Tryz.func213 rfl Tryz.ntmps213 (by simp) (args_cons (k := 0) rfl (args_cons (k := 1) rfl (args0))) ?_
  refine .regSeq ?_
  refine .o (.box hs rfl rfl ?_); intro b3 w hs
  refine .z zg (.nil ?_)
  refine .seq (.draw mix rfl hs ?_); intro w hs
  refine .z 0 rfl zm ?_; refine .z 1 rfl znc ?_; refine .z 2 rfl (zfa fa_bound_flow_0) ?_; refine .z 3 rfl (zfa fa_api_System_1) ?_; refine .y 4 rfl hs Tryz.isAgg22 ?_; refine .z 5 rfl (zfa fa_bound_step_3) ?_; refine .y 6 rfl hs Tryz.isAgg3 ?_
  refine .ixX (i := 7) hs rfl (by kernel_rfl) .none hl rfl rfl Tryz.runUnderlying22 Tryz.sizeOf157 hl1 hxl ?_; intro b12 o12 hc12
  have hA : cellAt H b12 o12 = some (I l.A) := hc12.get 0 rfl
  refine .z 8 rfl (zfa fa_api_Limit_0) ?_; refine .y 9 rfl hs Tryz.isAgg3 ?_; refine .z 10 rfl (zfa fa_bound_step_0) ?_; refine .y 11 rfl hs Tryz.isAgg3 ?_; refine .z 12 rfl zeql ?_; refine .z 13 rfl zg ?_; refine .done (by kernel_rfl) hs ?_
  refine .ret (Fin.ret1 Tryz.results213 rfl ?_)
  exact ⟨by simp only [decide_eq_decide.2 hfw], hs.out⟩
theorem bound_flow_send_spec {H : Heap} {w : World} {σ : List Ent} {bf bt bl cl u v : Nat} {s : Syst} {ts lf : List Int} {wt : Nat → Int} {vl vp : Value} {sp : List Value} {p : List Arc} (hs : St H w (.blk bt (Is ts) :: .blk bl (Is lf ++ sp) :: σ)) (hok : s.Ok)
    (hf : Row H bf [I s.many, vl, .slice (some ⟨bt, 0, none⟩) ts.length ts.length, .slice (some ⟨bl, 0, none⟩) lf.length cl]) (hl : RL H vl s.lims) (hp : RS H 4 vp (p.map Arc.v)) (hI : FInv s.n s.arcs wt ts lf) (hw : WayP s.arcs ts lf s.n p u v) (hpn : p ≠ []) (hpl : p.length < s.n) :
    Cl Tryz.prog 203 [.pointer (some ⟨bf, 0, none⟩), vp] w fun _ w' => St H w' (.blk bt (Is (pushes s.arcs (much s.arcs ts lf p u v) ts p)) :: .blk bl (Is (lfTo lf (much s.arcs ts lf p u v) u v) ++ sp) :: σ) := by
  have hN1 := hok.m1
  have hn65 : s.n ≤ 65 := by simp only [Syst.n]; have := hok.m0; omega
  have hnum : Numb s.arcs := fun i x hx => ⟨arcsOf_l hx, (hok.arcs.2 x (List.mem_of_getElem? hx)).2.2.2.2.2⟩
  have hlt := hI.lt
  have hll := hI.ll
  obtain ⟨m0, m1, m2, m3⟩ := much_pos hlt.symm hnum hw
  have hsu := hI.sg u hw.un
  have hsv := hI.sg v hw.vn
  have hun : u < lf.length := by rw [hll]; exact hw.un
  have hvn : v < lf.length := by rw [hll]; exact hw.vn
  obtain ⟨a, cap, hvp⟩ := hp.shape
  rw [List.length_map] at hvp
  subst hvp
  have hp0 : 0 < p.length := List.length_pos_iff.2 hpn
  obtain ⟨x0, hx0⟩ := nth hp0
  obtain ⟨x1, hx1⟩ := nth (l := p) (k := p.length - 1) (by omega)
  have hh := hw.ch.head hx0
  have hla := hw.ch.last hx1
  have hf2 : cellAt H bf 2 = some (.slice (some ⟨bt, 0, none⟩) ts.length ts.length) := hf.at 2
  have hf3 : cellAt H bf 3 = some (.slice (some ⟨bl, 0, none⟩) lf.length cl) := hf.at 3
  have hix : ∀ x ∈ p, OfEs s.arcs x ∧ x.l.toNat < ts.length ∧ x.l = (x.l.toNat : Int) := fun x hx => by
    obtain ⟨g1, g2, _⟩ := of_resid hlt.symm hnum (hw.mem x hx)
    obtain ⟨i, l, _, g3, _⟩ := OfEs_lim hok g1
    exact ⟨g1, g2, by rw [g3]; simp⟩
  simp only [FF] at hsu hsv
  have huv : v ≠ u := fun e => by have := hw.lu; have := hw.lv; rw [e] at *; omega
  have htt : ∀ i < ts.length, 0 ≤ gi ts i ∧ gi ts i ≤ 3600000000000 := fun i hi => by
    have h1 := hI.nn i (by omega)
    have h2 := hI.tb i (by omega)
    have h3 : 0 ≤ rem s.n lf := sumTo_nonneg fun v _ => by omega
    simp only [FF] at h2
    omega
  have hM : much s.arcs ts lf p u v = least s.arcs ts (min (-gi lf u) (gi lf v)) p := rfl
  generalize much s.arcs ts lf p u v = M at *
  have hgv : gi (lf.set u (gi lf u + M)) v = gi lf v := by rw [gi_set hun, if_neg huv]
  refine Cl.of Tryz.func203 rfl Tryz.ntmps203 (by simp) (args_cons (k := 0) rfl (args_cons (k := 1) rfl (args0))) ?_
  refine .seq (.draw mix rfl hs ?_); intro w hs
  refine .z 0 rfl zm ?_
  refine .ixX (i := 1) hs rfl (by kernel_rfl) .none hp rfl rfl Tryz.runUnderlying188 Tryz.sizeOf197 hx0 rfl ?_; intro b12 o12 hc12
  have h14 : cellAt H b12 (o12 + 0) = some (I u) := by rw [← hh]; exact hc12.get 0 rfl
  refine .z 2 rfl (zfa fa_bound_step_0) ?_; refine .y 3 rfl hs Tryz.isAgg3 ?_; refine .z 4 rfl zm ?_; refine .z 5 rfl zm ?_; refine .z 6 rfl (zlen Tryz.runUnderlying188) ?_; refine .z 7 rfl zsub ?_
  refine .ixX (i := 8) hs rfl (by kernel_rfl) .none hp rfl rfl Tryz.runUnderlying188 Tryz.sizeOf197 hx1 (by omega) ?_; intro b19 o19 hc19
  have h21 : cellAt H b19 (o19 + 1) = some (I v) := by rw [← hla]; exact hc19.get 1 rfl
  refine .z 9 rfl (zfa fa_bound_step_1) ?_; refine .y 10 rfl hs Tryz.isAgg3 ?_; refine .z 11 rfl zg ?_; refine .z 12 rfl zg ?_; refine .done (by kernel_rfl) hs ?_
  refine .seq (.draw mix rfl hs ?_); intro w hs
  refine .z 0 rfl zm ?_; refine .z 1 rfl znc ?_; refine .z 2 rfl (zfa fa_bound_flow_2) ?_; refine .y 3 rfl hs Tryz.isAgg25 ?_; refine .z 4 rfl zm ?_
  first | (refine .ixv 5 rfl hs Tryz.runUnderlying25 Tryz.sizeOf3 ?_; intro b27 o27 hc27) | refine .z 5 rfl (zix Tryz.runUnderlying25 Tryz.sizeOf3) ?_
  refine .load (i := 6) hs rfl (by kernel_rfl) .none rfl Tryz.isAgg3 ?_ (hv := Is_gi_sp hun sp)
  refine .z 7 rfl zneg ?_; refine .z 8 rfl zm ?_; refine .z 9 rfl znc ?_; refine .z 10 rfl (zfa fa_bound_flow_2) ?_; refine .y 11 rfl hs Tryz.isAgg25 ?_; refine .z 12 rfl zm ?_
  first | (refine .ixv 13 rfl hs Tryz.runUnderlying25 Tryz.sizeOf3 ?_; intro b35 o35 hc35) | refine .z 13 rfl (zix Tryz.runUnderlying25 Tryz.sizeOf3) ?_
  refine .load (i := 14) hs rfl (by kernel_rfl) .none rfl Tryz.isAgg3 ?_ (hv := Is_gi_sp hvn sp)
  refine .z 15 rfl zmin ?_; refine .z 16 rfl zg ?_; refine .done (by kernel_rfl) hs ?_
  refine .seq (.regSeq (.z zm (.z (zlen Tryz.runUnderlying188) (.z zm (.nil ?_)))))
  refine .for (N := p.length) (J := fun k fr w => fr = [(38, .slice a p.length cap), (6, I (least s.arcs ts (min (-gi lf u) (gi lf v)) (p.take k))), (0, .pointer (some ⟨bf, 0, none⟩)), (1, .slice a p.length cap), (4, I u), (5, I v)] ∧   St H w (.blk bt (Is ts) :: .blk bl (Is lf ++ sp) :: σ)) (by omega) ?_ ?_ ?_
  · exact .mk ⟨rfl, hs⟩
  · rintro k fr w hk ⟨rfl, hs⟩
    obtain ⟨x, hx⟩ := nth hk
    obtain ⟨g1, g2, g3⟩ := hix x (List.mem_of_getElem? hx)
    refine .block (.regSeq ?_)
    refine .ixX hs hp rfl rfl Tryz.runUnderlying188 Tryz.sizeOf197 hx rfl ?_; intro b42 o42 hc42
    refine .q hs (q_loadsR (vs := x.v) rfl Tryz.isAgg197 Tryz.sizeOf197 hc42) ?_
    refine .o (.alloc hs Tryz.zeroValue197 rfl ?_); intro b8 w hs
    refine .o (.stores (vs := x.v) hs rfl rfl Tryz.sizeOf197 ?_); intro w hs
    refine .nil (.regSeq (.z zm ?_))
    refine .q hs (q_loads (vs := x.v) rfl Tryz.isAgg197 Tryz.sizeOf197) ?_
    refine .o (.call Tryz.call213 rfl (bound_flow_along_spec hs hok hf hl g1) ?_); rintro _ w ⟨rfl, hs⟩
    refine .z znot (.nil ?_)
    refine (.cond rfl (fun hc47 => ?_) (fun hc47 => ?_))
    · refine .draw mix rfl hs ?_; intro w hs
      refine .z 0 rfl zm ?_; refine .z 1 rfl zm ?_; refine .z 2 rfl znc ?_; refine .z 3 rfl (zfa fa_bound_flow_1) ?_; refine .y 4 rfl hs Tryz.isAgg25 ?_; refine .z 5 rfl (zfa fa_bound_step_3) ?_; refine .y 6 rfl hs Tryz.isAgg3 ?_
      refine .p (i := 7) rfl (by kernel_rfl) .none (q_ixO (k := x.l.toNat) rfl rfl Tryz.runUnderlying25 Tryz.sizeOf3 g3 g2) ?_
      refine .y 8 rfl hs Tryz.isAgg3 ?_; refine .z 9 rfl zmin ?_; refine .z 10 rfl zg ?_; refine .done (by kernel_rfl) hs ?_
      refine nB (nT ?_)
      have e : min (least s.arcs ts (min (-gi lf u) (gi lf v)) (p.take k)) (gi ts x.l.toNat) = least s.arcs ts (min (-gi lf u) (gi lf v)) (p.take (k + 1)) := by rw [take_snoc hx, least_snoc, if_neg (by simpa using hc47)]
      exact .mk ⟨rfl, hs.tail⟩ (hs := .cons rfl (.cons rfl (.cons rfl (.consI rfl e (.cons rfl (.cons rfl (.cons rfl (.cons rfl (.nil rfl rfl)))))))))
    · refine .skip ?_
      refine nB (nT ?_)
      have e : least s.arcs ts (min (-gi lf u) (gi lf v)) (p.take k) = least s.arcs ts (min (-gi lf u) (gi lf v)) (p.take (k + 1)) := by rw [take_snoc hx, least_snoc, if_pos (by simpa using hc47)]
      exact .mk ⟨rfl, hs.tail⟩ (hs := .cons rfl (.cons rfl (.cons rfl (.consI rfl e (.cons rfl (.cons rfl (.cons rfl (.cons rfl (.nil rfl rfl)))))))))
  · rintro fr w ⟨rfl, hs⟩
    have e6 : least s.arcs ts (min (-gi lf u) (gi lf v)) (List.take p.length p) = M := by rw [List.take_length]; exact hM.symm
    rw [e6]
    refine nT ?_
    refine .seq (.regSeq (.z zm (.z (zlen Tryz.runUnderlying188) (.z zm (.nil ?_)))))
    refine .for (N := p.length) (J := fun k fr w => fr = [(59, .slice a p.length cap), (6, I M), (0, .pointer (some ⟨bf, 0, none⟩)), (1, .slice a p.length cap), (4, I u), (5, I v)] ∧   St H w (.blk bt (Is (pushes s.arcs M ts (p.take k))) :: .blk bl (Is lf ++ sp) :: σ)) (by omega) ?_ ?_ ?_
    · exact .mk ⟨rfl, hs⟩
    · rintro k fr w hk ⟨rfl, hs⟩
      obtain ⟨x, hx⟩ := nth hk
      obtain ⟨g1, g2, g3⟩ := hix x (List.mem_of_getElem? hx)
      have hpl2 := pushes_length s.arcs M (p.take k) ts
      have hbd := pushes_bd (es := s.arcs) (m := M) (ts := ts) (p := p.take k) (by omega) (by simp only [FF]; omega) (by rw [List.length_take]; omega) (fun y hy => (hix y (List.mem_of_mem_take hy)).2.1) x.l.toNat
      have h9 := htt _ g2
      refine .block (.regSeq ?_)
      refine .ixX hs hp rfl rfl Tryz.runUnderlying188 Tryz.sizeOf197 hx rfl ?_; intro b63 o63 hc63
      refine .q hs (q_loadsR (vs := x.v) rfl Tryz.isAgg197 Tryz.sizeOf197 hc63) ?_
      refine .o (.alloc hs Tryz.zeroValue197 rfl ?_); intro b10 w hs
      refine .o (.stores (vs := x.v) hs rfl rfl Tryz.sizeOf197 ?_); intro w hs
      refine .nil (.regSeq (.z zm ?_))
      refine .q hs (q_loads (vs := x.v) rfl Tryz.isAgg197 Tryz.sizeOf197) ?_
      refine .o (.call Tryz.call213 rfl (bound_flow_along_spec hs hok hf hl g1) ?_); rintro _ w ⟨rfl, hs⟩
      refine .nil ?_
      refine (.cond rfl (fun hc67 => ?_) (fun hc67 => ?_))
      · refine .draw mix rfl hs ?_; intro w hs
        refine .z 0 rfl zm ?_; refine .z 1 rfl znc ?_; refine .z 2 rfl (zfa fa_bound_flow_1) ?_; refine .y 3 rfl hs Tryz.isAgg25 ?_; refine .z 4 rfl (zfa fa_bound_step_3) ?_; refine .y 5 rfl hs Tryz.isAgg3 ?_
        refine .p (i := 6) rfl (by kernel_rfl) .none (q_ixO (k := x.l.toNat) rfl rfl Tryz.runUnderlying25 Tryz.sizeOf3 g3 g2) ?_
        refine .y 7 rfl hs Tryz.isAgg3 ?_; refine .z 8 rfl zm ?_; refine .z 9 rfl zadd ?_
        refine .p (i := 10) rfl (by kernel_rfl) .none (q_ixO (k := x.l.toNat) rfl rfl Tryz.runUnderlying25 Tryz.sizeOf3 g3 g2) ?_
        refine .e1 (i := 11) (by kernel_rfl) rfl rfl .none hs ?_
        refine .store hs rfl rfl Tryz.sizeOf3 ?_; intro w hs
        refine .go ?_
        refine .done (by kernel_rfl) hs ?_
        refine nB (nT ?_)
        have e : pushes s.arcs M ts (p.take (k + 1)) = (pushes s.arcs M ts (p.take k)).set x.l.toNat (gi (pushes s.arcs M ts (p.take k)) x.l.toNat + M) := by rw [take_snoc hx, pushes_snoc, push, if_pos (by simpa using hc67)]
        exact .mk ⟨rfl, by rw [e]; exact hs.tail⟩
      · refine .draw mix rfl hs ?_; intro w hs
        refine .z 0 rfl zm ?_; refine .z 1 rfl znc ?_; refine .z 2 rfl (zfa fa_bound_flow_1) ?_; refine .y 3 rfl hs Tryz.isAgg25 ?_; refine .z 4 rfl (zfa fa_bound_step_3) ?_; refine .y 5 rfl hs Tryz.isAgg3 ?_
        refine .p (i := 6) rfl (by kernel_rfl) .none (q_ixO (k := x.l.toNat) rfl rfl Tryz.runUnderlying25 Tryz.sizeOf3 g3 g2) ?_
        refine .y 7 rfl hs Tryz.isAgg3 ?_; refine .z 8 rfl zm ?_; refine .z 9 rfl zsub ?_
        refine .p (i := 10) rfl (by kernel_rfl) .none (q_ixO (k := x.l.toNat) rfl rfl Tryz.runUnderlying25 Tryz.sizeOf3 g3 g2) ?_
        refine .e1 (i := 11) (by kernel_rfl) rfl rfl .none hs ?_
        refine .store hs rfl rfl Tryz.sizeOf3 ?_; intro w hs
        refine .go ?_
        refine .done (by kernel_rfl) hs ?_
        refine nB (nT ?_)
        have e : pushes s.arcs M ts (p.take (k + 1)) = (pushes s.arcs M ts (p.take k)).set x.l.toNat (gi (pushes s.arcs M ts (p.take k)) x.l.toNat - M) := by rw [take_snoc hx, pushes_snoc, push, if_neg (by simpa using hc67)]
        exact .mk ⟨rfl, by rw [e]; exact hs.tail⟩
    · rintro fr w ⟨rfl, hs⟩
      rw [List.take_length] at hs
      refine nT ?_
      refine .regSeq (.z zm (.z znc (.z (zfa fa_bound_flow_2) (.y hs (zld Tryz.isAgg25) (.z zm ?_)))))
      first | (refine .ixv hs Tryz.runUnderlying25 Tryz.sizeOf3 ?_; intro b96 o96 hc96) | refine .z (zix Tryz.runUnderlying25 Tryz.sizeOf3) ?_
      refine .q hs (q_load rfl Tryz.isAgg3 (hv := Is_gi_sp hun sp)) ?_
      refine .z zm (.z zadd ?_)
      first | (refine .ixv hs Tryz.runUnderlying25 Tryz.sizeOf3 ?_; intro b100 o100 hc100) | refine .z (zix Tryz.runUnderlying25 Tryz.sizeOf3) ?_
      refine .o (.store hs rfl rfl Tryz.sizeOf3 ?_ (by repeat constructor) (blt_Is_sp hun sp) (Is_set_sp hun sp _)); intro w hs
      refine .nil (.region (.z zm (.z znc (.z (zfa fa_bound_flow_2) (.y hs (zld Tryz.isAgg25) (.z zm ?_))))))
      first | (refine .ixv hs Tryz.runUnderlying25 Tryz.sizeOf3 ?_; intro b106 o106 hc106) | refine .z (zix Tryz.runUnderlying25 Tryz.sizeOf3) ?_
      refine .q hs (q_load rfl Tryz.isAgg3 (hv := Is_gi_sp (by rw [List.length_set]; exact hvn) sp)) ?_
      refine .z zm (.z zsub ?_)
      first | (refine .ixv hs Tryz.runUnderlying25 Tryz.sizeOf3 ?_; intro b110 o110 hc110) | refine .z (zix Tryz.runUnderlying25 Tryz.sizeOf3) ?_
      refine .o (.store hs rfl rfl Tryz.sizeOf3 ?_ (by repeat constructor) (blt_Is_sp (by rw [List.length_set]; exact hvn) sp) (Is_set_sp (by rw [List.length_set]; exact hvn) sp _)); intro w hs
      refine .nil ?_
      exact Fin.end0 Tryz.results203 hs
end Go.Proofs.YtiiokdeehlfeeaaGreat

namespace Go.Proofs.YtiiokdeehlfeeaaGreat
open Go.MW
theorem left_step {w : List Int} {N k : Nat} (hw : w.length = N + 1) : gi (w.set 0 (-tailTo w k)) 0 - gi (w.set 0 (-tailTo w k)) (k + 1) = -tailTo w (k + 1) := by
  rw [gi_set (by omega), gi_set (by omega), if_pos rfl, if_neg (by omega)]
  simp only [tailTo, sumTo]; omega
theorem bound_sent_spec {H : Heap} {w : World} {σ : List Ent} {v vw : Value} {s : Syst} {ws : List Int} (hs : St H w σ) (hok : s.Ok) (hr : RSy H v s) (hrw : RI H vw ws) (hwl : ws.length = s.n) (hsz : SizedW ws) (hsnd : s.Sound) :
    Cl Tryz.prog 189 [v, vw] w fun v w' => (v = .tuple #[.pointer none, .bool false] ∧ OpenS s.arcs (wtOf ws s.n) s.n ∧ St H w' σ) ∨
      (∃ H1 bf bt bl cl ts lf vl sp, HLe H H1 ∧ v = .tuple #[.pointer (some ⟨bf, 0, none⟩), .bool true] ∧ FlowH H1 bf s ts lf vl bt bl cl sp ∧ FlowOk s.n s.arcs (wtOf ws s.n) ts ∧ St H1 w' σ) := by
  obtain ⟨vl, rfl, hr⟩ := hr
  obtain ⟨al, cpl, rfl⟩ := RL.shape hr
  obtain ⟨aw, cw, rfl⟩ := RI.shape hrw
  obtain ⟨N, hN⟩ := Int.eq_ofNat_of_zero_le hok.m0
  have hN1 := hok.m1
  have hn : s.n = N + 1 := by simp [Syst.n, hN]
  have hlim := hok.len
  have hoka := hok.arcs
  have hal : s.arcs.length = s.lims.length := by simp [Syst.arcs, arcsOf_length]
  have hnum : Numb s.arcs := fun i x hx => ⟨arcsOf_l hx, (hok.arcs.2 x (List.mem_of_getElem? hx)).2.2.2.2.2⟩
  have hin : ∀ x ∈ s.arcs, x.f < s.n ∧ x.t < s.n := fun x hx => by have := hoka.2 x hx; omega
  have hwt0 := wt_sum ws (n := s.n) (by omega)
  unfold SizedW at hsz
  rw [hwl] at hsz
  refine Cl.of Tryz.func189 rfl Tryz.ntmps189 (by simp) (args_cons (k := 0) rfl (args_cons (k := 1) rfl (args0))) ?_
  refine .regSeq ?_
  refine .o (.box hs rfl rfl ?_); intro b2 w hs
  refine .z zg (.z zg (.nil ?_))
  refine .scope ?_
  refine .cut (fun fs w => ∃ bf bt bl cl sp, FSub fs ⟨73, [], [(6, .pointer (some ⟨bf, 0, none⟩))]⟩ ∧ St H w (.blk bf [I s.many, .slice al s.lims.length cpl, .slice (some ⟨bt, 0, none⟩) s.lims.length s.lims.length, .slice (some ⟨bl, 0, none⟩) ws.length cl] :: .blk bt (Is (List.replicate s.lims.length 0)) :: .blk bl (Is ws ++ sp) :: σ)) ?_ ?_
  · refine .draw mix rfl hs ?_; intro w hs
    refine .ys 0 rfl hs [_, _] Tryz.isAgg24 Tryz.sizeOf24 ?_; refine .z 1 rfl (zfa fa_api_System_1) ?_; refine .y 2 rfl hs Tryz.isAgg22 ?_; refine .z 3 rfl (zlen Tryz.runUnderlying22) ?_; refine .z 5 rfl zm ?_
    refine .e2 (i := 4) (j := 6) (by kernel_rfl) rfl rfl rfl rfl .none .none hs ?_ ?_
    · refine .makeI s.lims.length hs rfl rfl Tryz.runUnderlying25 Tryz.typeInfo3 rfl Tryz.sizeOf3 Tryz.zeroValue3 (by omega) ?_; intro b15 w hs
      refine .go ?_
      refine .e1 (i := 6) (by kernel_rfl) rfl rfl .none hs ?_
      refine .call Tryz.call81 rfl (slices_Clone_int hs hrw (by omega)) ?_; rintro v17 w ⟨en17, hO, hs⟩
      obtain ⟨bl, cl, sp, rfl, rfl, hsp⟩ := hO.some (by omega)
      refine .go ?_
      refine .z 7 rfl (zbd [_, _, _, _] bld_bound_flow) ?_
      refine .e1 (i := 8) (by kernel_rfl) rfl rfl .none hs ?_
      refine .box hs rfl rfl ?_; intro b19 w hs
      refine .go ?_
      refine .z 9 rfl zg ?_; refine .done (by kernel_rfl) hs ?_
      exact nT ⟨b19, b15, bl, cl, sp, by repeat (first | exact .nil rfl rfl | refine .cons rfl ?_), hs.sub (by repeat (first | exact Sub.refl _ | constructor | apply Sub.weaken))⟩
    · refine .call Tryz.call81 rfl (slices_Clone_int hs hrw (by omega)) ?_; rintro v17 w ⟨en17, hO, hs⟩
      obtain ⟨bl, cl, sp, rfl, rfl, hsp⟩ := hO.some (by omega)
      refine .go ?_
      refine .e1 (i := 4) (by kernel_rfl) rfl rfl .none hs ?_
      refine .makeI s.lims.length hs rfl rfl Tryz.runUnderlying25 Tryz.typeInfo3 rfl Tryz.sizeOf3 Tryz.zeroValue3 (by omega) ?_; intro b15 w hs
      refine .go ?_
      refine .z 7 rfl (zbd [_, _, _, _] bld_bound_flow) ?_
      refine .e1 (i := 8) (by kernel_rfl) rfl rfl .none hs ?_
      refine .box hs rfl rfl ?_; intro b19 w hs
      refine .go ?_
      refine .z 9 rfl zg ?_; refine .done (by kernel_rfl) hs ?_
      exact nT ⟨b19, b15, bl, cl, sp, by repeat (first | exact .nil rfl rfl | refine .cons rfl ?_), hs.sub (by repeat (first | exact Sub.refl _ | constructor | apply Sub.weaken))⟩
  · rintro fs w ⟨bf, bt, bl, cl, sp, hfs, hs⟩
    refine WE.sub ?_ hfs
    obtain ⟨H1, hle1, hRf, hs⟩ := hs.publish .here
    have hf0 : cellAt H1 bf 0 = some (I (N : Int)) := by have := hRf.at 0 (v := I s.many); rwa [hN] at this
    have hf3 : cellAt H1 bf 3 = some (.slice (some ⟨bl, 0, none⟩) ws.length cl) := hRf.at 3
    have hrl := hr.mono hle1
    refine .regSeq (.z zm (.z znc (.z (zfa fa_bound_flow_2) (.y hs (zld Tryz.isAgg25) ?_))))
    refine .q hs (q_ixO (k := 0) rfl rfl Tryz.runUnderlying25 Tryz.sizeOf3 rfl (by omega)) ?_
    refine .o (.store hs rfl rfl Tryz.sizeOf3 ?_ (by repeat constructor) (blt_Is_sp (by omega) sp) (Is_set_sp (by omega) sp _)); intro w hs
    refine .nil (.seq (.regSeq (.z zm (.z znc (.z (zfa fa_bound_flow_0) (.z (zfa fa_api_System_0) (.y hs (zld Tryz.isAgg3) (.z zm (.nil ?_)))))))))
    refine .for (N := N) (J := fun k fr w => fr = [(6, .pointer (some ⟨bf, 0, none⟩))] ∧ St H1 w (.blk bt (Is (List.replicate s.lims.length 0)) :: .blk bl (Is (ws.set 0 (-tailTo ws k)) ++ sp) :: σ)) (by omega) ?_ ?_ ?_
    · exact .mk ⟨rfl, by simpa [tailTo, sumTo] using hs⟩
    · rintro k fr w hk ⟨rfl, hs⟩
      have e := left_step (w := ws) (N := N) (k := k) (by omega)
      have hb1 := tail_bound ws (k + 1)
      have hb2 : sizesTo ws (k + 1 + 1) ≤ sizesTo ws s.n := sumTo_mono (fun v => by omega) (by omega)
      simp only [FF] at hsz
      refine .block (.regSeq (.z zm (.z zg (.nil ?_))))
      refine .draw mix rfl hs ?_; intro w hs
      refine .z 0 rfl zm ?_; refine .z 1 rfl znc ?_; refine .z 2 rfl (zfa fa_bound_flow_2) ?_; refine .y 3 rfl hs Tryz.isAgg25 ?_
      refine .p (i := 4) rfl (by kernel_rfl) .none (q_ixO (k := 0) rfl rfl Tryz.runUnderlying25 Tryz.sizeOf3 rfl (by omega)) ?_
      refine .load (i := 5) hs rfl (by kernel_rfl) .none rfl Tryz.isAgg3 ?_ (hv := Is_gi_sp (by rw [List.length_set]; omega) sp)
      refine .z 6 rfl zm ?_; refine .z 7 rfl znc ?_; refine .z 8 rfl (zfa fa_bound_flow_2) ?_; refine .y 9 rfl hs Tryz.isAgg25 ?_; refine .z 10 rfl zm ?_; refine .z 11 rfl zadd ?_
      refine .p (i := 12) rfl (by kernel_rfl) .none (q_ixO (k := k + 1) rfl rfl Tryz.runUnderlying25 Tryz.sizeOf3 (by omega) (by omega)) ?_
      refine .load (i := 13) hs rfl (by kernel_rfl) .none rfl Tryz.isAgg3 ?_ (hv := Is_gi_sp (by rw [List.length_set]; omega) sp)
      refine .z 14 rfl zsub ?_
      refine .p (i := 15) rfl (by kernel_rfl) .none (q_ixO (k := 0) rfl rfl Tryz.runUnderlying25 Tryz.sizeOf3 rfl (by omega)) ?_
      refine .e1 (i := 16) (by kernel_rfl) rfl rfl .none hs ?_
      refine .store hs rfl rfl Tryz.sizeOf3 ?_ (by repeat constructor) (blt_Is_sp (by rw [List.length_set]; omega) sp) (Is_set_sp (by rw [List.length_set]; omega) sp _); intro w hs
      refine .go ?_
      refine .done (by kernel_rfl) hs ?_
      refine nB (nT ?_)
      rw [e, List.set_set] at hs
      exact .mk ⟨rfl, hs⟩
    · rintro fr w ⟨rfl, hs⟩
      have hI0 : FInv s.n s.arcs (wtOf ws s.n) (List.replicate s.lims.length 0) (ws.set 0 (-tailTo ws N)) := by
        rw [← hal, hn]
        rw [hn] at hsz
        refine FInv.start hsz (by rw [List.length_set]; omega) (fun v hv => ?_) hsnd
        rw [gi_set (by omega)]
        cases v with
        | zero => rw [if_pos rfl, wt_zero]
        | succ v => rw [if_neg (by omega), wt_succ]
      refine nT ?_
      refine .seq ?_
      refine .label ?_
      refine nT ?_
      refine .block ?_
      refine .loop (fun _ : Heap × List Int × List Int => ⟨73, [], [(6, .pointer (some ⟨bf, 0, none⟩))]⟩)
        (fun p w => HLe H1 p.1 ∧ FInv s.n s.arcs (wtOf ws s.n) p.2.1 p.2.2 ∧ St p.1 w (.blk bt (Is p.2.1) :: .blk bl (Is p.2.2 ++ sp) :: σ)) (fun p => (rem s.n p.2.2).toNat) (H1, List.replicate s.lims.length 0, ws.set 0 (-tailTo ws N))
        (by repeat (first | exact .nil rfl rfl | refine .cons rfl ?_)) ⟨HLe.refl _, hI0, hs⟩ ?_
      rintro ⟨H2, ts, lf⟩ w ⟨hle2, hI, hs⟩
      dsimp only at hle2 hI hs ⊢
      have hlt := hI.lt
      have hll := hI.ll
      have hRf2 : Row H2 bf [I s.many, .slice al s.lims.length cpl, .slice (some ⟨bt, 0, none⟩) ts.length ts.length, .slice (some ⟨bl, 0, none⟩) lf.length cl] := by
        rw [hlt, hal, hll, ← hwl]; exact hRf.mono hle2
      have hf32 : cellAt H2 bf 3 = some (.slice (some ⟨bl, 0, none⟩) lf.length cl) := hRf2.at 3
      refine .block (.seq (.regSeq (.z zm (.z znc (.z (zfa fa_bound_flow_2) (.y hs (zld Tryz.isAgg25) (.z (zlen Tryz.runUnderlying25) (.z zm (.nil ?_)))))))))
      refine .for (N := lf.length) (J := fun k fr w => fr = [(53, .slice (some ⟨bl, 0, none⟩) lf.length cl), (6, .pointer (some ⟨bf, 0, none⟩))] ∧ (∀ v < k, gi lf v ≤ 0) ∧ St H2 w (.blk bt (Is ts) :: .blk bl (Is lf ++ sp) :: σ)) (by omega) ?_ ?_ ?_
      · exact .mk ⟨rfl, fun v hv => by omega, hs⟩
      · rintro k fr w hk ⟨rfl, hle0, hs⟩
        refine .block (.regSeq (.z zm ?_))
        first | (refine .ixv hs Tryz.runUnderlying25 Tryz.sizeOf3 ?_; intro b58 o58 hc58) | refine .z (zix Tryz.runUnderlying25 Tryz.sizeOf3) ?_
        refine .q hs (q_load rfl Tryz.isAgg3 (hv := Is_gi_sp hk sp)) ?_
        refine .z zg (.z zg (.nil (.seq (.regSeq (.z zm (.z zleq (.nil ?_)))))))
        refine (.condD rfl (fun hc61 => ?_) (fun hc61 => ?_))
        · refine .exit ?_
          refine xT (xB (nT ?_))
          exact .mk ⟨rfl, fun v hv => by
              by_cases e : v = k
              · subst e; exact hc61
              · exact hle0 v (by omega), hs⟩
        · refine .skip ?_
          refine nT ?_
          refine .regSeq (.z zm (.z zm ?_))
          obtain ⟨Ha, hla, hra, hsa, -, hba⟩ := hs.lend
          obtain ⟨Hb, hlb, hrb, hsb, -, hbb⟩ := hsa.lend
          refine .o (.call Tryz.call202 rfl (bound_flow_way_spec (s := s) (to := k) hsb hok ⟨hRf2.mono (hla.trans hlb), hr.mono (hle1.trans (hle2.trans (hla.trans hlb))), hra.mono hlb, hrb⟩ (by omega) (by omega) hI.fe (by omega) (by omega)) ?_); rintro v64 w ⟨Hc, p, en, hlc, hO, hsc, hWR⟩
          have hs := hba (HLe.refl _) (hbb hlc hsc)
          obtain ⟨ap, lp, cp, rfl, hlp⟩ := hO.shape
          obtain rfl : lp = p.length := by rw [Arcs_length] at hlp; omega
          refine .z zg (.nil (.seq (.regSeq (.z zm (.z (zlen Tryz.runUnderlying188) (.z zeql (.nil ?_)))))))
          refine (.condD rfl (fun hc67 => ?_) (fun hc67 => ?_))
          · refine .regSeq (.z zg (.z zg (.nil ?_)))
            refine .ret (rT (rB (rT (rB (rT (rB (rT (rB (rS (Fin.ret2 Tryz.results189 rfl rfl ?_))))))))))
            rcases hWR with ⟨_, R, hS, hR, hto⟩ | ⟨hp, _⟩
            · exact .inl ⟨rfl, hI.open hin hS hR (by omega) hto (by omega), (hs.le (hle1.trans hle2)).out⟩
            · exact (hp (List.length_eq_zero_iff.1 (by omega))).elim
          · refine .skip ?_
            refine nT ?_
            refine .regSeq (.z zm (.z zm ?_))
            obtain ⟨hp, hpl, u, hw⟩ := hWR.resolve_left fun h => by rw [h.1] at hc67; exact hc67 rfl
            obtain ⟨H3, hle3, hRS, hs⟩ := OwnS.publish (cs := p.map Arc.v) hO (fun c hc => by simp only [List.mem_map] at hc; obtain ⟨x, _, rfl⟩ := hc; rfl) (by omega) (by rw [List.length_map]; omega) hs (by repeat constructor)
            refine .o (.call Tryz.call203 rfl (bound_flow_send_spec hs hok (hRf2.mono hle3) (hr.mono (hle1.trans (hle2.trans hle3))) hRS hI hw hp hpl) ?_); rintro v70 w hs
            refine .nil ?_
            refine .exit ?_
            refine xN (xT (xN (xT (xB (nT ?_)))))
            obtain ⟨q1, q2⟩ := hI.send hnum hw (by omega)
            have q3 : 0 ≤ rem s.n (lfTo lf (much s.arcs ts lf p u k) u k) := sumTo_nonneg fun v _ => by omega
            exact ⟨(H3, pushes s.arcs (much s.arcs ts lf p u k) ts p, lfTo lf (much s.arcs ts lf p u k) u k), by repeat (first | exact .nil rfl rfl | refine .cons rfl ?_), ⟨hle2.trans hle3, q1, hs⟩, by dsimp only; omega⟩
      · rintro fr w ⟨rfl, hle0, hs⟩
        refine nT ?_
        refine .regSeq (.z zm (.z zg (.z zg (.nil ?_))))
        refine .ret (rB (rT (rB (rS (Fin.ret2 Tryz.results189 rfl rfl ?_)))))
        obtain ⟨H3, l3, r3, hs⟩ := hs.publish .here
        obtain ⟨H4, l4, r4, hs⟩ := hs.publish .here
        exact .inr ⟨H4, bf, bt, bl, cl, ts, lf, _, sp, hle1.trans (hle2.trans (l3.trans l4)), rfl, ⟨hRf2.mono (l3.trans l4), hr.mono (hle1.trans (hle2.trans (l3.trans l4))), r3.mono l4, r4⟩, hI.ok hin hwt0 (fun v hv => hle0 v (by omega)), hs⟩
end Go.Proofs.YtiiokdeehlfeeaaGreat

namespace Go.Proofs.YtiiokdeehlfeeaaGreat
open Go.MW
theorem bound_isSized_spec {H : Heap} {w : World} {σ : List Ent} {v : Value} {ws : List Int} (hs : St H w σ) (hr : RI H v ws) : Cl Tryz.prog 191 [v] w fun v w' => ∃ b, v = .bool b ∧ (b = true ↔ SizedW ws) ∧ St H w' σ := by
  obtain ⟨a, c, rfl⟩ := RI.shape hr
  have hl := (RI.len hr).2.2
  refine Cl.of Tryz.func191 rfl Tryz.ntmps191 (by simp) (args_cons (k := 0) rfl (args0)) ?_
  refine .regSeq (.z zg (.nil (.regSeq (.z zg (.nil (.seq (.regSeq (.z zm (.z (zlen Tryz.runUnderlying25) ?_)))))))))
  refine .z zm (.nil ?_)
  refine .for (N := ws.length) (J := fun k fr w => fr = [(6, .slice a ws.length c), (3, I (3600000000000 - sizesTo ws k))] ∧ sizesTo ws k ≤ 3600000000000 ∧ St H w σ) (by omega) ?_ ?_ ?_
  · exact .mk ⟨rfl, by simp [sizesTo, sumTo], hs⟩
  · rintro k fr w hk ⟨rfl, hle, hs⟩
    have hx := gi_get hk
    have h0 : 0 ≤ sizesTo ws k := sumTo_nonneg fun v _ => by omega
    have h1 : sizesTo ws (k + 1) = sizesTo ws k + max (gi ws k) (-gi ws k) := rfl
    refine .block (.regSeq ?_)
    first | (refine .ixv hs Tryz.runUnderlying25 Tryz.sizeOf3 ?_; intro b10 o10 hc10) | refine .z (zix Tryz.runUnderlying25 Tryz.sizeOf3) ?_
    refine .y hs (zld Tryz.isAgg3) (.z zg (.nil (.seq (.regSeq (.z zm (.z zm (.z zneg (.z zlss (.z zm ?_)))))))))
    refine .bifD (t' := 16) rfl (fun hb16 => ?_) (fun hb16 => ?_)
    · refine .gFs 3 4 false rfl rfl rfl ?_
      refine .z zpT (.nil ?_)
      refine (.condT rfl rfl ?_)
      refine .regSeq (.z zg (.nil ?_))
      refine .ret (rT (rB (rT (rB (rT (Fin.ret1 Tryz.results191 rfl ?_))))))
      exact ⟨false, rfl, ⟨fun h => (by cases h), fun h => (sizes_over (k := k + 1) hk (by simp only [FF]; omega) h).elim⟩, hs⟩
    · refine .gT rfl rfl ?_
      refine .z zm ?_
      refine .gT rfl rfl ?_
      refine .z zm ?_
      refine .gT rfl rfl ?_
      refine .z zgtr (.z zpF (.nil ?_))
      refine (.condD rfl (fun hc20 => ?_) (fun hc20 => ?_))
      · refine .regSeq (.z zg (.nil ?_))
        refine .ret (rT (rB (rT (rB (rT (Fin.ret1 Tryz.results191 rfl ?_))))))
        exact ⟨false, rfl, ⟨fun h => (by cases h), fun h => (sizes_over (k := k + 1) hk (by simp only [FF]; omega) h).elim⟩, hs⟩
      · refine .skip ?_
        refine nT ?_
        refine .region (.z zm (.z zm (.z zm (.z zneg (.z zmax (.z zsub (.z zg (.nil ?_))))))))
        refine nB (nT ?_)
        exact .mk ⟨rfl, by omega, hs⟩ (hs := .cons rfl (.cons rfl (.cons rfl (.consI rfl (by omega) (.nil rfl rfl)))))
  · rintro fr w ⟨rfl, hle, hs⟩
    refine nT ?_
    refine .regSeq (.z zg (.nil ?_))
    refine .ret (Fin.ret1 Tryz.results191 rfl ?_)
    exact ⟨true, rfl, ⟨fun _ => hle, fun _ => rfl⟩, hs⟩
theorem bound_checkWeights_spec {H : Heap} {w : World} {σ : List Ent} {v vw : Value} {s : Syst} {ws : List Int} (hs : St H w σ) (hr : RSy H v s) (hrw : RI H vw ws) : Cl Tryz.prog 158 [v, vw] w fun v w' => v = I (askErr s ws) ∧ St H w' σ := by
  obtain ⟨vl, rfl, hr⟩ := hr
  obtain ⟨al, cpl, rfl⟩ := RL.shape hr
  obtain ⟨aw, cw, rfl⟩ := RI.shape hrw
  have hlw := (RI.len hrw).2.2
  have hn : s.check = 0 → 0 ≤ s.many ∧ s.many ≤ 64 ∧ (s.n : Int) = s.many + 1 := fun h => by
    have h1 := s.ok_iff.1 h
    have := h1.m0
    have := h1.m1
    simp only [Syst.n]; omega
  refine Cl.of Tryz.func158 rfl Tryz.ntmps158 (by simp) (args_cons (k := 0) rfl (args_cons (k := 1) rfl (args0))) ?_
  refine .regSeq ?_
  refine .o (.box hs rfl rfl ?_); intro b2 w hs
  refine .z zg (.nil (.seq (.regSeq (.y hs (zls [_, _] Tryz.isAgg24 Tryz.sizeOf24) ?_))))
  refine .o (.call Tryz.call113 rfl (bound_Check_spec (s := s) hs ⟨_, rfl, hr⟩) ?_); rintro _ w ⟨rfl, hs⟩
  refine .z zg (.nil (.regSeq (.z zm (.z zneq (.nil ?_)))))
  refine (.condN rfl (fun hc9 => ?_) (fun hc9 => ?_))
  · refine .regSeq (.z zm (.z zg (.nil ?_)))
    refine .ret (rT (Fin.ret1 Tryz.results158 rfl ?_))
    exact ⟨by unfold askErr; rw [if_pos hc9], hs.tail⟩
  · refine .skip ?_
    refine nT ?_
    refine .seq (.regSeq (.z zm ?_))
    obtain ⟨n0, n1, n2⟩ := hn hc9
    refine .z (zlen Tryz.runUnderlying25) (.z (zfa fa_api_System_0) (.y hs (zld Tryz.isAgg3) (.z zadd (.z zneq (.z zm ?_)))))
    refine .bifN (t' := 17) rfl (fun hb17 => ?_) (fun hb17 => ?_)
    · refine .gFs 3 6 false rfl rfl rfl ?_
      refine .z zpT (.nil ?_)
      refine (.condT rfl rfl ?_)
      refine .regSeq (.z zg (.nil ?_))
      refine .ret (rT (Fin.ret1 Tryz.results158 rfl ?_))
      exact ⟨by unfold askErr; rw [if_neg (by omega), if_neg (by omega)], hs.tail⟩
    · refine .gT rfl rfl ?_
      refine .z zm ?_
      refine .gT rfl rfl ?_
      refine .o (.call Tryz.call191 rfl (bound_isSized_spec hs hrw) ?_); rintro _ w ⟨bz, rfl, hbz, hs⟩
      refine .gT rfl rfl ?_
      refine .z znot (.z zpF (.nil ?_))
      refine (.cond rfl (fun hc21 => ?_) (fun hc21 => ?_))
      · refine .regSeq (.z zg (.nil ?_))
        refine .ret (rT (Fin.ret1 Tryz.results158 rfl ?_))
        exact ⟨by unfold askErr; rw [if_neg (by omega), if_neg (fun h => by rw [hbz.2 h.2] at hc21; cases hc21)], hs.tail⟩
      · refine .skip ?_
        refine nT ?_
        refine .regSeq (.z zg (.nil ?_))
        refine .ret (Fin.ret1 Tryz.results158 rfl ?_)
        exact ⟨by unfold askErr; rw [if_neg (by omega), if_pos ⟨by omega, hbz.1 (by simpa using hc21)⟩], hs.tail⟩
theorem bound_asked_spec {H : Heap} {w : World} {σ : List Ent} {v vw : Value} {s : Syst} {ws : List Int} (hs : St H w σ) (hr : RSy H v s) (hrw : RI H vw ws) :
    Cl Tryz.prog 148 [v, vw] w fun v w' => ∃ H1 e pf, HLe H H1 ∧ v = .tuple #[pf, I e] ∧ AskR s ws e ∧ St H1 w' σ ∧ (e ≠ 0 → pf = .pointer none) ∧
      (e = 0 → ∃ bf bt bl cl ts lf vl sp, pf = .pointer (some ⟨bf, 0, none⟩) ∧ FlowH H1 bf s ts lf vl bt bl cl sp ∧ FlowOk s.n s.arcs (wtOf ws s.n) ts ∧ s.Ok ∧ sizesTo ws s.n ≤ FF) := by
  obtain ⟨vl, rfl, hr⟩ := hr
  refine Cl.of Tryz.func148 rfl Tryz.ntmps148 (by simp) (args_cons (k := 0) rfl (args_cons (k := 1) rfl (args0))) ?_
  refine .regSeq ?_
  refine .o (.box hs rfl rfl ?_); intro b2 w hs
  refine .z zg (.z zg (.nil (.seq (.regSeq (.y hs (zls [_, _] Tryz.isAgg24 Tryz.sizeOf24) (.z zm ?_))))))
  refine .o (.call Tryz.call158 rfl (bound_checkWeights_spec (s := s) hs ⟨_, rfl, hr⟩ hrw) ?_); rintro _ w ⟨rfl, hs⟩
  refine .z zg (.nil (.regSeq (.z zm (.z zneq (.nil ?_)))))
  refine (.condN rfl (fun hc13 => ?_) (fun hc13 => ?_))
  · refine .regSeq (.z zm (.z zg (.z zg (.nil ?_))))
    refine .ret (rT (Fin.ret2 Tryz.results148 rfl rfl ?_))
    exact ⟨H, _, _, HLe.refl _, rfl, .bad hc13, hs.tail, fun _ => rfl, fun h => (hc13 h).elim⟩
  · refine .skip ?_
    refine nT ?_
    refine .seq (.regSeq (.y hs (zls [_, _] Tryz.isAgg24 Tryz.sizeOf24) ?_))
    obtain ⟨hok, hwl, hsz⟩ := askErr_ok hc13
    refine .o (.call Tryz.call114 rfl (bound_isSound_spec (s := s) hs hok ⟨_, rfl, hr⟩) ?_); rintro _ w ⟨H1, b, hle1, rfl, hb, hs⟩
    refine .z znot (.nil ?_)
    refine (.cond rfl (fun hc17 => ?_) (fun hc17 => ?_))
    · refine .regSeq (.z zg (.z zg (.nil ?_)))
      refine .ret (rT (Fin.ret2 Tryz.results148 rfl rfl ?_))
      exact ⟨H1, _, _, hle1, rfl, .clash hc13 (fun h => by rw [hb.2 h] at hc17; cases hc17), hs.tail, fun _ => rfl, fun h => by cases h⟩
    · refine .skip ?_
      refine nT ?_
      refine .regSeq (.y hs (zls [_, _] Tryz.isAgg24 Tryz.sizeOf24) (.z zm ?_))
      have hsnd : s.Sound := hb.1 (by simpa using hc17)
      refine .o (.call Tryz.call189 rfl (bound_sent_spec (s := s) hs hok ⟨_, rfl, hr.mono hle1⟩ (hrw.mono hle1) hwl hsz hsnd) ?_); rintro v21 w hcase
      obtain ⟨pf, bb, H2, hle2, rfl, hs, hT, hF⟩ : ∃ pf bb H2, HLe H1 H2 ∧ v21 = .tuple #[pf, .bool bb] ∧ St H2 w (.blk b2 [I s.many, vl] :: σ) ∧ (bb = false → pf = .pointer none ∧ OpenS s.arcs (wtOf ws s.n) s.n) ∧
          (bb = true → ∃ bf bt bl cl ts lf vl sp, pf = .pointer (some ⟨bf, 0, none⟩) ∧ FlowH H2 bf s ts lf vl bt bl cl sp ∧ FlowOk s.n s.arcs (wtOf ws s.n) ts) := by
        rcases hcase with ⟨rfl, h1, h2⟩ | ⟨H2, bf, bt, bl, cl, ts, lf, vl, sp, h1, rfl, h2, h3, h4⟩
        · exact ⟨_, false, H1, HLe.refl _, rfl, h2, fun _ => ⟨rfl, h1⟩, fun h => by cases h⟩
        · exact ⟨_, true, H2, h1, rfl, h4, fun h => (by cases h), fun _ => ⟨bf, bt, bl, cl, ts, lf, vl, sp, rfl, h2, h3⟩⟩
      refine .z zm (.z zex (.z zex (.z zg (.z zg (.nil (.seq (.regSeq (.z zm (.z znot ?_)))))))))
      refine .nil ?_
      refine (.cond rfl (fun hc25 => ?_) (fun hc25 => ?_))
      · refine .regSeq (.z zg (.z zg (.nil ?_)))
        refine .ret (rT (Fin.ret2 Tryz.results148 rfl rfl ?_))
        exact ⟨H2, _, _, hle1.trans hle2, rfl, .opn hc13 hsnd (hT (by simpa using hc25)).2, hs.tail, fun _ => rfl, fun h => by cases h⟩
      · refine .skip ?_
        refine nT ?_
        refine .regSeq (.z zm (.z zg (.z zg (.nil ?_))))
        refine .ret (Fin.ret2 Tryz.results148 rfl rfl ?_)
        obtain ⟨bf, bt, bl, cl, ts, lf, vl, sp, rfl, h2, h3⟩ := hF (by simpa using hc25)
        have hn0 : 0 < s.n := by simp [Syst.n]
        have hn1 : s.n ≤ 65 := by have := hok.m0; have := hok.m1; simp only [Syst.n]; omega
        have hsz' : sizesTo ws s.n ≤ FF := by unfold SizedW at hsz; rwa [hwl] at hsz
        exact ⟨H2, _, _, hle1.trans hle2, rfl, .ok hc13 hsnd (h3.value hn0 hn1 hok.arcs hsz').2.1, hs.tail, fun h => (h rfl).elim, fun _ => ⟨bf, bt, bl, cl, ts, lf, vl, sp, rfl, h2, h3, hok, hsz'⟩⟩
theorem bound_flow_bound_spec {H : Heap} {w : World} {σ : List Ent} {bf bt bl cl : Nat} {s : Syst} {ts lf ws : List Int} {vl : Value} {sp : List Value} (hs : St H w σ) (hok : s.Ok) (hF : FlowH H bf s ts lf vl bt bl cl sp) (hFo : FlowOk s.n s.arcs (wtOf ws s.n) ts) (hsz : sizesTo ws s.n ≤ FF) :
    Cl Tryz.prog 150 [.pointer (some ⟨bf, 0, none⟩)] w fun v w' => v = I (dot s.arcs ts (·.c)) ∧ OptS s.arcs (s.wt ws) s.n (dot s.arcs ts (·.c)) ∧ dot s.arcs ts (·.c) ≤ BB ∧ -BB ≤ dot s.arcs ts (·.c) ∧ St H w' σ := by
  obtain ⟨hFf, hFl, hFt, hFd⟩ := hF
  obtain ⟨al, cpl, rfl⟩ := RL.shape hFl
  have hlim := hok.len
  have hal : s.arcs.length = s.lims.length := by simp [Syst.arcs, arcsOf_length]
  have hlt := hFo.lt
  have hn0 : 0 < s.n := by simp [Syst.n]
  have hn1 : s.n ≤ 65 := by have := hok.m0; have := hok.m1; simp only [Syst.n]; omega
  have hv := hFo.value hn0 hn1 hok.arcs hsz
  have hd := dot_dotTo (es := s.arcs) hlt
  have hf1 : cellAt H bf 1 = some (.slice al s.lims.length cpl) := hFf.at 1
  have hf2 : cellAt H bf 2 = some (.slice (some ⟨bt, 0, none⟩) ts.length ts.length) := hFf.at 2
  refine Cl.of Tryz.func150 rfl Tryz.ntmps150 (by simp) (args_cons (k := 0) rfl (args0)) ?_
  refine .regSeq (.z zg (.nil (.regSeq (.z zg (.nil (.seq (.regSeq (.z zm (.z znc ?_)))))))))
  refine .z (zfa fa_bound_flow_0) (.z (zfa fa_api_System_1) (.y hs (zld Tryz.isAgg22) (.z (zlen Tryz.runUnderlying22) (.z zm (.nil ?_)))))
  refine .for (N := s.lims.length) (J := fun k fr w => fr = [(10, .slice al s.lims.length cpl), (3, I (IntKind.i64.wrap (dotTo s.arcs ts k))), (0, .pointer (some ⟨bf, 0, none⟩))] ∧ St H w σ) (by omega) ?_ ?_ ?_
  · exact .mk ⟨rfl, hs⟩ (hs := .cons rfl (.cons rfl (.cons rfl (.consI rfl (by simp [dotTo, sumTo, i64wrap_eq]) (.cons rfl (.nil rfl rfl))))))
  · rintro k fr w hk ⟨rfl, hs⟩
    obtain ⟨l, hl⟩ := nth hk
    have hg : (ga s.arcs k).c = l.M := by simp [ga, Syst.arcs, arcsOf_get hl, Lim.arc]
    have hlm := hok.lim l (List.mem_of_getElem? hl)
    have hkt : k < ts.length := by omega
    have htb := hFo.nn k (by omega)
    have hct : cellAt H bt k = some (I (gi ts k)) := hFt.at k (Is_gi hkt)
    have hmul : gi ts k * l.M ≤ 72000000000000000 ∧ -72000000000000000 ≤ gi ts k * l.M := by
      simp only [FF] at htb
      have g1 : gi ts k * l.M ≤ gi ts k * 20000 := Int.mul_le_mul_of_nonneg_left hlm.2.2.2.1.2 htb.1
      have g2 : gi ts k * (-20000) ≤ gi ts k * l.M := Int.mul_le_mul_of_nonneg_left hlm.2.2.2.1.1 htb.1
      omega
    refine .block (.regSeq (.z zm ?_))
    refine .ixX hs hFl rfl rfl Tryz.runUnderlying22 Tryz.sizeOf157 hl rfl ?_; intro b15 o15 hc15
    refine .q hs (q_loadsR (vs := l.c) rfl Tryz.isAgg157 Tryz.sizeOf157 hc15) ?_
    refine .o (.alloc hs Tryz.zeroValue157 rfl ?_); intro b5 w hs
    refine .z zg ?_
    refine .o (.stores (vs := l.c) hs rfl rfl Tryz.sizeOf157 ?_); intro w hs
    refine .nil ?_
    refine .draw mix rfl hs ?_; intro w hs
    refine .z 0 rfl zm ?_; refine .z 1 rfl zm ?_; refine .z 2 rfl znc ?_; refine .z 3 rfl (zfa fa_bound_flow_1) ?_; refine .y 4 rfl hs Tryz.isAgg25 ?_; refine .z 5 rfl zm ?_
    refine .p (i := 6) rfl (by kernel_rfl) .none (q_ixO (k := k) rfl rfl Tryz.runUnderlying25 Tryz.sizeOf3 rfl hkt) ?_
    refine .r (i := 7) hs rfl (by kernel_rfl) .none (q_loadR rfl Tryz.isAgg3 hct) ?_
    refine .z 8 rfl (zfa fa_api_Limit_2) ?_; refine .y 9 rfl hs Tryz.isAgg3 ?_; refine .z 10 rfl zmul ?_
    refine .p (i := 11) rfl (by kernel_rfl) .none (q_add rfl rfl) ?_
    refine .z 12 rfl zg ?_; refine .done (by kernel_rfl) hs ?_
    refine nB (nT ?_)
    exact .mk ⟨rfl, hs.tail⟩ (hs := .cons rfl (.cons rfl (.cons rfl (.consI rfl (by rw [i64wrap_add]; simp only [dotTo, sumTo, hg]) (.cons rfl (.nil rfl rfl))))))
  · rintro fr w ⟨rfl, hs⟩
    rw [← hal, ← hd, i64wrap (by have := hv.2.2; simp only [BB] at this; omega)]
    refine nT ?_
    refine .regSeq (.z zm (.z zg (.nil ?_)))
    refine .ret (Fin.ret1 Tryz.results150 rfl ?_)
    exact ⟨rfl, hv.1, hv.2.2.1, hv.2.2.2, hs⟩
theorem bound_Most_spec {H : Heap} {w : World} {σ : List Ent} {v vw : Value} {s : Syst} {ws : List Int} (hs : St H w σ) (hr : RSy H v s) (hrw : RI H vw ws) :
    Cl Tryz.prog 136 [v, vw] w fun v w' => ∃ H1 n e, HLe H H1 ∧ v = .tuple #[I n, I e] ∧ MostR s ws n e ∧ St H1 w' σ := by
  obtain ⟨vl, rfl, hr⟩ := hr
  refine Cl.of Tryz.func136 rfl Tryz.ntmps136 (by simp) (args_cons (k := 0) rfl (args_cons (k := 1) rfl (args0))) ?_
  refine .regSeq ?_
  refine .o (.box hs rfl rfl ?_); intro b2 w hs
  refine .z zg (.z zg (.nil (.regSeq (.y hs (zls [_, _] Tryz.isAgg24 Tryz.sizeOf24) (.z zm ?_)))))
  refine .o (.call Tryz.call148 rfl (bound_asked_spec (s := s) hs ⟨_, rfl, hr⟩ hrw) ?_); rintro _ w ⟨H1, e, pf, hle1, rfl, hA, hs, hne, heq⟩
  refine .z zm (.z zex (.z zex (.z zg (.z zg (.nil (.seq (.regSeq (.z zm (.z zneq ?_)))))))))
  refine .nil ?_
  refine (.condN rfl (fun hc15 => ?_) (fun hc15 => ?_))
  · refine .regSeq (.z zm (.z zg (.z zg (.nil ?_))))
    refine .ret (rT (Fin.ret2 Tryz.results136 rfl rfl ?_))
    exact ⟨H1, _, _, hle1, rfl, ⟨hA, fun _ => rfl, fun h => (hc15 h).elim⟩, hs.tail⟩
  · refine .skip ?_
    refine nT ?_
    refine .regSeq (.z zm ?_)
    subst hc15
    obtain ⟨bf, bt, bl, cl, ts, lf, vl, sp, rfl, hF, hFo, hok, hsz⟩ := heq rfl
    refine .o (.call Tryz.call150 rfl (bound_flow_bound_spec hs hok hF hFo hsz) ?_); rintro _ w ⟨rfl, h1, h2, h3, hs⟩
    refine .z zg (.z zg (.nil ?_))
    refine .ret (Fin.ret2 Tryz.results136 rfl rfl ?_)
    exact ⟨H1, _, _, hle1, rfl, ⟨hA, fun h => (h rfl).elim, fun _ => ⟨h1, h2, h3⟩⟩, hs.tail⟩
theorem bound_turned_spec {H : Heap} {w : World} {σ : List Ent} {vw : Value} {ws : List Int} (hs : St H w σ) (hrw : RI H vw ws) (hlw : ws.length ≤ 1000000) (hb : ∀ k, -9223372036854775807 ≤ gi ws k ∧ gi ws k ≤ 9223372036854775807) :
    Cl Tryz.prog 149 [vw] w fun v w' => ∃ H1, HLe H H1 ∧ RI H1 v (negW ws) ∧ St H1 w' σ := by
  obtain ⟨aw, cw, rfl⟩ := RI.shape hrw
  refine Cl.of Tryz.func149 rfl Tryz.ntmps149 (by simp) (args_cons (k := 0) rfl (args0)) ?_
  refine .regSeq (.z zg (.nil (.regSeq (.z zm (.z (zlen Tryz.runUnderlying25) ?_)))))
  refine .o (.makeI ws.length hs rfl rfl Tryz.runUnderlying25 Tryz.typeInfo3 rfl Tryz.sizeOf3 Tryz.zeroValue3 (by omega) ?_); intro b8 w hs
  refine .z zg (.nil (.seq (.regSeq (.z zm (.z (zlen Tryz.runUnderlying25) (.z zm (.nil ?_)))))))
  refine .for (N := ws.length) (J := fun k fr w => fr = [(9, .slice aw ws.length cw), (3, .slice (some ⟨b8, 0, none⟩) ws.length ws.length)] ∧ ∃ L, (L.length = ws.length ∧ ∀ v < ws.length, gi L v = if v < k then -gi ws v else 0) ∧ St H w (.blk b8 (Is L) :: σ)) (by omega) ?_ ?_ ?_
  · exact .mk ⟨rfl, _, ⟨by simp, fun v hv => by rw [gi_replicate _ _ hv, if_neg (by omega)]⟩, hs⟩
  · rintro k fr w hk ⟨rfl, L, ⟨hL1, hL2⟩, hs⟩
    have hx := gi_get hk
    have hbk := hb k
    refine .block (.regSeq (.z zm ?_))
    first | (refine .ixv hs Tryz.runUnderlying25 Tryz.sizeOf3 ?_; intro b14 o14 hc14) | refine .z (zix Tryz.runUnderlying25 Tryz.sizeOf3) ?_
    refine .y hs (zld Tryz.isAgg3) (.z zg (.z zg (.nil (.region (.z zm (.z zm (.z zm (.z zneg ?_))))))))
    first | (refine .ixv hs Tryz.runUnderlying25 Tryz.sizeOf3 ?_; intro b20 o20 hc20) | refine .z (zix Tryz.runUnderlying25 Tryz.sizeOf3) ?_
    refine .o (.store hs rfl rfl Tryz.sizeOf3 ?_); intro w hs
    refine .nil ?_
    refine nB (nT ?_)
    refine .mk ⟨rfl, _, ⟨by rw [List.length_set]; exact hL1, fun v hv => ?_⟩, hs⟩
    rw [gi_set (by omega)]
    by_cases e : v = k
    · subst e; rw [if_pos rfl, if_pos (by omega)]
    · rw [if_neg e, hL2 v hv]; congr 1; apply propext; omega
  · rintro fr w ⟨rfl, L, ⟨hL1, hL2⟩, hs⟩
    obtain rfl : L = negW ws := ext_gi (by simp [hL1, negW]) (fun k hk => by rw [hL2 k (by omega), if_pos (by omega), gi_neg])
    refine nT ?_
    refine .regSeq (.z zm (.z zg (.nil ?_)))
    refine .ret (Fin.ret1 Tryz.results149 rfl ?_)
    obtain ⟨H1, g1, g2, hs⟩ := hs.publish .here
    refine ⟨H1, g1, ?_, hs⟩
    rw [← hL1]
    exact Row.RI (spare := []) (by simpa using g2) _ (Nat.le_refl _) (by omega)
theorem bound_Range_spec {H : Heap} {w : World} {σ : List Ent} {v vw : Value} {s : Syst} {ws : List Int} (hs : St H w σ) (hr : RSy H v s) (hrw : RI H vw ws) :
    Cl Tryz.prog 73 [v, vw] w fun v w' => ∃ H1 lo hi e, HLe H H1 ∧ v = .tuple #[I lo, I hi, I e] ∧ RangeR s ws lo hi e ∧ St H1 w' σ := by
  obtain ⟨vl, rfl, hr⟩ := hr
  refine Cl.of Tryz.func73 rfl Tryz.ntmps73 (by simp) (args_cons (k := 0) rfl (args_cons (k := 1) rfl (args0))) ?_
  refine .regSeq ?_
  refine .o (.box hs rfl rfl ?_); intro b2 w hs
  refine .z zg (.z zg (.z zg (.nil (.regSeq (.y hs (zls [_, _] Tryz.isAgg24 Tryz.sizeOf24) (.z zm ?_))))))
  refine .o (.call Tryz.call148 rfl (bound_asked_spec (s := s) hs ⟨_, rfl, hr⟩ hrw) ?_); rintro _ w ⟨H1, e, pf, hle1, rfl, hA, hs, hne, heq⟩
  refine .z zm (.z zex (.z zex (.z zg (.z zg (.nil (.seq (.regSeq (.z zm (.z zneq ?_)))))))))
  refine .nil ?_
  refine (.condN rfl (fun hc16 => ?_) (fun hc16 => ?_))
  · refine .regSeq (.z zm (.z zg (.z zg (.z zg (.nil ?_)))))
    refine .ret (rT (Fin.ret3 Tryz.results73 rfl rfl rfl ?_))
    exact ⟨H1, _, _, _, hle1, rfl, .first ⟨hA, fun _ => rfl, fun h => (hc16 h).elim⟩ hc16, hs.tail⟩
  · refine .skip ?_
    refine nT ?_
    refine .seq (.draw mix rfl hs ?_); intro w hs
    refine .ys 0 rfl hs [_, _] Tryz.isAgg24 Tryz.sizeOf24 ?_; refine .z 1 rfl zm ?_
    refine .e1 (i := 2) (by kernel_rfl) rfl rfl .none hs ?_
    subst hc16
    obtain ⟨bf, bt, bl, cl, ts, lf, vl', sp, rfl, hF, hFo, hok, hsz⟩ := heq rfl
    have hwl := (askErr_ok hA.zero.1).2.1
    have hbw : ∀ k, -9223372036854775807 ≤ gi ws k ∧ gi ws k ≤ 9223372036854775807 := fun k => by
      simp only [FF] at hsz
      by_cases hk : k < s.n
      · have := sizes_at ws hk; omega
      · have : gi ws k = 0 := by simp [gi, List.getElem?_eq_none (show ws.length ≤ k by omega)]
        omega
    refine .call Tryz.call149 rfl (bound_turned_spec hs (hrw.mono hle1) (by have := hok.m1; simp only [Syst.n] at hwl; omega) hbw) ?_; rintro v21 w ⟨H2, hle2, hr21, hs⟩
    refine .go ?_
    refine .e1 (i := 3) (by kernel_rfl) rfl rfl .none hs ?_
    refine .call Tryz.call148 rfl (bound_asked_spec (s := s) hs ⟨_, rfl, hr.mono (hle1.trans hle2)⟩ hr21) ?_; rintro _ w ⟨H3, e2, pg, hle3, rfl, hA2, hs, hne2, heq2⟩
    refine .go ?_
    refine .z 4 rfl zm ?_; refine .z 5 rfl zex ?_; refine .z 6 rfl zex ?_; refine .z 7 rfl zg ?_; refine .z 8 rfl zg ?_; refine .done (by kernel_rfl) hs ?_
    refine .seq (.regSeq (.z zm (.z zneq (.nil ?_))))
    refine (.condN rfl (fun hc26 => ?_) (fun hc26 => ?_))
    · refine .regSeq (.z zm (.z zg (.z zg (.z zg (.nil ?_)))))
      refine .ret (rT (Fin.ret3 Tryz.results73 rfl rfl rfl ?_))
      obtain ⟨q1, q2, q3, q4⟩ := hFo.value (by simp [Syst.n]) (by have := hok.m0; have := hok.m1; simp only [Syst.n]; omega) hok.arcs hsz
      exact ⟨H3, _, _, _, hle1.trans (hle2.trans hle3), rfl, .second ⟨hA, fun h => (h rfl).elim, fun _ => ⟨q1, q3, q4⟩⟩ ⟨hA2, fun _ => rfl, fun h => (hc26 h).elim⟩ hc26, hs.tail⟩
    · refine .skip ?_
      refine nT ?_
      refine .regSeq (.z zm ?_)
      subst hc26
      obtain ⟨bf2, bt2, bl2, cl2, ts2, lf2, vl2, sp2, rfl, hF2, hFo2, hok2, hsz2⟩ := heq2 rfl
      refine .o (.call Tryz.call150 rfl (bound_flow_bound_spec hs hok hF2 hFo2 hsz2) ?_); rintro _ w ⟨rfl, a1, a2, a3, hs⟩
      simp only [BB] at a2 a3
      refine .z zneg (.z zm ?_)
      refine .o (.call Tryz.call150 rfl (bound_flow_bound_spec hs hok (hF.mono (hle2.trans hle3)) hFo hsz) ?_); rintro _ w ⟨rfl, c1, c2, c3, hs⟩
      refine .z zg (.z zg (.z zg (.nil ?_)))
      refine .ret (Fin.ret3 Tryz.results73 rfl rfl rfl ?_)
      exact ⟨H3, _, _, _, hle1.trans (hle2.trans hle3), rfl, .ok ⟨hA, fun h => (h rfl).elim, fun _ => ⟨c1, c2, c3⟩⟩ ⟨hA2, fun h => (h rfl).elim, fun _ => ⟨a1, by simp only [BB]; omega, by simp only [BB]; omega⟩⟩, hs.tail⟩
end Go.Proofs.YtiiokdeehlfeeaaGreat

namespace Go.Proofs.YtiiokdeehlfeeaaGreat
open Go.MW
theorem bound_flow_point_spec {H : Heap} {w : World} {σ : List Ent} {bf bt bl cl : Nat} {s : Syst} {ts lf ws : List Int} {vl : Value} {sp : List Value} (hs : St H w σ) (hok : s.Ok) (hF : FlowH H bf s ts lf vl bt bl cl sp) (hFo : FlowOk s.n s.arcs (wtOf ws s.n) ts) (hsz : sizesTo ws s.n ≤ FF) :
    Cl Tryz.prog 179 [.pointer (some ⟨bf, 0, none⟩)] w fun v w' => ∃ H1 xs, HLe H H1 ∧ RI H1 v xs ∧ BestR s ws xs ∧ St H1 w' σ := by
  obtain ⟨N, hN⟩ := Int.eq_ofNat_of_zero_le hok.m0
  have hN1 := hok.m1
  have hn : s.n = N + 1 := by simp [Syst.n, hN]
  have hlt := hFo.lt
  have hal : s.arcs.length = s.lims.length := by simp [Syst.arcs, arcsOf_length]
  have hlim := hok.len
  have hf0 : cellAt H bf 0 = some (I (N : Int)) := by have := hF.f.at 0 (v := I s.many); rwa [hN] at this
  have hoka := resid_arcs hok.arcs hlt.symm (by omega)
  rw [hn] at hoka
  refine Cl.of Tryz.func179 rfl Tryz.ntmps179 (by simp) (args_cons (k := 0) rfl (args0)) ?_
  refine .regSeq (.z zg (.nil ?_))
  refine .seq (.draw mix rfl hs ?_); intro w hs
  refine .z 0 rfl zm ?_; refine .z 1 rfl znc ?_; refine .z 2 rfl (zfa fa_bound_flow_0) ?_; refine .z 3 rfl (zfa fa_api_System_0) ?_; refine .y 4 rfl hs Tryz.isAgg3 ?_; refine .z 5 rfl zm ?_
  refine .e1 (i := 6) (by kernel_rfl) rfl rfl .none hs ?_
  refine .call Tryz.call198 rfl (bound_flow_rest_spec hs hok hF (by omega)) ?_; rintro _ w ⟨H1, b15, hle1, rfl, hit, hs⟩
  refine .go ?_
  refine .e1 (i := 7) (by kernel_rfl) rfl rfl .none hs ?_
  refine .call Tryz.call171 rfl (bound_nearest_spec hs (by omega) hoka hit Tryz.call211) ?_; rintro _ w ⟨H2, bc, bb, st, ov, vo, hle2, rfl, hov, ⟨r, hNI, hr⟩, hs⟩
  have hovn : ov = none := by
    cases ov with
    | none => rfl
    | some x => exact (hNI.none hoka (by omega) (by have := hr (by simp); omega) hFo.fe).elim
  subst hovn
  obtain ⟨hfe, hbd⟩ := hNI.sol hoka (by omega)
  have hlc := hNI.lc
  have hb0 := hbd 0 (by omega)
  refine .go ?_
  refine .z 8 rfl zm ?_; refine .z 9 rfl zex ?_; refine .z 10 rfl zex ?_; refine .z 11 rfl zex ?_; refine .z 12 rfl zg ?_; refine .z 13 rfl zg ?_; refine .z 14 rfl zg ?_; refine .done (by kernel_rfl) hs ?_
  refine .regSeq (.z zm ?_)
  refine .q hs (q_ixO (k := 0) rfl rfl Tryz.runUnderlying25 Tryz.sizeOf3 rfl (by omega)) ?_
  refine .y hs (zld Tryz.isAgg3) (.z zg (.nil (.seq (.regSeq (.z zm (.z (zlen Tryz.runUnderlying25) (.z zm (.nil ?_))))))))
  refine .for (N := N + 1) (J := fun k fr w => fr = [(3, .slice (some ⟨bc, 0, none⟩) (N + 1) (N + 1)), (6, I (gi st.cost 0))] ∧ ∃ L, (L.length = N + 1 ∧ ∀ v < N + 1, gi L v = if v < k then gi st.cost v - gi st.cost 0 else gi st.cost v) ∧ St H2 w (.blk bc (Is L) :: σ)) (by omega) ?_ ?_ ?_
  · exact .mk ⟨rfl, st.cost, ⟨hlc, fun v hv => by rw [if_neg (by omega)]⟩, hs.sub (by repeat (first | exact Sub.refl _ | constructor | apply Sub.weaken))⟩
  · rintro k fr w hk ⟨rfl, L, ⟨hL1, hL2⟩, hs⟩
    have hLk := hL2 k hk
    rw [if_neg (by omega)] at hLk
    have hbk := hbd k hk
    refine .block (.regSeq (.z zm (.z zg (.nil (.region (.z zm (.z zm ?_)))))))
    first | (refine .ixv hs Tryz.runUnderlying25 Tryz.sizeOf3 ?_; intro b30 o30 hc30) | refine .z (zix Tryz.runUnderlying25 Tryz.sizeOf3) ?_
    refine .y hs (zld Tryz.isAgg3) (.z zm (.z zsub ?_))
    first | (refine .ixv hs Tryz.runUnderlying25 Tryz.sizeOf3 ?_; intro b34 o34 hc34) | refine .z (zix Tryz.runUnderlying25 Tryz.sizeOf3) ?_
    refine .o (.store hs rfl rfl Tryz.sizeOf3 ?_); intro w hs
    refine .nil ?_
    refine nB (nT ?_)
    refine .mk ⟨rfl, _, ⟨by rw [List.length_set]; exact hL1, fun v hv => ?_⟩, hs⟩
    rw [gi_set (by omega)]
    by_cases e : v = k
    · subst e; rw [if_pos rfl, if_pos (by omega), hLk]
    · rw [if_neg e, hL2 v hv]; congr 1; apply propext; omega
  · rintro fr w ⟨rfl, L, ⟨hL1, hL2⟩, hs⟩
    refine nT ?_
    refine .regSeq (.z zm (.z zg (.nil ?_)))
    refine .ret (Fin.ret1 Tryz.results179 rfl ?_)
    obtain ⟨H3, g1, g2, hs⟩ := hs.publish .here
    have hg : ∀ v < N + 1, gi L v = gi st.cost v - gi st.cost 0 := fun v hv => by rw [hL2 v hv, if_pos hv]
    obtain ⟨p1, p2⟩ := hFo.point (by omega) hok.arcs hfe
    refine ⟨H3, L, hle1.trans (hle2.trans g1), ?_, ⟨by omega, by rw [hg 0 (by omega)]; omega, fun v hv => ?_, fun x hx => ?_, ?_⟩, hs⟩
    · have := Row.RI (spare := []) (by simpa using g2) (N + 1) (by omega) (by omega)
      rwa [hL1] at this
    · have := hbd v (by omega)
      rw [hg v (by omega)]; omega
    · have h1 := hok.arcs.2 x hx
      have h2 := p2 x hx
      rw [hg _ (by omega), hg _ (by omega)]; omega
    · have h1 := hFo.value (by omega) (by omega) hok.arcs hsz
      rw [← p1] at h1
      have e : sumTo (fun v => gi ws v * gi L v) s.n = sumTo (fun v => gi ws v * (gi st.cost v - gi st.cost 0)) s.n := sumTo_congr fun v hv => by rw [hg v (by omega)]
      rw [e]; exact h1.1
theorem bound_Best_spec {H : Heap} {w : World} {σ : List Ent} {v vw : Value} {s : Syst} {ws : List Int} (hs : St H w σ) (hr : RSy H v s) (hrw : RI H vw ws) :
    Cl Tryz.prog 137 [v, vw] w fun v w' => ∃ H1 vx xs e, HLe H H1 ∧ v = .tuple #[vx, I e] ∧ AskR s ws e ∧ RI H1 vx xs ∧ (e ≠ 0 → xs = []) ∧ (e = 0 → BestR s ws xs) ∧ St H1 w' σ := by
  obtain ⟨vl, rfl, hr⟩ := hr
  refine Cl.of Tryz.func137 rfl Tryz.ntmps137 (by simp) (args_cons (k := 0) rfl (args_cons (k := 1) rfl (args0))) ?_
  refine .regSeq ?_
  refine .o (.box hs rfl rfl ?_); intro b2 w hs
  refine .z zg (.z zg (.nil (.regSeq (.y hs (zls [_, _] Tryz.isAgg24 Tryz.sizeOf24) (.z zm ?_)))))
  refine .o (.call Tryz.call148 rfl (bound_asked_spec (s := s) hs ⟨_, rfl, hr⟩ hrw) ?_); rintro _ w ⟨H1, e, pf, hle1, rfl, hA, hs, hne, heq⟩
  refine .z zm (.z zex (.z zex (.z zg (.z zg (.nil (.seq (.regSeq (.z zm (.z zneq ?_)))))))))
  refine .nil ?_
  refine (.condN rfl (fun hc15 => ?_) (fun hc15 => ?_))
  · refine .regSeq (.z zm (.z zg (.z zg (.nil ?_))))
    refine .ret (rT (Fin.ret2 Tryz.results137 rfl rfl ?_))
    exact ⟨H1, _, [], _, hle1, rfl, hA, RS.nil H1 1 none 0, fun _ => rfl, fun h => (hc15 h).elim, hs.tail⟩
  · refine .skip ?_
    refine nT ?_
    refine .regSeq (.z zm ?_)
    subst hc15
    obtain ⟨bf, bt, bl, cl, ts, lf, vl, sp, rfl, hF, hFo, hok, hsz⟩ := heq rfl
    refine .o (.call Tryz.call179 rfl (bound_flow_point_spec hs hok hF hFo hsz) ?_); rintro v18 w ⟨H2, xs, hle2, hx, hB, hs⟩
    refine .z zg (.z zg (.nil ?_))
    refine .ret (Fin.ret2 Tryz.results137 rfl rfl ?_)
    exact ⟨H2, _, xs, _, hle1.trans hle2, rfl, hA, hx, fun h => (h rfl).elim, fun _ => hB, hs.tail⟩
end Go.Proofs.YtiiokdeehlfeeaaGreat

namespace Go.Proofs.YtiiokdeehlfeeaaGreat
open Go.MW
structure Pck where
  probes : List Int
  width : Int
  bound : Int
  uses : List Use
  fails : List (List Int × List Int)
def Pck.none : Pck := ⟨[], 0, 0, [], []⟩
def RPick (H : Heap) (v : Value) (p : Pck) : Prop := ∃ (vp vu vf : Value) (css : List (List Value)), v = .agg #[vp, I p.width, I p.bound, vu, vf] ∧ RI H vp p.probes ∧ RU H vu p.uses ∧ RS H 2 vf css ∧ css.length = p.fails.length ∧ ∀ (j : Nat) (c : List Value) (t : List Int × List Int), css[j]? = some c → p.fails[j]? = some t → TwC H c t
theorem RPick.nil (H : Heap) : RPick H (.agg #[.slice none 0 0, I 0, I 0, .slice none 0 0, .slice none 0 0]) .none :=
  ⟨_, _, _, [], rfl, RS.nil _ _ _ _, RS.nil _ _ _ _, RS.nil _ _ _ _, rfl, fun _ _ _ h => by simp at h⟩
end Go.Proofs.YtiiokdeehlfeeaaGreat

namespace Go.Proofs.YtiiokdeehlfeeaaGreat
open Go.MW
theorem ref02_Same_spec {H : Heap} {w : World} {σ : List Ent} {va vb : Value} {A B : List Int} (hs : St H w σ) (hA : RI H va A) (hB : RI H vb B) :
    Cl Tryz.prog 20 [va, vb] w fun v w' => v = .bool (decide (A = B)) ∧ St H w' σ := by
  obtain ⟨aA, cA, rfl⟩ := RI.shape hA
  obtain ⟨aB, cB, rfl⟩ := RI.shape hB
  have hlA := (RI.len hA).2.2
  have hlB := (RI.len hB).2.2
  refine Cl.of Tryz.func20 rfl Tryz.ntmps20 (by simp) (args_cons (k := 0) rfl (args_cons (k := 1) rfl (args0))) ?_
  refine .regSeq (.z zg (.nil (.seq (.regSeq (.z zm (.z (zlen Tryz.runUnderlying25) (.z zm (.z (zlen Tryz.runUnderlying25) (.z zneq ?_)))))))))
  refine .nil ?_
  refine (.condN rfl (fun hc10 => ?_) (fun hc10 => ?_))
  · refine .regSeq (.z zg (.nil ?_))
    refine .ret (rT (Fin.ret1 Tryz.results20 rfl ?_))
    exact ⟨by rw [decide_eq_false (by intro h; subst h; exact hc10 rfl)], hs⟩
  · refine .skip ?_
    refine nT ?_
    refine .seq (.regSeq (.z zm (.z (zlen Tryz.runUnderlying25) (.z zm (.nil ?_)))))
    refine .for (N := A.length) (J := fun k fr w => fr = [(0, .slice aA A.length cA), (1, .slice aB B.length cB)] ∧ (∀ j < k, A[j]? = B[j]?) ∧ St H w σ) (by omega) ?_ ?_ ?_
    · exact .mk ⟨rfl, fun j h => by omega, hs⟩
    · rintro k fr w hk ⟨rfl, h0, hs⟩
      obtain ⟨xA, hxA⟩ := nth hk
      obtain ⟨xB, hxB⟩ := nth (l := B) (k := k) (by omega)
      refine .block (.regSeq (.z zm (.z zg (.nil ?_))))
      refine .seq (.draw mix rfl hs ?_); intro w hs
      refine .z 0 rfl zm ?_; refine .z 1 rfl zm ?_
      refine .ixX (enc := fun x => [I x]) (i := 2) hs rfl (by kernel_rfl) .none hA rfl rfl Tryz.runUnderlying25 Tryz.sizeOf3 hxA rfl ?_; intro b18 o18 hc18; replace hc18 := CellsAt.one hc18
      refine .r (i := 3) hs rfl (by kernel_rfl) .none (q_loadR rfl Tryz.isAgg3 hc18) ?_
      refine .z 4 rfl zm ?_; refine .z 5 rfl zm ?_
      refine .ixX (enc := fun x => [I x]) (i := 6) hs rfl (by kernel_rfl) .none hB rfl rfl Tryz.runUnderlying25 Tryz.sizeOf3 hxB rfl ?_; intro b22 o22 hc22; replace hc22 := CellsAt.one hc22
      refine .r (i := 7) hs rfl (by kernel_rfl) .none (q_loadR rfl Tryz.isAgg3 hc22) ?_
      refine .z 8 rfl zneq ?_; refine .done (by kernel_rfl) hs ?_
      refine (.condN rfl (fun hc24 => ?_) (fun hc24 => ?_))
      · refine .regSeq (.z zg (.nil ?_))
        refine .ret (rB (rT (rB (rT (Fin.ret1 Tryz.results20 rfl ?_)))))
        exact ⟨by rw [decide_eq_false (by intro h; subst h; rw [hxA] at hxB; cases hxB; exact hc24 rfl)], hs⟩
      · refine .skip ?_
        refine nB (nT ?_)
        exact .mk ⟨rfl, fun j hj => by
          by_cases e : j = k
          · subst e; rw [hxA, hxB, hc24]
          · exact h0 j (by omega), hs⟩
    · rintro fr w ⟨rfl, h0, hs⟩
      refine nT ?_
      refine .regSeq (.z zg (.nil ?_))
      refine .ret (Fin.ret1 Tryz.results20 rfl ?_)
      exact ⟨by rw [decide_eq_true (List.ext_getElem? fun j => by
        by_cases e : j < A.length
        · exact h0 j e
        · rw [List.getElem?_eq_none (by omega), List.getElem?_eq_none (by omega)])], hs⟩
end Go.Proofs.YtiiokdeehlfeeaaGreat

namespace Go.Proofs.YtiiokdeehlfeeaaGreat
open Go.MW
theorem rem_emod {n m : Int} (hm : 0 < m) : (n.tmod m + m).tmod m = n % m := by
  have h2 := Int.lt_tmod_of_pos n hm
  rw [Int.tmod_eq_emod_of_nonneg (by omega), Int.tmod_def, show n - m * n.tdiv m + m = n + m * (1 - n.tdiv m) by rw [Int.mul_sub]; omega, Int.add_mul_emod_self_left]
end Go.Proofs.YtiiokdeehlfeeaaGreat

namespace Go.Proofs.YtiiokdeehlfeeaaGreat
open Go.MW
def ways0 (i j : Nat) : Int := if i = j then 0 else free
theorem ways0_B {n : Nat} (es : List Arc) {T : Nat → Nat → Int} (h : ∀ i j, i < n → j < n → T i j = ways0 i j) : WayB n es 0 T :=
  ⟨fun i hi => by rw [h i i hi hi]; simp [ways0], fun _ _ h => by omega, fun i j hi hj hij => .inl (by rw [h i j hi hj]; simp [ways0, hij])⟩
set_option maxHeartbeats 4000000 in
theorem ref02_Ways_spec {H : Heap} {w : World} {σ : List Ent} {v : Value} {s : Syst} (hs : St H w σ) (hr : RSy H v s) (hok : s.Ok) :
    Cl Tryz.prog 126 [v] w fun u w' => ∃ H1 rs, HLe H H1 ∧ RT H1 u rs ∧ Sq s.n rs ∧ WaysT s.n s.arcs (gt rs) ∧ St H1 w' σ := by
  obtain ⟨ul, rfl, hl⟩ := hr
  obtain ⟨al, cl, rfl⟩ := RL.shape hl
  have hm0 := hok.m0
  have hm1 := hok.m1
  have hlen := hok.len
  have hnp := s.n_pos
  have hn65 := hok.n65
  have hinn := hok.inn
  have hmn : s.many + 1 = (s.n : Int) := by simp only [Syst.n]; omega
  generalize hn : s.n = n at hnp hn65 hinn hmn ⊢
  refine Cl.of Tryz.func126 rfl Tryz.ntmps126 (by simp) (args_cons (k := 0) rfl (args0)) ?_
  refine .regSeq ?_
  refine .o (.box hs rfl rfl ?_); intro b1 w hs
  refine .z zg (.nil (.regSeq (.z (zfa fa_api_System_0) ?_)))
  first | refine .q hs (q_load rfl Tryz.isAgg3 (hm := by repeat (first | exact .here | assumption | exact Mem.row (by omega) (by omega) | refine .there ?_ | refine Mem.app2 ?_)) (hv := by first | rfl | exact ptr_get (by omega) | exact Is_gt (by assumption) (by omega) (by omega) | exact Is_gi (by first | assumption | omega))) ?_ | refine .q hs (q_loadR rfl Tryz.isAgg3 (by assumption)) ?_
  refine .z zadd ?_
  rw [hmn]
  refine .z zg (.nil (.regSeq (.z zm ?_)))
  refine .o (.makeP n hs rfl rfl Tryz.runUnderlying29 Tryz.typeInfo25 rfl Tryz.sizeOf25 Tryz.zeroValue25 (by omega) ?_); intro b16 w hs
  refine .z zg (.nil (.seq (.regSeq (.z zm (.z (zlen Tryz.runUnderlying29) (.z zm (.nil ?_)))))))
  refine .for (N := n) (J := fun k fr w => fr = [(3, I (n : Int)), (4, .slice (some ⟨b16, 0, none⟩) n n), (1, .pointer (some ⟨b1, 0, none⟩))] ∧ ∃ bs : List Nat, bs.length = k ∧ St H w (.blk b16 (bs.map (ptr n) ++ List.replicate (n - k) (.slice none 0 0)) :: (rowsE bs (tabR ways0 n k) ++ (.blk b1 [I s.many, .slice al s.lims.length cl] :: σ)))) (by omega) ?_ ?_ ?_
  · exact .mk ⟨rfl, [], rfl, hs⟩
  · rintro k fr w hk ⟨rfl, bs, hbl, hs⟩
    refine .block (.regSeq (.z zm (.z zg (.nil (.regSeq (.z zm (.z zm (.z zm ?_))))))))
    refine .o (.makeI n hs rfl rfl Tryz.runUnderlying25 Tryz.typeInfo3 rfl Tryz.sizeOf3 Tryz.zeroValue3 (by omega) ?_); intro b25 w hs
    first | (refine .ixw hs Tryz.runUnderlying29 Tryz.sizeOf25 ?_; intro b26 o26 hc26) | refine .z (zix Tryz.runUnderlying29 Tryz.sizeOf25) ?_
    refine .o (.store hs rfl rfl Tryz.sizeOf25 ?_ (by repeat constructor) (by simp [hbl]; omega) (ptr_set hbl hk)); intro w hs
    refine .nil (.regSeq (.z zm (.z zm ?_)))
    first | (refine .ixw hs Tryz.runUnderlying29 Tryz.sizeOf25 ?_; intro b29 o29 hc29) | refine .z (zix Tryz.runUnderlying29 Tryz.sizeOf25) ?_
    refine .q hs (q_load rfl Tryz.isAgg25 (hv := ptr_last hbl)) ?_
    refine .z (zlen Tryz.runUnderlying25) (.z zm (.nil ?_))
    refine .for (N := n) (J := fun j fr w => fr = [(5, I (k : Int)), (19, I (k : Int)), (18, I (n : Int)), (3, I (n : Int)), (4, .slice (some ⟨b16, 0, none⟩) n n), (1, .pointer (some ⟨b1, 0, none⟩))] ∧ St H w (.blk b25 (Is ((List.range n).map fun c => if c < j ∧ k ≠ c then free else 0)) :: .blk b16 ((bs ++ [b25]).map (ptr n) ++ List.replicate (n - (k + 1)) (.slice none 0 0)) :: (rowsE bs (tabR ways0 n k) ++ (.blk b1 [I s.many, .slice al s.lims.length cl] :: σ)))) (by omega) ?_ ?_ ?_
    · rw [range_const (fun c => if c < 0 ∧ k ≠ c then free else 0) n 0 (fun j _ => by simp)] at hs
      exact .mk ⟨rfl, hs⟩
    · rintro j fr w hj ⟨rfl, hs⟩
      refine .block (.regSeq (.z zm (.z zg (.nil (.regSeq (.z zm (.z zm (.z zneq (.nil ?_)))))))))
      refine (.condN rfl (fun hc37 => ?_) (fun hc37 => ?_))
      · refine .region (.z zm (.z zm ?_))
        first | (refine .ixw hs Tryz.runUnderlying29 Tryz.sizeOf25 ?_; intro b40 o40 hc40) | refine .z (zix Tryz.runUnderlying29 Tryz.sizeOf25) ?_
        refine .q hs (q_load rfl Tryz.isAgg25 (hv := ptr_last hbl)) ?_
        refine .z zm ?_
        first | (refine .ixv hs Tryz.runUnderlying25 Tryz.sizeOf3 ?_; intro b43 o43 hc43) | refine .z (zix Tryz.runUnderlying25 Tryz.sizeOf3) ?_
        refine .o (.store hs rfl rfl Tryz.sizeOf3 ?_ (by repeat constructor) (blt_Is (by simp; omega)) (Is_set _ _ _)); intro w hs
        refine .nil ?_
        refine nB (nT ?_)
        rw [range_set _ (fun c => if c < j + 1 ∧ k ≠ c then free else 0) hj 1000000000 (fun c _ => by
          by_cases e : c = j
          · subst e; rw [if_pos rfl, if_pos ⟨by omega, by omega⟩]
          · rw [if_neg e]; congr 1; apply propext; omega)] at hs
        exact .mk ⟨rfl, hs⟩
      · refine .skip ?_
        refine nB (nT ?_)
        rw [range_congr (g := fun c => if c < j + 1 ∧ k ≠ c then free else 0) (fun c _ => by
          by_cases e : c = j
          · subst e; rw [if_neg (by omega), if_neg (by omega)]
          · congr 1; apply propext; omega)] at hs
        exact .mk ⟨rfl, hs⟩
    · rintro fr w ⟨rfl, hs⟩
      rw [range_congr (g := ways0 k) (fun c hc => by
        unfold ways0
        by_cases e : k = c
        · rw [if_neg (by omega), if_pos e]
        · rw [if_pos ⟨hc, e⟩, if_neg e])] at hs
      replace hs := hs.rowIn (by rw [hbl, tabR_length])
      rw [← tabR_succ] at hs
      refine nB (nT ?_)
      exact .mk ⟨rfl, bs ++ [b25], by simp [hbl], hs⟩
  · rintro fr w ⟨rfl, bs, hbl, hs⟩
    rw [Nat.sub_self, List.replicate_zero, List.append_nil] at hs
    refine nT ?_
    refine .seq (.regSeq (.z (zfa fa_api_System_1) ?_))
    first | refine .q hs (q_load rfl Tryz.isAgg22 (hm := by repeat (first | exact .here | assumption | exact Mem.row (by omega) (by omega) | refine .there ?_ | refine Mem.app2 ?_)) (hv := by first | rfl | exact ptr_get (by omega) | exact Is_gt (by assumption) (by omega) (by omega) | exact Is_gi (by first | assumption | omega))) ?_ | refine .q hs (q_loadR rfl Tryz.isAgg22 (by assumption)) ?_
    refine .z (zlen Tryz.runUnderlying22) (.z zm (.nil ?_))
    refine .for (N := s.lims.length) (J := fun k fr w => fr = [(47, .slice al s.lims.length cl), (4, .slice (some ⟨b16, 0, none⟩) n n)] ∧ ∃ rs, Sq n rs ∧ WayB n s.arcs k (gt rs) ∧ St H w (.blk b16 (bs.map (ptr n)) :: (rowsE bs rs ++ (.blk b1 [I s.many, .slice al s.lims.length cl] :: σ)))) (by omega) ?_ ?_ ?_
    · exact .mk ⟨rfl, _, tabR_sq ways0 n, ways0_B s.arcs (fun i j hi hj => tabR_gt ways0 hi hj), hs⟩
    · rintro k fr w hk ⟨rfl, rs, hq, hB, hs⟩
      obtain ⟨x, hx⟩ := nth (l := s.lims) hk
      have hrl := hq.1
      obtain ⟨⟨xa0, xa1⟩, ⟨xb0, xb1⟩, xne, xM, -⟩ := hok.lim x (List.mem_of_getElem? hx)
      have ha : x.A.toNat < n := by omega
      have hb : x.B.toNat < n := by omega
      have hga := arcsOf_get hx
      refine .block (.regSeq ?_)
      refine .ixX (enc := Lim.c) hs hl rfl rfl Tryz.runUnderlying22 Tryz.sizeOf157 hx rfl ?_; intro b51 o51 hc51
      refine .q hs (q_loadsR (vs := x.c) rfl Tryz.isAgg157 Tryz.sizeOf157 hc51) ?_
      refine .o (.alloc hs Tryz.zeroValue157 rfl ?_); intro b8 w hs
      refine .o (.stores (vs := x.c) hs rfl rfl Tryz.sizeOf157 ?_); intro w hs
      refine .nil ?_
      refine .draw mix rfl hs ?_; intro w hs
      refine .z 0 rfl zm ?_; refine .z 1 rfl (zfa fa_api_Limit_0) ?_
      first | refine .load (i := 2) hs rfl (by kernel_rfl) .none rfl Tryz.isAgg3 ?_ (by repeat (first | exact .here | assumption | exact Mem.row (by omega) (by omega) | refine .there ?_ | refine Mem.app2 ?_)) (by first | rfl | exact ptr_get (by omega) | exact Is_gt (by assumption) (by omega) (by omega) | exact Is_gi (by first | assumption | omega)) | refine .r (i := 2) hs rfl (by kernel_rfl) .none (q_loadR rfl Tryz.isAgg3 (by assumption)) ?_
      refine .p (i := 3) rfl (by kernel_rfl) .none (q_ixO (k := x.A.toNat) rfl rfl Tryz.runUnderlying29 Tryz.sizeOf25 (by omega) ha) ?_
      first | refine .load (i := 4) hs rfl (by kernel_rfl) .none rfl Tryz.isAgg25 ?_ (by repeat (first | exact .here | assumption | exact Mem.row (by omega) (by omega) | refine .there ?_ | refine Mem.app2 ?_)) (by first | rfl | exact ptr_get (by omega) | exact Is_gt (by assumption) (by omega) (by omega) | exact Is_gi (by first | assumption | omega)) | refine .r (i := 4) hs rfl (by kernel_rfl) .none (q_loadR rfl Tryz.isAgg25 (by assumption)) ?_
      refine .z 5 rfl (zfa fa_api_Limit_1) ?_
      first | refine .load (i := 6) hs rfl (by kernel_rfl) .none rfl Tryz.isAgg3 ?_ (by repeat (first | exact .here | assumption | exact Mem.row (by omega) (by omega) | refine .there ?_ | refine Mem.app2 ?_)) (by first | rfl | exact ptr_get (by omega) | exact Is_gt (by assumption) (by omega) (by omega) | exact Is_gi (by first | assumption | omega)) | refine .r (i := 6) hs rfl (by kernel_rfl) .none (q_loadR rfl Tryz.isAgg3 (by assumption)) ?_
      refine .z 7 rfl zm ?_; refine .z 8 rfl (zfa fa_api_Limit_0) ?_
      first | refine .load (i := 9) hs rfl (by kernel_rfl) .none rfl Tryz.isAgg3 ?_ (by repeat (first | exact .here | assumption | exact Mem.row (by omega) (by omega) | refine .there ?_ | refine Mem.app2 ?_)) (by first | rfl | exact ptr_get (by omega) | exact Is_gt (by assumption) (by omega) (by omega) | exact Is_gi (by first | assumption | omega)) | refine .r (i := 9) hs rfl (by kernel_rfl) .none (q_loadR rfl Tryz.isAgg3 (by assumption)) ?_
      refine .p (i := 10) rfl (by kernel_rfl) .none (q_ixO (k := x.A.toNat) rfl rfl Tryz.runUnderlying29 Tryz.sizeOf25 (by omega) ha) ?_
      first | refine .load (i := 11) hs rfl (by kernel_rfl) .none rfl Tryz.isAgg25 ?_ (by repeat (first | exact .here | assumption | exact Mem.row (by omega) (by omega) | refine .there ?_ | refine Mem.app2 ?_)) (by first | rfl | exact ptr_get (by omega) | exact Is_gt (by assumption) (by omega) (by omega) | exact Is_gi (by first | assumption | omega)) | refine .r (i := 11) hs rfl (by kernel_rfl) .none (q_loadR rfl Tryz.isAgg25 (by assumption)) ?_
      refine .z 12 rfl (zfa fa_api_Limit_1) ?_
      first | refine .load (i := 13) hs rfl (by kernel_rfl) .none rfl Tryz.isAgg3 ?_ (by repeat (first | exact .here | assumption | exact Mem.row (by omega) (by omega) | refine .there ?_ | refine Mem.app2 ?_)) (by first | rfl | exact ptr_get (by omega) | exact Is_gt (by assumption) (by omega) (by omega) | exact Is_gi (by first | assumption | omega)) | refine .r (i := 13) hs rfl (by kernel_rfl) .none (q_loadR rfl Tryz.isAgg3 (by assumption)) ?_
      refine .p (i := 14) rfl (by kernel_rfl) .none (q_ixO (k := x.B.toNat) rfl rfl Tryz.runUnderlying25 Tryz.sizeOf3 (by omega) hb) ?_
      first | refine .load (i := 15) hs rfl (by kernel_rfl) .none rfl Tryz.isAgg3 ?_ (by repeat (first | exact .here | assumption | exact Mem.row (by omega) (by omega) | refine .there ?_ | refine Mem.app2 ?_)) (by first | rfl | exact ptr_get (by omega) | exact Is_gt (by assumption) (by omega) (by omega) | exact Is_gi (by first | assumption | omega)) | refine .r (i := 15) hs rfl (by kernel_rfl) .none (q_loadR rfl Tryz.isAgg3 (by assumption)) ?_
      refine .z 16 rfl (zfa fa_api_Limit_2) ?_
      first | refine .load (i := 17) hs rfl (by kernel_rfl) .none rfl Tryz.isAgg3 ?_ (by repeat (first | exact .here | assumption | exact Mem.row (by omega) (by omega) | refine .there ?_ | refine Mem.app2 ?_)) (by first | rfl | exact ptr_get (by omega) | exact Is_gt (by assumption) (by omega) (by omega) | exact Is_gi (by first | assumption | omega)) | refine .r (i := 17) hs rfl (by kernel_rfl) .none (q_loadR rfl Tryz.isAgg3 (by assumption)) ?_
      refine .z 18 rfl zmin ?_
      refine .p (i := 19) rfl (by kernel_rfl) .none (q_ixO (k := x.B.toNat) rfl rfl Tryz.runUnderlying25 Tryz.sizeOf3 (by omega) hb) ?_
      refine .e1 (i := 20) (by kernel_rfl) rfl rfl .none hs ?_ (hp := by repeat (first | exact .nil | refine .cons (by first | exact HLe.bot _ | exact HLe.refl _ | assumption) (by first | exact .nil | (refine Sub.one ?_; repeat (first | exact .here | assumption | exact Mem.row (by omega) (by omega) | refine .there ?_ | refine Mem.app2 ?_))) ?_))
      refine .store hs rfl rfl Tryz.sizeOf3 ?_ (.there (.there (Upd.row _ (by omega) (by omega)))) (blt_Is (by rw [hq.2 _ ha]; exact hb)) (Is_set _ _ _); intro w hs
      refine .go ?_
      refine .done (by kernel_rfl) hs ?_ (hp := by repeat (first | exact .nil | refine .cons (by first | exact HLe.bot _ | exact HLe.refl _ | assumption) (by first | exact .nil | (refine Sub.one ?_; repeat (first | exact .here | assumption | exact Mem.row (by omega) (by omega) | refine .there ?_ | refine Mem.app2 ?_))) ?_))
      refine nB (nT ?_)
      exact .mk ⟨rfl, _, hq.set ha _, by rw [gt_set hq ha hb]; exact hB.step hinn hga, hs.tail⟩
    · rintro fr w ⟨rfl, rs, hq, hB, hs⟩
      rw [← arcsOf_length] at hB
      have hI := hB.go hinn hnp
      have hcb : ∀ x ∈ s.arcs, -20000 ≤ x.c ∧ x.c ≤ 20000 := fun x hx => by have := hinn x hx; omega
      refine nT ?_
      refine .seq (.regSeq (.z zm (.z (zlen Tryz.runUnderlying29) (.z zm (.nil ?_)))))
      refine .for (N := n) (J := fun m fr w => fr = [(4, .slice (some ⟨b16, 0, none⟩) n n)] ∧ ∃ rs, Sq n rs ∧ (m < n → WayI n s.arcs m (fun _ _ => False) (gt rs)) ∧ (m = n → WaysT n s.arcs (gt rs)) ∧ St H w (.blk b16 (bs.map (ptr n)) :: (rowsE bs rs ++ (.blk b1 [I s.many, .slice al s.lims.length cl] :: σ)))) (by omega) ?_ ?_ ?_
      · exact .mk ⟨rfl, rs, hq, fun _ => hI, fun e => by omega, hs⟩
      · clear hI hB hq
        rintro m fr w hm ⟨rfl, rs, hq, hI, -, hs⟩
        replace hI := hI hm
        refine .block (.regSeq (.z zm (.z zg (.nil (.regSeq (.z zm (.z (zlen Tryz.runUnderlying29) (.z zm (.nil ?_)))))))))
        refine .for (N := n) (J := fun i fr w => fr = [(9, I (m : Int)), (76, I (m : Int)), (75, I (n : Int)), (4, .slice (some ⟨b16, 0, none⟩) n n)] ∧ ∃ rs, Sq n rs ∧ WayI n s.arcs m (fun a _ => a < i) (gt rs) ∧ St H w (.blk b16 (bs.map (ptr n)) :: (rowsE bs rs ++ (.blk b1 [I s.many, .slice al s.lims.length cl] :: σ)))) (by omega) ?_ ?_ ?_
        · exact .mk ⟨rfl, rs, hq, hI.skip hcb hm (P := fun _ _ => False) (fun i j h => by omega) (fun _ _ _ _ h => h.elim), hs⟩
        · clear hI hq
          rintro i fr w hi ⟨rfl, rs, hq, hI, hs⟩
          refine .block (.regSeq (.z zm (.z zg (.nil (.regSeq (.z zm (.z (zlen Tryz.runUnderlying29) (.z zm (.nil ?_)))))))))
          refine .for (N := n) (J := fun k fr w => fr = [(10, I (i : Int)), (81, I (i : Int)), (80, I (n : Int)), (9, I (m : Int)), (76, I (m : Int)), (75, I (n : Int)), (4, .slice (some ⟨b16, 0, none⟩) n n)] ∧ ∃ rs, Sq n rs ∧ WayI n s.arcs m (fun a b => a < i ∨ (a = i ∧ b < k)) (gt rs) ∧ St H w (.blk b16 (bs.map (ptr n)) :: (rowsE bs rs ++ (.blk b1 [I s.many, .slice al s.lims.length cl] :: σ)))) (by omega) ?_ ?_ ?_
          · exact .mk ⟨rfl, rs, hq, hI.skip hcb hm (P := fun _ _ => False) (fun a b h => by omega) (fun _ _ _ _ h => h.elim), hs⟩
          · clear hI hq
            rintro k fr w hk ⟨rfl, rs, hq, hI, hs⟩
            have hrl := hq.1
            have c1 := hI.cl i m hi hm; have c2 := hI.cl m k hm hk
            have u1 := hI.up i m hi hm; have u2 := hI.up m k hm hk
            refine .block (.regSeq (.z zm (.z zg (.nil (.regSeq (.z zm (.z zm ?_)))))))
            first | (refine .ixw hs Tryz.runUnderlying29 Tryz.sizeOf25 ?_; intro b91 o91 hc91) | refine .z (zix Tryz.runUnderlying29 Tryz.sizeOf25) ?_
            first | refine .q hs (q_load rfl Tryz.isAgg25 (hm := by repeat (first | exact .here | assumption | exact Mem.row (by omega) (by omega) | refine .there ?_ | refine Mem.app2 ?_)) (hv := by first | rfl | exact ptr_get (by omega) | exact Is_gt (by assumption) (by omega) (by omega) | exact Is_gi (by first | assumption | omega))) ?_ | refine .q hs (q_loadR rfl Tryz.isAgg25 (by assumption)) ?_
            refine .z zm ?_
            first | (refine .ixv hs Tryz.runUnderlying25 Tryz.sizeOf3 ?_; intro b94 o94 hc94) | refine .z (zix Tryz.runUnderlying25 Tryz.sizeOf3) ?_
            first | refine .q hs (q_load rfl Tryz.isAgg3 (hm := by repeat (first | exact .here | assumption | exact Mem.row (by omega) (by omega) | refine .there ?_ | refine Mem.app2 ?_)) (hv := by first | rfl | exact ptr_get (by omega) | exact Is_gt (by assumption) (by omega) (by omega) | exact Is_gi (by first | assumption | omega))) ?_ | refine .q hs (q_loadR rfl Tryz.isAgg3 (by assumption)) ?_
            refine .z zneq (.z zm ?_)
            refine .bifN (t' := 97) rfl (fun hb97 => ?_) (fun hb97 => ?_)
            · refine .gT rfl rfl ?_
              refine .z zm ?_
              refine .gT rfl rfl ?_
              refine .z zm ?_
              refine .gT rfl rfl ?_
              first | (refine .ixw hs Tryz.runUnderlying29 Tryz.sizeOf25 ?_; intro b100 o100 hc100) | refine .z (zix Tryz.runUnderlying29 Tryz.sizeOf25) ?_
              refine .gT rfl rfl ?_
              first | refine .q hs (q_load rfl Tryz.isAgg25 (hm := by repeat (first | exact .here | assumption | exact Mem.row (by omega) (by omega) | refine .there ?_ | refine Mem.app2 ?_)) (hv := by first | rfl | exact ptr_get (by omega) | exact Is_gt (by assumption) (by omega) (by omega) | exact Is_gi (by first | assumption | omega))) ?_ | refine .q hs (q_loadR rfl Tryz.isAgg25 (by assumption)) ?_
              refine .gT rfl rfl ?_
              refine .z zm ?_
              refine .gT rfl rfl ?_
              first | (refine .ixv hs Tryz.runUnderlying25 Tryz.sizeOf3 ?_; intro b103 o103 hc103) | refine .z (zix Tryz.runUnderlying25 Tryz.sizeOf3) ?_
              refine .gT rfl rfl ?_
              first | refine .q hs (q_load rfl Tryz.isAgg3 (hm := by repeat (first | exact .here | assumption | exact Mem.row (by omega) (by omega) | refine .there ?_ | refine Mem.app2 ?_)) (hv := by first | rfl | exact ptr_get (by omega) | exact Is_gt (by assumption) (by omega) (by omega) | exact Is_gi (by first | assumption | omega))) ?_ | refine .q hs (q_loadR rfl Tryz.isAgg3 (by assumption)) ?_
              refine .gT rfl rfl ?_
              refine .z zneq (.z zpT (.nil ?_))
              refine (.condN rfl (fun hc106 => ?_) (fun hc106 => ?_))
              · refine .draw mix rfl hs ?_; intro w hs
                replace u1 := u1 hb97; replace u2 := u2 hc106
                refine .z 0 rfl zm ?_; refine .z 1 rfl zm ?_
                first | (refine .ixw 2 rfl hs Tryz.runUnderlying29 Tryz.sizeOf25 ?_; intro b109 o109 hc109) | refine .z 2 rfl (zix Tryz.runUnderlying29 Tryz.sizeOf25) ?_
                first | refine .load (i := 3) hs rfl (by kernel_rfl) .none rfl Tryz.isAgg25 ?_ (by repeat (first | exact .here | assumption | exact Mem.row (by omega) (by omega) | refine .there ?_ | refine Mem.app2 ?_)) (by first | rfl | exact ptr_get (by omega) | exact Is_gt (by assumption) (by omega) (by omega) | exact Is_gi (by first | assumption | omega)) | refine .r (i := 3) hs rfl (by kernel_rfl) .none (q_loadR rfl Tryz.isAgg25 (by assumption)) ?_
                refine .z 4 rfl zm ?_; refine .z 5 rfl zm ?_; refine .z 6 rfl zm ?_
                first | (refine .ixw 7 rfl hs Tryz.runUnderlying29 Tryz.sizeOf25 ?_; intro b114 o114 hc114) | refine .z 7 rfl (zix Tryz.runUnderlying29 Tryz.sizeOf25) ?_
                first | refine .load (i := 8) hs rfl (by kernel_rfl) .none rfl Tryz.isAgg25 ?_ (by repeat (first | exact .here | assumption | exact Mem.row (by omega) (by omega) | refine .there ?_ | refine Mem.app2 ?_)) (by first | rfl | exact ptr_get (by omega) | exact Is_gt (by assumption) (by omega) (by omega) | exact Is_gi (by first | assumption | omega)) | refine .r (i := 8) hs rfl (by kernel_rfl) .none (q_loadR rfl Tryz.isAgg25 (by assumption)) ?_
                refine .z 9 rfl zm ?_
                first | (refine .ixv 10 rfl hs Tryz.runUnderlying25 Tryz.sizeOf3 ?_; intro b117 o117 hc117) | refine .z 10 rfl (zix Tryz.runUnderlying25 Tryz.sizeOf3) ?_
                first | refine .load (i := 11) hs rfl (by kernel_rfl) .none rfl Tryz.isAgg3 ?_ (by repeat (first | exact .here | assumption | exact Mem.row (by omega) (by omega) | refine .there ?_ | refine Mem.app2 ?_)) (by first | rfl | exact ptr_get (by omega) | exact Is_gt (by assumption) (by omega) (by omega) | exact Is_gi (by first | assumption | omega)) | refine .r (i := 11) hs rfl (by kernel_rfl) .none (q_loadR rfl Tryz.isAgg3 (by assumption)) ?_
                refine .z 12 rfl zm ?_; refine .z 13 rfl zm ?_
                first | (refine .ixw 14 rfl hs Tryz.runUnderlying29 Tryz.sizeOf25 ?_; intro b121 o121 hc121) | refine .z 14 rfl (zix Tryz.runUnderlying29 Tryz.sizeOf25) ?_
                first | refine .load (i := 15) hs rfl (by kernel_rfl) .none rfl Tryz.isAgg25 ?_ (by repeat (first | exact .here | assumption | exact Mem.row (by omega) (by omega) | refine .there ?_ | refine Mem.app2 ?_)) (by first | rfl | exact ptr_get (by omega) | exact Is_gt (by assumption) (by omega) (by omega) | exact Is_gi (by first | assumption | omega)) | refine .r (i := 15) hs rfl (by kernel_rfl) .none (q_loadR rfl Tryz.isAgg25 (by assumption)) ?_
                refine .z 16 rfl zm ?_
                first | (refine .ixv 17 rfl hs Tryz.runUnderlying25 Tryz.sizeOf3 ?_; intro b124 o124 hc124) | refine .z 17 rfl (zix Tryz.runUnderlying25 Tryz.sizeOf3) ?_
                first | refine .load (i := 18) hs rfl (by kernel_rfl) .none rfl Tryz.isAgg3 ?_ (by repeat (first | exact .here | assumption | exact Mem.row (by omega) (by omega) | refine .there ?_ | refine Mem.app2 ?_)) (by first | rfl | exact ptr_get (by omega) | exact Is_gt (by assumption) (by omega) (by omega) | exact Is_gi (by first | assumption | omega)) | refine .r (i := 18) hs rfl (by kernel_rfl) .none (q_loadR rfl Tryz.isAgg3 (by assumption)) ?_
                refine .z 19 rfl zm ?_; refine .z 20 rfl zm ?_
                first | (refine .ixw 21 rfl hs Tryz.runUnderlying29 Tryz.sizeOf25 ?_; intro b128 o128 hc128) | refine .z 21 rfl (zix Tryz.runUnderlying29 Tryz.sizeOf25) ?_
                first | refine .load (i := 22) hs rfl (by kernel_rfl) .none rfl Tryz.isAgg25 ?_ (by repeat (first | exact .here | assumption | exact Mem.row (by omega) (by omega) | refine .there ?_ | refine Mem.app2 ?_)) (by first | rfl | exact ptr_get (by omega) | exact Is_gt (by assumption) (by omega) (by omega) | exact Is_gi (by first | assumption | omega)) | refine .r (i := 22) hs rfl (by kernel_rfl) .none (q_loadR rfl Tryz.isAgg25 (by assumption)) ?_
                refine .z 23 rfl zm ?_
                first | (refine .ixv 24 rfl hs Tryz.runUnderlying25 Tryz.sizeOf3 ?_; intro b131 o131 hc131) | refine .z 24 rfl (zix Tryz.runUnderlying25 Tryz.sizeOf3) ?_
                first | refine .load (i := 25) hs rfl (by kernel_rfl) .none rfl Tryz.isAgg3 ?_ (by repeat (first | exact .here | assumption | exact Mem.row (by omega) (by omega) | refine .there ?_ | refine Mem.app2 ?_)) (by first | rfl | exact ptr_get (by omega) | exact Is_gt (by assumption) (by omega) (by omega) | exact Is_gi (by first | assumption | omega)) | refine .r (i := 25) hs rfl (by kernel_rfl) .none (q_loadR rfl Tryz.isAgg3 (by assumption)) ?_
                refine .z 26 rfl zadd ?_; refine .z 27 rfl zmin ?_; refine .z 28 rfl zmax ?_
                first | (refine .ixv 29 rfl hs Tryz.runUnderlying25 Tryz.sizeOf3 ?_; intro b136 o136 hc136) | refine .z 29 rfl (zix Tryz.runUnderlying25 Tryz.sizeOf3) ?_
                refine .e1 (i := 30) (by kernel_rfl) rfl rfl .none hs ?_ (hp := by repeat (first | exact .nil | refine .cons (by first | exact HLe.bot _ | exact HLe.refl _ | assumption) (by first | exact .nil | (refine Sub.one ?_; repeat (first | exact .here | assumption | exact Mem.row (by omega) (by omega) | refine .there ?_ | refine Mem.app2 ?_))) ?_))
                refine .store hs rfl rfl Tryz.sizeOf3 ?_ (.there (Upd.row _ (by omega) (by omega))) (blt_Is (by rw [hq.2 _ hi]; exact hk)) (Is_set _ _ _); intro w hs
                refine .go ?_
                refine .done (by kernel_rfl) hs ?_ (hp := by repeat (first | exact .nil | refine .cons (by first | exact HLe.bot _ | exact HLe.refl _ | assumption) (by first | exact .nil | (refine Sub.one ?_; repeat (first | exact .here | assumption | exact Mem.row (by omega) (by omega) | refine .there ?_ | refine Mem.app2 ?_))) ?_))
                refine nB (nT ?_)
                exact .mk ⟨rfl, _, hq.set hi _, by rw [gt_set hq hi hk]; exact hI.step hcb hm hi hk (fun a b h => by omega) hb97 hc106, hs⟩
              · refine .skip ?_
                refine nB (nT ?_)
                exact .mk ⟨rfl, rs, hq, hI.skip hcb hm (P := fun a b => a = i ∧ b = k) (fun a b h => by omega) (fun a b _ _ h => by obtain ⟨rfl, rfl⟩ := h; exact .inr hc106), hs⟩
            · refine .gFs 8 8 true rfl rfl rfl ?_
              refine .z zpF (.nil ?_)
              refine (.condF rfl rfl ?_)
              refine .skip ?_
              refine nB (nT ?_)
              exact .mk ⟨rfl, rs, hq, hI.skip hcb hm (P := fun a b => a = i ∧ b = k) (fun a b h => by omega) (fun a b _ _ h => by obtain ⟨rfl, rfl⟩ := h; exact .inl hb97), hs⟩
          · rintro fr w ⟨rfl, rs, hq, hI, hs⟩
            refine nB (nT ?_)
            exact .mk ⟨rfl, rs, hq, hI.skip hcb hm (P := fun a b => a = i ∧ n ≤ b) (fun a b h => by omega) (fun a b _ hb h => by omega), hs⟩
        · rintro fr w ⟨rfl, rs, hq, hI, hs⟩
          replace hI : WayI n s.arcs m (fun _ _ => True) (gt rs) := hI.skip hcb hm (P := fun a _ => n ≤ a) (fun a b h => by omega) (fun a b ha _ h => by omega)
          refine nB (nT ?_)
          exact .mk ⟨rfl, rs, hq, fun h => hI.next hcb h hn65, fun h => hI.done hcb h.symm hn65, hs⟩
      · rintro fr w ⟨rfl, rs, hq, -, hT, hs⟩
        replace hT := hT rfl
        refine nT ?_
        refine .regSeq (.z zm (.z zg (.nil ?_)))
        refine .ret (Fin.ret1 Tryz.results126 rfl ?_)
        obtain ⟨H1, g1, g2, hs⟩ := table_publish hq hbl (by omega) hs
        exact ⟨H1, rs, g1, g2, hq, hT, hs.tail⟩
end Go.Proofs.YtiiokdeehlfeeaaGreat

namespace Go.Proofs.YtiiokdeehlfeeaaGreat
open Go.MW
theorem ref02_Sound_spec {H : Heap} {w : World} {σ : List Ent} {vm : Value} {rs : List (List Int)} {n : Nat} (hs : St H w σ) (hM : RT H vm rs) (hq : Sq n rs) (hn : n ≤ 1000) :
    Cl Tryz.prog 154 [vm] w fun v w' => ∃ b, v = .bool b ∧ (b = true ↔ ∀ i, i < n → ¬ gt rs i i < 0) ∧ St H w' σ := by
  obtain ⟨a, c, rfl⟩ := hM.shape
  have hrl := hq.1
  refine Cl.of Tryz.func154 rfl Tryz.ntmps154 (by simp) (args_cons (k := 0) rfl (args0)) ?_
  refine .regSeq (.z zg (.nil (.seq (.regSeq (.z zm (.z (zlen Tryz.runUnderlying29) (.z zm (.nil ?_))))))))
  refine .for (N := rs.length) (J := fun k fr w => fr = [(0, .slice a rs.length c)] ∧ (∀ i, i < k → ¬ gt rs i i < 0) ∧ St H w σ) (by omega) ?_ ?_ ?_
  · exact .mk ⟨rfl, fun i h => by omega, hs⟩
  · rintro k fr w hk ⟨rfl, h0, hs⟩
    refine .block (.regSeq (.z zm (.z zg (.nil (.regSeq (.z zm (.z zm ?_)))))))
    refine .ixT hs hM rfl rfl Tryz.runUnderlying29 Tryz.sizeOf25 hk rfl ?_; intro b11 o11 a11 c11 hc11 hR11
    refine .q hs (q_loadR rfl Tryz.isAgg25 hc11) ?_
    refine .z zm ?_
    refine .ixY hs hR11 rfl rfl Tryz.runUnderlying25 Tryz.sizeOf3 (gi_get (l := gr rs k) (i := k) (by rw [hq.2 k (by omega)]; omega)) rfl ?_; intro b14 o14 hc14
    refine .q hs (q_loadR rfl Tryz.isAgg3 hc14) ?_
    refine .z zlss (.nil ?_)
    refine (.condD rfl (fun hc16 => ?_) (fun hc16 => ?_))
    · refine .regSeq (.z zg (.nil ?_))
      refine .ret (rB (rT (rB (rT (Fin.ret1 Tryz.results154 rfl ?_)))))
      exact ⟨false, rfl, ⟨fun h => (by cases h), fun h => (h k (by omega) hc16).elim⟩, hs⟩
    · refine .skip ?_
      refine nB (nT ?_)
      exact .mk ⟨rfl, fun i hi => by
        by_cases e : i = k
        · subst e; exact hc16
        · exact h0 i (by omega), hs⟩
  · rintro fr w ⟨rfl, h0, hs⟩
    refine nT ?_
    refine .regSeq (.z zg (.nil ?_))
    refine .ret (Fin.ret1 Tryz.results154 rfl ?_)
    exact ⟨true, rfl, ⟨fun _ i hi => h0 i (by omega), fun _ => rfl⟩, hs⟩
theorem ref02_balance_spec {H : Heap} {w : World} {σ : List Ent} {v : Value} {ws : List Int} {n : Nat} (hs : St H w σ) (hr : RI H v ws) (hl : ws.length = n + 1) (hn : n ≤ 1000) (hz : sizesTo ws (n + 1) ≤ FF) :
    Cl Tryz.prog 206 [v] w fun u w' => ∃ b cap sp lf, u = .slice (some ⟨b, 0, none⟩) (n + 1) cap ∧ lf.length = n + 1 ∧ (∀ v < n + 1, gi lf v = wtOf ws (n + 1) v) ∧ St H w' (.blk b (Is lf ++ sp) :: σ) := by
  obtain ⟨a, c, rfl⟩ := RI.shape hr
  have hFF : FF = 3600000000000 := rfl
  refine Cl.of Tryz.func206 rfl Tryz.ntmps206 (by simp) (args_cons (k := 0) rfl (args0)) ?_
  refine .regSeq (.z zg (.nil (.regSeq ?_)))
  refine .o (.buildSlice (cells := []) hs bls_sl_int_0 rfl rfl ?_); intro b6 w hs
  refine .z zm ?_
  refine .o (.append (xs := []) hs app_sl_int_int rfl rfl (.full (len := 0) rfl) (.ints hr) (Is_cell ws) (fun l' h => by simp at h; obtain rfl : l' = 0 := (by omega); omega) ?_); intro v8 en8 w hO hs
  rw [List.nil_append] at hO
  rcases hO with ⟨_, _, h0, _⟩ | ⟨b8, l8, c8, sp, rfl, rfl, h5, h6, h7⟩
  · exfalso
    have h1 : ws.length = 0 := by simpa using congrArg List.length h0
    omega
  obtain rfl : l8 = n + 1 := by simp at h5; omega
  refine .z zg (.nil (.regSeq (.z zm ?_)))
  refine .q hs (q_ixO (k := 0) rfl rfl Tryz.runUnderlying25 Tryz.sizeOf3 rfl (by omega)) ?_
  refine .o (.store hs rfl rfl Tryz.sizeOf3 ?_ (by repeat constructor) (by simp; omega) (set_sp (by omega) 0 sp)); intro w hs
  refine .nil (.seq (.regSeq (.z zm ?_)))
  refine .q hs (q_sliceLX (k := 1) rfl rfl Tryz.runUnderlying25 Tryz.sizeOf3 rfl (by omega)) ?_
  have hT := RI.tail hr (k := 1) (by omega)
  have hTl : (ws.drop 1).length = n := by rw [List.length_drop]; omega
  refine .z (zlen Tryz.runUnderlying25) (.z zm (.nil ?_))
  refine .for (N := n) (J := fun k fr w => fr = [(12, .slice (if c = 1 then a else a.map (·.add (1 * 1))) (ws.length - 1) (c - 1)), (3, .slice (some ⟨b8, 0, none⟩) (n + 1) c8)] ∧ ∃ lf, (lf.length = n + 1 ∧ gi lf 0 = -tailTo ws k ∧ ∀ v, 0 < v → gi lf v = gi ws v) ∧ St H w (.blk b8 (Is lf ++ sp) :: σ)) (by omega) ?_ ?_ ?_
  · exact .mk ⟨rfl, _, ⟨by simp [hl], by rw [gi_set (by omega), if_pos rfl]; rfl, fun v hv => by rw [gi_set (by omega), if_neg (by omega)]⟩, hs⟩ (hs := .consI rfl rfl (.consI rfl (by omega) (by repeat (first | exact .nil rfl rfl | refine .cons rfl ?_))))
  · rintro k fr w hk ⟨rfl, lf, ⟨h8, h9, h10⟩, hs⟩
    have hx := gi_get (l := ws.drop 1) (i := k) (by omega)
    have e1 : gi (ws.drop 1) k = gi ws (k + 1) := by simp [gi, List.getD]
    have hb1 := tail_bound ws k
    have hb2 := sizes_at ws (v := k + 1) (n := n + 1) (by omega)
    have hb3 := sumTo_mono (f := fun v => max (gi ws v) (-gi ws v)) (fun v => by omega) (k := k + 1) (n := n + 1) (by omega)
    change sizesTo ws (k + 1) ≤ sizesTo ws (n + 1) at hb3
    refine .block (.regSeq ?_)
    refine .ixY hs hT rfl rfl Tryz.runUnderlying25 Tryz.sizeOf3 hx rfl ?_; intro b16 o16 hc16
    refine .q hs (q_loadR rfl Tryz.isAgg3 hc16) ?_
    rw [e1]
    refine .z zg (.nil (.region (.z zm ?_)))
    refine .q hs (q_ixO (k := 0) rfl rfl Tryz.runUnderlying25 Tryz.sizeOf3 rfl (by omega)) ?_
    refine .q hs (q_load rfl Tryz.isAgg3 (hv := Is_get (gi_get (l := lf) (i := 0) (by omega)) sp)) ?_
    refine .z zm (.z zsub ?_)
    refine .q hs (q_ixO (k := 0) rfl rfl Tryz.runUnderlying25 Tryz.sizeOf3 rfl (by omega)) ?_
    refine .o (.store hs rfl rfl Tryz.sizeOf3 ?_ (by repeat constructor) (by simp; omega) (set_sp (by omega) _ sp)); intro w hs
    refine .nil ?_
    refine nB (nT ?_)
    exact .mk ⟨rfl, _, ⟨by simp [h8], by rw [gi_set (by omega), if_pos rfl, h9]; simp only [tailTo, sumTo]; omega, fun v hv => by rw [gi_set (by omega), if_neg (by omega)]; exact h10 v hv⟩, hs⟩
  · rintro fr w ⟨rfl, lf, ⟨h8, h9, h10⟩, hs⟩
    refine nT ?_
    refine .regSeq (.z zm (.z zg (.nil ?_)))
    refine .ret (Fin.ret1 Tryz.results206 rfl ?_)
    exact ⟨b8, c8, sp, lf, rfl, h8, fun v hv => by
      cases v with
      | zero => rw [h9, wt_zero]
      | succ v => rw [h10 _ (by omega), wt_succ], hs⟩
theorem ref02_cost_spec {H : Heap} {w : World} {σ : List Ent} {vm : Value} {Ms Fs : List (List Int)} {n bF : Nat} {bs : List Nat} (hs : St H w σ) (hM : RT H vm Ms) (hqM : Sq n Ms) (hn : n ≤ 1000) (hF0 : Mem σ (.blk bF (bs.map (ptr n)))) (hbl : bs.length = n) (hqF : Sq n Fs) (hF : ∀ i, i < n → Mem σ (.blk (gb bs i) (Is (gr Fs i)))) :
    Cl Tryz.prog 208 [vm, .slice (some ⟨bF, 0, none⟩) n n] w fun v w' => v = I (IntKind.i64.wrap (sumTo (fun a => sumTo (fun b => cell (gt Ms) (gt Fs) a b) n) n)) ∧ St H w' σ := by
  obtain ⟨am, cm, rfl⟩ := hM.shape
  have hml := hqM.1
  have hfl := hqF.1
  refine Cl.of Tryz.func208 rfl Tryz.ntmps208 (by simp) (args_cons (k := 0) rfl (args_cons (k := 1) rfl (args0))) ?_
  refine .regSeq (.z zg (.nil (.regSeq (.z zg (.nil (.seq (.regSeq (.z zm (.z (zlen Tryz.runUnderlying29) ?_)))))))))
  refine .z zm (.nil ?_)
  refine .for (N := n) (J := fun k fr w => fr = [(5, I (IntKind.i64.wrap (sumTo (fun a => sumTo (fun b => cell (gt Ms) (gt Fs) a b) n) k))), (0, .slice am Ms.length cm), (1, .slice (some ⟨bF, 0, none⟩) n n)] ∧ St H w σ) (by omega) ?_ ?_ ?_
  · exact .mk ⟨rfl, hs⟩ (hs := .consI rfl rfl (.consI rfl (by omega) (.consI rfl (by simp [sumTo, i64wrap_eq]) (by repeat (first | exact .nil rfl rfl | refine .cons rfl ?_)))))
  · rintro i fr w hi ⟨rfl, hs⟩
    have hMi : i < Ms.length := by omega
    refine .block (.regSeq (.z zm (.z zg (.nil (.regSeq (.z zm (.z (zlen Tryz.runUnderlying29) (.z zm (.nil ?_)))))))))
    refine .for (N := n) (J := fun k fr w => fr = [(5, I (IntKind.i64.wrap (sumTo (fun a => sumTo (fun b => cell (gt Ms) (gt Fs) a b) n) i + sumTo (fun b => cell (gt Ms) (gt Fs) i b) k))), (6, I (i : Int)), (10, I (i : Int)), (9, I (n : Int)), (0, .slice am Ms.length cm), (1, .slice (some ⟨bF, 0, none⟩) n n)] ∧ St H w σ) (by omega) ?_ ?_ ?_
    · exact .mk ⟨rfl, hs⟩ (hs := .consI rfl rfl (.consI rfl (by omega) (.consI rfl (by simp [sumTo]) (by repeat (first | exact .nil rfl rfl | refine .cons rfl ?_)))))
    · rintro k fr w hk ⟨rfl, hs⟩
      have hrM : (gr Ms i).length = n := hqM.2 i hi
      have hFi := hF i hi
      have hgi : ∀ z, 0 < gt Fs i k → z = gt Fs i k * gt Ms i k → z = cell (gt Ms) (gt Fs) i k := fun z h e => by unfold cell; rw [if_pos h, e]
      refine .block (.regSeq (.z zm (.z zg (.nil (.regSeq (.z zm (.z zm ?_)))))))
      refine .q hs (q_ixO (k := i) rfl rfl Tryz.runUnderlying29 Tryz.sizeOf25 rfl hi) ?_
      refine .q hs (q_load rfl Tryz.isAgg25 (hm := hF0) (hv := ptr_get (by omega))) ?_
      refine .z zm ?_
      refine .q hs (q_ixO (k := k) rfl rfl Tryz.runUnderlying25 Tryz.sizeOf3 rfl hk) ?_
      refine .q hs (q_load rfl Tryz.isAgg3 (hm := hF i hi) (hv := Is_gt hqF hi hk)) ?_
      refine .z zgtr (.nil ?_)
      refine (.condD rfl (fun hc25 => ?_) (fun hc25 => ?_))
      · refine .draw mix rfl hs ?_; intro w hs
        refine .z 0 rfl zm ?_; refine .z 1 rfl zm ?_; refine .z 2 rfl zm ?_
        refine .p (i := 3) rfl (by kernel_rfl) .none (q_ixO (k := i) rfl rfl Tryz.runUnderlying29 Tryz.sizeOf25 rfl hi) ?_
        refine .load (i := 4) hs rfl (by kernel_rfl) .none rfl Tryz.isAgg25 ?_ hF0 (ptr_get (by omega))
        refine .z 5 rfl zm ?_
        refine .p (i := 6) rfl (by kernel_rfl) .none (q_ixO (k := k) rfl rfl Tryz.runUnderlying25 Tryz.sizeOf3 rfl hk) ?_
        refine .load (i := 7) hs rfl (by kernel_rfl) .none rfl Tryz.isAgg3 ?_ (hF i hi) (Is_gt hqF hi hk)
        refine .z 8 rfl zm ?_; refine .z 9 rfl zm ?_
        refine .ixT (i := 10) hs rfl (by kernel_rfl) .none hM rfl rfl Tryz.runUnderlying29 Tryz.sizeOf25 hMi rfl ?_; intro b36 o36 a36 c36 hc36 hR36
        refine .r (i := 11) hs rfl (by kernel_rfl) .none (q_loadR rfl Tryz.isAgg25 hc36) ?_
        refine .z 12 rfl zm ?_
        refine .ixX (enc := fun x => [I x]) (i := 13) hs rfl (by kernel_rfl) .none hR36 rfl rfl Tryz.runUnderlying25 Tryz.sizeOf3 (gi_get (l := gr Ms i) (i := k) (by omega)) rfl ?_; intro b39 o39 hc39; replace hc39 := CellsAt.one hc39
        refine .r (i := 14) hs rfl (by kernel_rfl) .none (q_loadR rfl Tryz.isAgg3 hc39) ?_
        refine .p (i := 15) rfl (by kernel_rfl) .none (q_mul rfl rfl) ?_
        refine .p (i := 16) rfl (by kernel_rfl) .none (q_add rfl rfl) ?_
        refine .z 17 rfl zg ?_
        refine .done (by kernel_rfl) hs ?_ (hp := by repeat (first | exact .nil | refine .cons (by first | exact HLe.bot _ | exact HLe.refl _ | assumption) (by first | exact .nil | (refine Sub.one ?_; repeat (first | exact .here | assumption | exact Mem.row (by omega) (by omega) | refine .there ?_ | refine Mem.app2 ?_))) ?_))
        refine nB (nT ?_)
        exact .mk ⟨rfl, hs⟩ (hs := .consI rfl (by omega) (.consI rfl rfl (.consI rfl (by
          rw [i64wrap_add2, i64wrap_add, show gt Fs i k * gi (gr Ms i) k = cell (gt Ms) (gt Fs) i k from hgi _ hc25 rfl]
          simp only [sumTo]
          congr 1; omega) (by repeat (first | exact .nil rfl rfl | refine .cons rfl ?_)))))
      · refine .skip ?_
        refine nB (nT ?_)
        exact .mk ⟨rfl, hs⟩ (hs := .consI rfl (by omega) (.consI rfl rfl (.consI rfl (by
          have : cell (gt Ms) (gt Fs) i k = 0 := by unfold cell; rw [if_neg hc25]
          simp only [sumTo, this]
          congr 1; omega) (by repeat (first | exact .nil rfl rfl | refine .cons rfl ?_)))))
    · rintro fr w ⟨rfl, hs⟩
      refine nB (nT ?_)
      exact .mk ⟨rfl, hs⟩ (hs := .consI rfl (by omega) (.consI rfl rfl (.consI rfl (by simp only [sumTo]) (by repeat (first | exact .nil rfl rfl | refine .cons rfl ?_)))))
  · rintro fr w ⟨rfl, hs⟩
    refine nT ?_
    refine .regSeq (.z zm (.z zg (.nil ?_)))
    refine .ret (Fin.ret1 Tryz.results208 rfl ?_)
    exact ⟨rfl, hs⟩
end Go.Proofs.YtiiokdeehlfeeaaGreat

namespace Go.Proofs.YtiiokdeehlfeeaaGreat
open Go.MW
set_option maxHeartbeats 8000000 in
theorem ref02_reach_spec {H : Heap} {w : World} {σ : List Ent} {vm : Value} {Ms Fs : List (List Int)} {n bF bN capN : Nat} {bs : List Nat} {spN : List Value} {need ts : List Int} {es : List Arc} {D : Nat → Int} (hs : St H w σ) (hM : RT H vm Ms) (hqM : Sq n Ms)
    (hF0 : Mem σ (.blk bF (bs.map (ptr n)))) (hbl : bs.length = n) (hqF : Sq n Fs) (hF : ∀ i, i < n → Mem σ (.blk (gb bs i) (Is (gr Fs i)))) (hN : Mem σ (.blk bN (Is need ++ spN))) (hNl : need.length = n)
    (hT : Tab n (gt Ms) es) (hC : Corr n es ts (gt Fs)) (hg : VG n (resid es ts) D) :
    Cl Tryz.prog 207 [vm, .slice (some ⟨bF, 0, none⟩) n n, .slice (some ⟨bN, 0, none⟩) n capN] w fun u w' => ∃ H1 vd vb s, HLe H H1 ∧ u = .tuple #[vd, vb] ∧ RI H1 vd s.cost ∧ RS H1 2 vb (s.by_.map (stepC es)) ∧ VInv n (resid es ts) (fun v => gi need v < 0) D (fun _ => True) false s ∧ St H1 w' σ := by
  obtain ⟨am, cm, rfl⟩ := hM.shape
  obtain rfl : n = Ms.length := hqM.1.symm
  have hfl := hqF.1
  have hn0 := hg.n0
  have hfree : free = 1000000000 := rfl
  have hn65 := hg.n1
  have hD0 := hg.d0
  have hD1 := hg.d1
  have harc : ∀ x ∈ es, -1400000 ≤ x.c ∧ x.c ≤ 1400000 := fun x hx => by have := hg.ok x ((resid_iff hT hC).2 (.inl hx)); omega
  refine Cl.of Tryz.func207 rfl Tryz.ntmps207 (by simp) (args_cons (k := 0) rfl (args_cons (k := 1) rfl (args_cons (k := 2) rfl (args0)))) ?_
  refine .regSeq (.z zg (.z zg (.nil (.regSeq (.z zm (.z (zlen Tryz.runUnderlying29) ?_))))))
  refine .o (.makeI Ms.length hs rfl rfl Tryz.runUnderlying25 Tryz.typeInfo3 rfl Tryz.sizeOf3 Tryz.zeroValue3 (by omega) ?_); intro b16 w hs
  refine .z zg (.nil (.regSeq (.z zm (.z (zlen Tryz.runUnderlying29) ?_))))
  refine .o (.makeS Ms.length hs rfl rfl Tryz.runUnderlying221 Tryz.typeInfo226 rfl Tryz.sizeOf226 Tryz.zeroValue226 (by omega) ?_); intro b19 w hs
  refine .z zg (.nil (.seq (.regSeq (.z zm (.z (zlen Tryz.runUnderlying25) (.z zm (.nil ?_)))))))
  refine .for (N := Ms.length) (J := fun k fr w => fr = [(8, .slice (some ⟨b16, 0, none⟩) Ms.length Ms.length), (9, .slice (some ⟨b19, 0, none⟩) Ms.length Ms.length), (0, .slice am Ms.length cm), (1, .slice (some ⟨bF, 0, none⟩) Ms.length Ms.length), (2, .slice (some ⟨bN, 0, none⟩) Ms.length capN)] ∧ ∃ C, (C.length = Ms.length ∧ ∀ v < k, gi C v = if gi need v < 0 then 0 else free) ∧ St H w (.blk b19 (List.replicate k [I (-1), Value.bool false] ++ List.replicate (Ms.length - k) [I 0, Value.bool false]).flatten :: .blk b16 (Is C) :: σ)) (by omega) ?_ ?_ ?_
  · exact .mk ⟨rfl, _, ⟨by simp, fun v hv => by omega⟩, hs⟩
  · rintro k fr w hk ⟨rfl, C, ⟨hC1, hC2⟩, hs⟩
    have hstp := rep_set2 Ms.length hk [I (-1), Value.bool false] rfl [I 0, Value.bool false] rfl
    refine .block (.regSeq (.z zm (.z zg (.nil (.regSeq (.z zm (.z zm ?_)))))))
    first | (refine .ixv hs Tryz.runUnderlying25 Tryz.sizeOf3 ?_; intro b27 o27 hc27) | refine .z (zix Tryz.runUnderlying25 Tryz.sizeOf3) ?_
    refine .o (.store hs rfl rfl Tryz.sizeOf3 ?_); intro w hs
    refine .nil (.regSeq (.z zm (.z zm (.z (zbd [_, _] bld_moorsomref02_step) ?_))))
    first | (refine .ixw hs Tryz.runUnderlying221 Tryz.sizeOf226 ?_; intro b31 o31 hc31) | refine .z (zixm Tryz.runUnderlying221 Tryz.sizeOf226) ?_
    refine .o (.stores (vs := [I (-1), Value.bool false]) hs rfl rfl Tryz.sizeOf226 ?_ (by repeat constructor) (by simp; omega) hstp); intro w hs
    refine .nil (.regSeq (.z zm (.z zm ?_)))
    first | (refine .ixv hs Tryz.runUnderlying25 Tryz.sizeOf3 ?_; intro b34 o34 hc34) | refine .z (zix Tryz.runUnderlying25 Tryz.sizeOf3) ?_
    refine .q hs (q_load rfl Tryz.isAgg3 (hm := .there (.there hN)) (hv := Is_get (gi_get (l := need) (i := k) (by omega)) spN)) ?_
    refine .z zlss (.nil ?_)
    refine (.condD rfl (fun hc36 => ?_) (fun hc36 => ?_))
    · refine .region (.z zm (.z zm ?_))
      first | (refine .ixv hs Tryz.runUnderlying25 Tryz.sizeOf3 ?_; intro b39 o39 hc39) | refine .z (zix Tryz.runUnderlying25 Tryz.sizeOf3) ?_
      refine .o (.store hs rfl rfl Tryz.sizeOf3 ?_ (by repeat constructor) (blt_Is (by rw [List.length_set]; omega)) (Is_set _ _ _)); intro w hs
      refine .nil ?_
      refine nB (nT ?_)
      exact .mk ⟨rfl, _, ⟨by simp [hC1], fun v hv => by
        rw [gi_set (by rw [List.length_set]; omega)]
        by_cases e : v = k
        · subst e; rw [if_pos rfl, if_pos hc36]
        · rw [if_neg e, gi_set (by omega), if_neg e]; exact hC2 v (by omega)⟩, hs⟩
    · refine .skip ?_
      refine nB (nT ?_)
      exact .mk ⟨rfl, _, ⟨by simp [hC1], fun v hv => by
        rw [gi_set (by omega)]
        by_cases e : v = k
        · subst e; rw [if_pos rfl, if_neg hc36]
        · rw [if_neg e]; exact hC2 v (by omega)⟩, hs⟩
  · rintro fr w ⟨rfl, C, ⟨hC1, hC2⟩, hs⟩
    rw [Nat.sub_self, List.replicate_zero, List.append_nil, StepsC_rep es] at hs
    have hI : VInit Ms.length need Ms.length ⟨C, List.replicate Ms.length ⟨0, 0, 0, -1⟩⟩ := ⟨hC1, by simp, hC2, fun v hv => ga_replicate _ _ hv⟩
    have hV0 := hI.inv (Dn := fun _ => True) hg
    refine nT ?_
    refine .seq (.regSeq (.z zg (.nil (.block ?_))))
    refine .loop (fun p : Bool × BS => ⟨160, [], [(11, .bool p.1), (8, .slice (some ⟨b16, 0, none⟩) Ms.length Ms.length), (9, .slice (some ⟨b19, 0, none⟩) Ms.length Ms.length), (0, .slice am Ms.length cm), (1, .slice (some ⟨bF, 0, none⟩) Ms.length Ms.length), (2, .slice (some ⟨bN, 0, none⟩) Ms.length capN)]⟩) (fun p w => VInv Ms.length (resid es ts) (fun v => gi need v < 0) D (fun _ => True) p.1 p.2 ∧ St H w (.blk b19 (StepsC es p.2.by_) :: .blk b16 (Is p.2.cost) :: σ)) (fun p => 2 * WMv Ms.length D p.2 + (if p.1 then 1 else 0)) (true, ⟨C, List.replicate Ms.length ⟨0, 0, 0, -1⟩⟩) (by repeat (first | exact .nil rfl rfl | refine .cons rfl ?_)) ⟨hV0, hs⟩ ?_
    rintro ⟨ag, s⟩ w ⟨hV, hs⟩
    dsimp only at hV hs ⊢
    refine .seq (.regSeq (.z zm (.nil ?_)))
    refine (.cond rfl (fun hc41 => ?_) (fun hc41 => ?_))
    · refine .skip ?_
      refine nT ?_
      refine .block (.regSeq (.z zg (.nil (.regSeq (.z zm (.z (zlen Tryz.runUnderlying29) (.z zm (.nil ?_))))))))
      refine .for (N := Ms.length) (J := fun a fr w => ∃ ag s', fr = [(11, .bool ag), (8, .slice (some ⟨b16, 0, none⟩) Ms.length Ms.length), (9, .slice (some ⟨b19, 0, none⟩) Ms.length Ms.length), (0, .slice am Ms.length cm), (1, .slice (some ⟨bF, 0, none⟩) Ms.length Ms.length), (2, .slice (some ⟨bN, 0, none⟩) Ms.length capN)] ∧ VInv Ms.length (resid es ts) (fun v => gi need v < 0) D (Upto a 0) ag s' ∧ (WMv Ms.length D s' ≤ WMv Ms.length D s ∧ (ag = true → WMv Ms.length D s' < WMv Ms.length D s)) ∧ St H w (.blk b19 (StepsC es s'.by_) :: .blk b16 (Is s'.cost) :: σ)) (by omega) ?_ ?_ ?_
      · exact .mk ⟨false, s, rfl, hV.next.zero, ⟨Nat.le_refl _, fun h => by cases h⟩, hs⟩
      · rintro a fr w ha ⟨ag', s', rfl, hV', hW, hs⟩
        have hlc := hV'.lc
        have htop := hV'.top a ha
        refine .block (.regSeq (.z zm (.z zg (.nil (.seq (.regSeq (.z zm (.z zm ?_))))))))
        first | (refine .ixv hs Tryz.runUnderlying25 Tryz.sizeOf3 ?_; intro b49 o49 hc49) | refine .z (zix Tryz.runUnderlying25 Tryz.sizeOf3) ?_
        first | refine .q hs (q_load rfl Tryz.isAgg3 (hm := by repeat (first | exact .here | assumption | exact Mem.row (by omega) (by omega) | refine .there ?_ | refine Mem.app2 ?_)) (hv := by first | rfl | exact ptr_get (by omega) | exact Is_gt (by assumption) (by omega) (by omega) | exact Is_gi (by first | assumption | omega))) ?_ | refine .q hs (q_loadR rfl Tryz.isAgg3 (by assumption)) ?_
        refine .z zeql (.nil ?_)
        refine (.condD rfl (fun hc51 => ?_) (fun hc51 => ?_))
        · refine .exit ?_
          refine xT (xB (nT ?_))
          exact .mk ⟨ag', s', rfl, hV'.far hc51, hW, hs⟩
        · refine .skip ?_
          refine nT ?_
          refine .regSeq (.z zm (.z (zlen Tryz.runUnderlying29) (.z zm (.nil ?_))))
          refine .for (N := Ms.length) (J := fun b fr w => ∃ ag s', fr = [(11, .bool ag), (12, I (a : Int)), (44, I (a : Int)), (43, I (Ms.length : Int)), (8, .slice (some ⟨b16, 0, none⟩) Ms.length Ms.length), (9, .slice (some ⟨b19, 0, none⟩) Ms.length Ms.length), (0, .slice am Ms.length cm), (1, .slice (some ⟨bF, 0, none⟩) Ms.length Ms.length), (2, .slice (some ⟨bN, 0, none⟩) Ms.length capN)] ∧ VInv Ms.length (resid es ts) (fun v => gi need v < 0) D (Upto a b) ag s' ∧ (WMv Ms.length D s' ≤ WMv Ms.length D s ∧ (ag = true → WMv Ms.length D s' < WMv Ms.length D s)) ∧ gi s'.cost a < free ∧ St H w (.blk b19 (StepsC es s'.by_) :: .blk b16 (Is s'.cost) :: σ)) (by omega) ?_ ?_ ?_
          · exact .mk ⟨ag', s', rfl, hV', hW, by simp only [free]; omega, hs⟩
          · clear hV' hlc htop hW
            rintro b fr w hb ⟨ag', s', rfl, hV', hW, hfa, hs⟩
            have hlc := hV'.lc
            have hlow := hV'.low hg ha hfa
            have hlo := hV'.lo a ha
            have hDa := hD1 a ha
            have htop := hV'.top b hb
            have hrowA : (gr Ms a).length = Ms.length := hqM.2 a ha
            have hrowB : (gr Ms b).length = Ms.length := hqM.2 b hb
            have hFb := hF b hb
            refine .block (.regSeq (.z zm (.z zg (.nil ?_))))
            refine .cut (fun fs w => ∃ ag s', FSub fs ⟨160, [], [(11, .bool ag), (13, I (b : Int)), (54, I (b : Int)), (53, I (Ms.length : Int)), (12, I (a : Int)), (44, I (a : Int)), (43, I (Ms.length : Int)), (8, .slice (some ⟨b16, 0, none⟩) Ms.length Ms.length), (9, .slice (some ⟨b19, 0, none⟩) Ms.length Ms.length), (0, .slice am Ms.length cm), (1, .slice (some ⟨bF, 0, none⟩) Ms.length Ms.length), (2, .slice (some ⟨bN, 0, none⟩) Ms.length capN)]⟩ ∧ VInv Ms.length (resid es ts) (fun v => gi need v < 0) D (UptoF es a b) ag s' ∧ (WMv Ms.length D s' ≤ WMv Ms.length D s ∧ (ag = true → WMv Ms.length D s' < WMv Ms.length D s)) ∧ gi s'.cost a < free ∧ St H w (.blk b19 (StepsC es s'.by_) :: .blk b16 (Is s'.cost) :: σ)) ?_ ?_
            · refine .cut (fun fs w => ∃ p, FSub fs ⟨160, [], [(88, .bool p), (11, .bool ag'), (13, I (b : Int)), (54, I (b : Int)), (53, I (Ms.length : Int)), (12, I (a : Int)), (44, I (a : Int)), (43, I (Ms.length : Int)), (8, .slice (some ⟨b16, 0, none⟩) Ms.length Ms.length), (9, .slice (some ⟨b19, 0, none⟩) Ms.length Ms.length), (0, .slice am Ms.length cm), (1, .slice (some ⟨bF, 0, none⟩) Ms.length Ms.length), (2, .slice (some ⟨bN, 0, none⟩) Ms.length capN)]⟩ ∧ (p = true → a ≠ b ∧ gt Ms a b ≠ free ∧ gi s'.cost a + gt Ms a b < gi s'.cost b) ∧ (p = false → a = b ∨ gt Ms a b = free ∨ ¬ gi s'.cost a + gt Ms a b < gi s'.cost b) ∧ St H w (.blk b19 (StepsC es s'.by_) :: .blk b16 (Is s'.cost) :: σ)) ?_ ?_
              · refine .draw mix rfl hs ?_; intro w hs
                refine .z 0 rfl zm ?_; refine .z 1 rfl zm ?_; refine .z 2 rfl zneq ?_; refine .z 3 rfl zm ?_
                refine .bifN (t' := 60) rfl (fun hb60 => ?_) (fun hb60 => ?_)
                · refine .z 4 rfl zm ?_; refine .z 5 rfl zm ?_
                  refine .ixT (i := 6) hs rfl (by kernel_rfl) (.some rfl rfl) hM rfl rfl Tryz.runUnderlying29 Tryz.sizeOf25 ha rfl ?_; intro b63 o63 a63 c63 hc63 hR63
                  refine .r (i := 7) hs rfl (by kernel_rfl) (.some rfl rfl) (q_loadR rfl Tryz.isAgg25 hc63) ?_
                  refine .z 8 rfl zm ?_
                  refine .ixX (enc := fun x => [I x]) (i := 9) hs rfl (by kernel_rfl) (.some rfl rfl) hR63 rfl rfl Tryz.runUnderlying25 Tryz.sizeOf3 (gi_get (l := _) (i := b) (by omega)) rfl ?_; intro b66 o66 hc66; replace hc66 := CellsAt.one hc66
                  refine .r (i := 10) hs rfl (by kernel_rfl) (.some rfl rfl) (q_loadR rfl Tryz.isAgg3 hc66) ?_
                  refine .z 11 rfl zneq ?_; refine .z 12 rfl zpT ?_; refine .z 13 rfl zm ?_
                  refine .bifN (t' := 70) rfl (fun hb70 => ?_) (fun hb70 => ?_)
                  · refine .z 14 rfl zm ?_; refine .z 15 rfl zm ?_
                    have hfin : gt Ms a b ≠ free := hb70
                    have hMb : -1400000 ≤ gi (gr Ms a) b ∧ gi (gr Ms a) b ≤ 1400000 := by
                      obtain ⟨x, hx, e1, e2⟩ := hT.all a b ha hb (fun e => hb60 (by rw [e])) hfin
                      have h1 := harc x hx
                      have h2 := (hT.ok x hx).2.2.2.1
                      rw [e1, e2] at h2
                      change gi (gr Ms a) b = x.c at h2
                      omega
                    first | (refine .ixv 16 rfl hs Tryz.runUnderlying25 Tryz.sizeOf3 ?_; intro b73 o73 hc73) | refine .z 16 rfl (zix Tryz.runUnderlying25 Tryz.sizeOf3) ?_
                    first | refine .load (i := 17) hs rfl (by kernel_rfl) (.some rfl rfl) rfl Tryz.isAgg3 ?_ (by repeat (first | exact .here | assumption | exact Mem.row (by omega) (by omega) | refine .there ?_ | refine Mem.app2 ?_)) (by first | rfl | exact ptr_get (by omega) | exact Is_gt (by assumption) (by omega) (by omega) | exact Is_gi (by first | assumption | omega)) | refine .r (i := 17) hs rfl (by kernel_rfl) (.some rfl rfl) (q_loadR rfl Tryz.isAgg3 (by assumption)) ?_
                    refine .z 18 rfl zm ?_; refine .z 19 rfl zm ?_
                    refine .ixT (i := 20) hs rfl (by kernel_rfl) (.some rfl rfl) hM rfl rfl Tryz.runUnderlying29 Tryz.sizeOf25 ha rfl ?_; intro b77 o77 a77 c77 hc77 hR77
                    refine .r (i := 21) hs rfl (by kernel_rfl) (.some rfl rfl) (q_loadR rfl Tryz.isAgg25 hc77) ?_
                    refine .z 22 rfl zm ?_
                    refine .ixX (enc := fun x => [I x]) (i := 23) hs rfl (by kernel_rfl) (.some rfl rfl) hR77 rfl rfl Tryz.runUnderlying25 Tryz.sizeOf3 (gi_get (l := _) (i := b) (by omega)) rfl ?_; intro b80 o80 hc80; replace hc80 := CellsAt.one hc80
                    refine .r (i := 24) hs rfl (by kernel_rfl) (.some rfl rfl) (q_loadR rfl Tryz.isAgg3 hc80) ?_
                    refine .z 25 rfl zadd ?_; refine .z 26 rfl zm ?_; refine .z 27 rfl zm ?_
                    first | (refine .ixv 28 rfl hs Tryz.runUnderlying25 Tryz.sizeOf3 ?_; intro b85 o85 hc85) | refine .z 28 rfl (zix Tryz.runUnderlying25 Tryz.sizeOf3) ?_
                    first | refine .load (i := 29) hs rfl (by kernel_rfl) (.some rfl rfl) rfl Tryz.isAgg3 ?_ (by repeat (first | exact .here | assumption | exact Mem.row (by omega) (by omega) | refine .there ?_ | refine Mem.app2 ?_)) (by first | rfl | exact ptr_get (by omega) | exact Is_gt (by assumption) (by omega) (by omega) | exact Is_gi (by first | assumption | omega)) | refine .r (i := 29) hs rfl (by kernel_rfl) (.some rfl rfl) (q_loadR rfl Tryz.isAgg3 (by assumption)) ?_
                    refine .z 30 rfl zlss ?_; refine .z 31 rfl zpT ?_
                    refine .done (by kernel_rfl) hs ?_ (hp := by repeat (first | exact .nil | refine .cons (by first | exact HLe.bot _ | exact HLe.refl _ | assumption) (by first | exact .nil | (refine Sub.one ?_; repeat (first | exact .here | assumption | exact Mem.row (by omega) (by omega) | refine .there ?_ | refine Mem.app2 ?_))) ?_))
                    exact nT ⟨_, by repeat (first | exact .nil rfl rfl | refine .cons rfl ?_), by
                      intro hp
                      first
                        | (cases hp; done)
                        | exact ⟨fun e => hb60 (by rw [e]), hb70, of_decide_eq_true hp⟩, by
                      intro hp
                      first
                        | (cases hp; done)
                        | exact .inl (by omega)
                        | exact .inr (.inl hb70)
                        | exact .inr (.inr (of_decide_eq_false hp)), hs⟩
                  · refine .qF (i := 14) rfl (by kernel_rfl) rfl rfl ?_
                    refine .qF (i := 15) rfl (by kernel_rfl) rfl rfl ?_
                    refine .qF (i := 16) rfl (by kernel_rfl) rfl rfl ?_
                    refine .qF (i := 17) rfl (by kernel_rfl) rfl rfl ?_
                    refine .qF (i := 18) rfl (by kernel_rfl) rfl rfl ?_
                    refine .qF (i := 19) rfl (by kernel_rfl) rfl rfl ?_
                    refine .qF (i := 20) rfl (by kernel_rfl) rfl rfl ?_
                    refine .qF (i := 21) rfl (by kernel_rfl) rfl rfl ?_
                    refine .qF (i := 22) rfl (by kernel_rfl) rfl rfl ?_
                    refine .qF (i := 23) rfl (by kernel_rfl) rfl rfl ?_
                    refine .qF (i := 24) rfl (by kernel_rfl) rfl rfl ?_
                    refine .qF (i := 25) rfl (by kernel_rfl) rfl rfl ?_
                    refine .qF (i := 26) rfl (by kernel_rfl) rfl rfl ?_
                    refine .qF (i := 27) rfl (by kernel_rfl) rfl rfl ?_
                    refine .qF (i := 28) rfl (by kernel_rfl) rfl rfl ?_
                    refine .qF (i := 29) rfl (by kernel_rfl) rfl rfl ?_
                    refine .qF (i := 30) rfl (by kernel_rfl) rfl rfl ?_
                    refine .z 31 rfl zpF ?_
                    refine .done (by kernel_rfl) hs ?_ (hp := by repeat (first | exact .nil | refine .cons (by first | exact HLe.bot _ | exact HLe.refl _ | assumption) (by first | exact .nil | (refine Sub.one ?_; repeat (first | exact .here | assumption | exact Mem.row (by omega) (by omega) | refine .there ?_ | refine Mem.app2 ?_))) ?_))
                    exact nT ⟨_, by repeat (first | exact .nil rfl rfl | refine .cons rfl ?_), by
                      intro hp
                      first
                        | (cases hp; done)
                        | exact ⟨fun e => hb60 (by rw [e]), hb70, of_decide_eq_true hp⟩, by
                      intro hp
                      first
                        | (cases hp; done)
                        | exact .inl (by omega)
                        | exact .inr (.inl hb70)
                        | exact .inr (.inr (of_decide_eq_false hp)), hs⟩
                · refine .qF (i := 4) rfl (by kernel_rfl) rfl rfl ?_
                  refine .qF (i := 5) rfl (by kernel_rfl) rfl rfl ?_
                  refine .qF (i := 6) rfl (by kernel_rfl) rfl rfl ?_
                  refine .qF (i := 7) rfl (by kernel_rfl) rfl rfl ?_
                  refine .qF (i := 8) rfl (by kernel_rfl) rfl rfl ?_
                  refine .qF (i := 9) rfl (by kernel_rfl) rfl rfl ?_
                  refine .qF (i := 10) rfl (by kernel_rfl) rfl rfl ?_
                  refine .qF (i := 11) rfl (by kernel_rfl) rfl rfl ?_
                  refine .z 12 rfl zpF ?_; refine .z 13 rfl zm ?_
                  refine .qF (i := 14) rfl (by kernel_rfl) rfl rfl ?_
                  refine .qF (i := 15) rfl (by kernel_rfl) rfl rfl ?_
                  refine .qF (i := 16) rfl (by kernel_rfl) rfl rfl ?_
                  refine .qF (i := 17) rfl (by kernel_rfl) rfl rfl ?_
                  refine .qF (i := 18) rfl (by kernel_rfl) rfl rfl ?_
                  refine .qF (i := 19) rfl (by kernel_rfl) rfl rfl ?_
                  refine .qF (i := 20) rfl (by kernel_rfl) rfl rfl ?_
                  refine .qF (i := 21) rfl (by kernel_rfl) rfl rfl ?_
                  refine .qF (i := 22) rfl (by kernel_rfl) rfl rfl ?_
                  refine .qF (i := 23) rfl (by kernel_rfl) rfl rfl ?_
                  refine .qF (i := 24) rfl (by kernel_rfl) rfl rfl ?_
                  refine .qF (i := 25) rfl (by kernel_rfl) rfl rfl ?_
                  refine .qF (i := 26) rfl (by kernel_rfl) rfl rfl ?_
                  refine .qF (i := 27) rfl (by kernel_rfl) rfl rfl ?_
                  refine .qF (i := 28) rfl (by kernel_rfl) rfl rfl ?_
                  refine .qF (i := 29) rfl (by kernel_rfl) rfl rfl ?_
                  refine .qF (i := 30) rfl (by kernel_rfl) rfl rfl ?_
                  refine .z 31 rfl zpF ?_
                  refine .done (by kernel_rfl) hs ?_ (hp := by repeat (first | exact .nil | refine .cons (by first | exact HLe.bot _ | exact HLe.refl _ | assumption) (by first | exact .nil | (refine Sub.one ?_; repeat (first | exact .here | assumption | exact Mem.row (by omega) (by omega) | refine .there ?_ | refine Mem.app2 ?_))) ?_))
                  exact nT ⟨_, by repeat (first | exact .nil rfl rfl | refine .cons rfl ?_), by
                    intro hp
                    first
                      | (cases hp; done)
                      | exact ⟨fun e => hb60 (by rw [e]), hb70, of_decide_eq_true hp⟩, by
                    intro hp
                    first
                      | (cases hp; done)
                      | exact .inl (by omega)
                      | exact .inr (.inl hb70)
                      | exact .inr (.inr (of_decide_eq_false hp)), hs⟩
              · rintro fs w ⟨p, hfs, hp1, hp2, hs⟩
                refine WE.sub ?_ hfs
                refine (.cond rfl (fun hc88 => ?_) (fun hc88 => ?_))
                · refine .seq (.draw mix rfl hs ?_); intro w hs
                  obtain ⟨hab, hfin, hlt⟩ := hp1 hc88
                  obtain ⟨x, hx, e1, e2⟩ := hT.all a b ha hb hab hfin
                  have e3 : gi (gr Ms a) b = x.c := by
                    have h2 := (hT.ok x hx).2.2.2.1
                    rw [e1, e2] at h2; exact h2
                  have hxc := harc x hx
                  have hxl : ¬ x.l < 0 := by have := (hT.at hx).2; omega
                  have hstp : stepC es x = [I (a : Int), .bool false] := by
                    unfold stepC
                    rw [if_neg hxl, e1]
                    simp [(hT.fwd_iff hx).1]
                  have hset : setL (StepsC es s'.by_) (b * 2) [I (a : Int), Value.bool false] = StepsC es (s'.by_.set b x) := by rw [← hstp]; exact setL_two (by have := hV'.lb; omega) x
                  have hsr : s'.rlx x = ⟨s'.cost.set b (gi s'.cost a + gi (gr Ms a) b), s'.by_.set b x⟩ := by unfold BS.rlx; rw [e1, e2, e3]
                  have hcan : s'.can x := by unfold BS.can; rw [e1, e2, ← e3]; exact hlt
                  have hxm : x ∈ resid es ts := (resid_iff hT hC).2 (.inl hx)
                  have hlb := hV'.lb
                  refine .z 0 rfl zm ?_; refine .z 1 rfl zm ?_; refine .z 2 rfl zm ?_; refine .z 3 rfl zm ?_
                  first | (refine .ixv 4 rfl hs Tryz.runUnderlying25 Tryz.sizeOf3 ?_; intro b93 o93 hc93) | refine .z 4 rfl (zix Tryz.runUnderlying25 Tryz.sizeOf3) ?_
                  first | refine .load (i := 5) hs rfl (by kernel_rfl) .none rfl Tryz.isAgg3 ?_ (by repeat (first | exact .here | assumption | exact Mem.row (by omega) (by omega) | refine .there ?_ | refine Mem.app2 ?_)) (by first | rfl | exact ptr_get (by omega) | exact Is_gt (by assumption) (by omega) (by omega) | exact Is_gi (by first | assumption | omega)) | refine .r (i := 5) hs rfl (by kernel_rfl) .none (q_loadR rfl Tryz.isAgg3 (by assumption)) ?_
                  refine .z 6 rfl zm ?_; refine .z 7 rfl zm ?_
                  refine .ixT (i := 8) hs rfl (by kernel_rfl) .none hM rfl rfl Tryz.runUnderlying29 Tryz.sizeOf25 ha rfl ?_; intro b97 o97 a97 c97 hc97 hR97
                  refine .r (i := 9) hs rfl (by kernel_rfl) .none (q_loadR rfl Tryz.isAgg25 hc97) ?_
                  refine .z 10 rfl zm ?_
                  refine .ixX (enc := fun x => [I x]) (i := 11) hs rfl (by kernel_rfl) .none hR97 rfl rfl Tryz.runUnderlying25 Tryz.sizeOf3 (gi_get (l := _) (i := b) (by omega)) rfl ?_; intro b100 o100 hc100; replace hc100 := CellsAt.one hc100
                  refine .r (i := 12) hs rfl (by kernel_rfl) .none (q_loadR rfl Tryz.isAgg3 hc100) ?_
                  refine .z 13 rfl zadd ?_
                  first | (refine .ixv 14 rfl hs Tryz.runUnderlying25 Tryz.sizeOf3 ?_; intro b103 o103 hc103) | refine .z 14 rfl (zix Tryz.runUnderlying25 Tryz.sizeOf3) ?_
                  refine .e1 (i := 15) (by kernel_rfl) rfl rfl .none hs ?_ (hp := by repeat (first | exact .nil | refine .cons (by first | exact HLe.bot _ | exact HLe.refl _ | assumption) (by first | exact .nil | (refine Sub.one ?_; repeat (first | exact .here | assumption | exact Mem.row (by omega) (by omega) | refine .there ?_ | refine Mem.app2 ?_))) ?_))
                  refine .store hs rfl rfl Tryz.sizeOf3 ?_; intro w hs
                  refine .go ?_
                  refine .done (by kernel_rfl) hs ?_ (hp := by repeat (first | exact .nil | refine .cons (by first | exact HLe.bot _ | exact HLe.refl _ | assumption) (by first | exact .nil | (refine Sub.one ?_; repeat (first | exact .here | assumption | exact Mem.row (by omega) (by omega) | refine .there ?_ | refine Mem.app2 ?_))) ?_))
                  refine .regSeq (.z zm (.z zm (.z zm (.z (zbd [_, _] bld_moorsomref02_step) ?_))))
                  first | (refine .ixw hs Tryz.runUnderlying221 Tryz.sizeOf226 ?_; intro b108 o108 hc108) | refine .z (zixm Tryz.runUnderlying221 Tryz.sizeOf226) ?_
                  refine .o (.stores (vs := [I (a : Int), Value.bool false]) hs rfl rfl Tryz.sizeOf226 ?_ (by repeat constructor) (by rw [StepsC_length]; simp <;> omega) hset); intro w hs
                  refine .nil (.region (.z zg (.nil ?_)))
                  refine nT ?_
                  have hR := hV'.relax (Dn' := UptoF es a b) hg hxm (by rw [e1]; exact hfa) hcan
                  have hL := hV'.less hg hxm (by rw [e1]; exact hfa) hcan
                  rw [hsr] at hR hL
                  exact ⟨true, _, by repeat (first | exact .nil rfl rfl | refine .cons rfl ?_), hR, ⟨by omega, fun _ => by omega⟩, by dsimp only; rw [gi_set (by omega), if_neg hab]; exact hfa, hs⟩
                · refine .skip ?_
                  refine nT ?_
                  exact ⟨ag', s', by repeat (first | exact .nil rfl rfl | refine .cons rfl ?_), hV'.noF (fun x hx e1 e2 hc => by
                    obtain ⟨b1, b2, b3, b4, b5⟩ := hT.ok x hx
                    rw [e1, e2] at b4
                    rcases hp2 hc88 with h | h | h
                    · exact b3 (by rw [e1, e2, h])
                    · exact b5 (by rw [← b4, h])
                    · exact h (by rw [b4]; exact hc.2)), hW, hfa, hs⟩
            · clear hV' hW hlc hlow hlo htop hfa
              rintro fs w ⟨ag', s', hfs, hV', hW, hfa, hs⟩
              refine WE.sub ?_ hfs
              have hlc := hV'.lc
              have hlow := hV'.low hg ha hfa
              have hlo := hV'.lo a ha
              have htop := hV'.top b hb
              refine .cut (fun fs w => ∃ p, FSub fs ⟨160, [], [(135, .bool p), (11, .bool ag'), (13, I (b : Int)), (54, I (b : Int)), (53, I (Ms.length : Int)), (12, I (a : Int)), (44, I (a : Int)), (43, I (Ms.length : Int)), (8, .slice (some ⟨b16, 0, none⟩) Ms.length Ms.length), (9, .slice (some ⟨b19, 0, none⟩) Ms.length Ms.length), (0, .slice am Ms.length cm), (1, .slice (some ⟨bF, 0, none⟩) Ms.length Ms.length), (2, .slice (some ⟨bN, 0, none⟩) Ms.length capN)]⟩ ∧ (p = true → 0 < gt Fs b a ∧ gi s'.cost a - gt Ms b a < gi s'.cost b) ∧ (p = false → ¬ 0 < gt Fs b a ∨ ¬ gi s'.cost a - gt Ms b a < gi s'.cost b) ∧ St H w (.blk b19 (StepsC es s'.by_) :: .blk b16 (Is s'.cost) :: σ)) ?_ ?_
              · refine .draw mix rfl hs ?_; intro w hs
                refine .z 0 rfl zm ?_; refine .z 1 rfl zm ?_
                refine .p (i := 2) rfl (by kernel_rfl) .none (q_ixO (k := b) rfl rfl Tryz.runUnderlying29 Tryz.sizeOf25 rfl hb) ?_
                refine .load (i := 3) hs rfl (by kernel_rfl) .none rfl Tryz.isAgg25 ?_ (.there (.there hF0)) (ptr_get (by omega))
                refine .z 4 rfl zm ?_
                refine .p (i := 5) rfl (by kernel_rfl) .none (q_ixO (k := a) rfl rfl Tryz.runUnderlying25 Tryz.sizeOf3 rfl ha) ?_
                refine .load (i := 6) hs rfl (by kernel_rfl) .none rfl Tryz.isAgg3 ?_ (.there (.there (hF b hb))) (Is_gt hqF hb ha)
                refine .z 7 rfl zgtr ?_; refine .z 8 rfl zm ?_
                refine .bifD (t' := 117) rfl (fun hb117 => ?_) (fun hb117 => ?_)
                · refine .z 9 rfl zm ?_; refine .z 10 rfl zm ?_
                  have hMb : -1400000 ≤ gi (gr Ms b) a ∧ gi (gr Ms b) a ≤ 1400000 := by
                    obtain ⟨x, hx, e1, e2⟩ := hC.pos hb ha hb117
                    have h1 := harc x hx
                    have h2 := (hT.ok x hx).2.2.2.1
                    rw [e1, e2] at h2
                    change gi (gr Ms b) a = x.c at h2
                    omega
                  first | (refine .ixv 11 rfl hs Tryz.runUnderlying25 Tryz.sizeOf3 ?_; intro b120 o120 hc120) | refine .z 11 rfl (zix Tryz.runUnderlying25 Tryz.sizeOf3) ?_
                  first | refine .load (i := 12) hs rfl (by kernel_rfl) (.some rfl rfl) rfl Tryz.isAgg3 ?_ (by repeat (first | exact .here | assumption | exact Mem.row (by omega) (by omega) | refine .there ?_ | refine Mem.app2 ?_)) (by first | rfl | exact ptr_get (by omega) | exact Is_gt (by assumption) (by omega) (by omega) | exact Is_gi (by first | assumption | omega)) | refine .r (i := 12) hs rfl (by kernel_rfl) (.some rfl rfl) (q_loadR rfl Tryz.isAgg3 (by assumption)) ?_
                  refine .z 13 rfl zm ?_; refine .z 14 rfl zm ?_
                  refine .ixT (i := 15) hs rfl (by kernel_rfl) (.some rfl rfl) hM rfl rfl Tryz.runUnderlying29 Tryz.sizeOf25 hb rfl ?_; intro b124 o124 a124 c124 hc124 hR124
                  refine .r (i := 16) hs rfl (by kernel_rfl) (.some rfl rfl) (q_loadR rfl Tryz.isAgg25 hc124) ?_
                  refine .z 17 rfl zm ?_
                  refine .ixX (enc := fun x => [I x]) (i := 18) hs rfl (by kernel_rfl) (.some rfl rfl) hR124 rfl rfl Tryz.runUnderlying25 Tryz.sizeOf3 (gi_get (l := _) (i := a) (by omega)) rfl ?_; intro b127 o127 hc127; replace hc127 := CellsAt.one hc127
                  refine .r (i := 19) hs rfl (by kernel_rfl) (.some rfl rfl) (q_loadR rfl Tryz.isAgg3 hc127) ?_
                  refine .z 20 rfl zsub ?_; refine .z 21 rfl zm ?_; refine .z 22 rfl zm ?_
                  first | (refine .ixv 23 rfl hs Tryz.runUnderlying25 Tryz.sizeOf3 ?_; intro b132 o132 hc132) | refine .z 23 rfl (zix Tryz.runUnderlying25 Tryz.sizeOf3) ?_
                  first | refine .load (i := 24) hs rfl (by kernel_rfl) (.some rfl rfl) rfl Tryz.isAgg3 ?_ (by repeat (first | exact .here | assumption | exact Mem.row (by omega) (by omega) | refine .there ?_ | refine Mem.app2 ?_)) (by first | rfl | exact ptr_get (by omega) | exact Is_gt (by assumption) (by omega) (by omega) | exact Is_gi (by first | assumption | omega)) | refine .r (i := 24) hs rfl (by kernel_rfl) (.some rfl rfl) (q_loadR rfl Tryz.isAgg3 (by assumption)) ?_
                  refine .z 25 rfl zlss ?_; refine .z 26 rfl zpT ?_
                  refine .done (by kernel_rfl) hs ?_ (hp := by repeat (first | exact .nil | refine .cons (by first | exact HLe.bot _ | exact HLe.refl _ | assumption) (by first | exact .nil | (refine Sub.one ?_; repeat (first | exact .here | assumption | exact Mem.row (by omega) (by omega) | refine .there ?_ | refine Mem.app2 ?_))) ?_))
                  exact nT ⟨_, by repeat (first | exact .nil rfl rfl | refine .cons rfl ?_), by
                    intro hp
                    first
                      | (cases hp; done)
                      | exact ⟨hb117, of_decide_eq_true hp⟩, by
                    intro hp
                    first
                      | (cases hp; done)
                      | exact .inl hb117
                      | exact .inr (of_decide_eq_false hp), hs⟩
                · refine .qF (i := 9) rfl (by kernel_rfl) rfl rfl ?_
                  refine .qF (i := 10) rfl (by kernel_rfl) rfl rfl ?_
                  refine .qF (i := 11) rfl (by kernel_rfl) rfl rfl ?_
                  refine .qF (i := 12) rfl (by kernel_rfl) rfl rfl ?_
                  refine .qF (i := 13) rfl (by kernel_rfl) rfl rfl ?_
                  refine .qF (i := 14) rfl (by kernel_rfl) rfl rfl ?_
                  refine .qF (i := 15) rfl (by kernel_rfl) rfl rfl ?_
                  refine .qF (i := 16) rfl (by kernel_rfl) rfl rfl ?_
                  refine .qF (i := 17) rfl (by kernel_rfl) rfl rfl ?_
                  refine .qF (i := 18) rfl (by kernel_rfl) rfl rfl ?_
                  refine .qF (i := 19) rfl (by kernel_rfl) rfl rfl ?_
                  refine .qF (i := 20) rfl (by kernel_rfl) rfl rfl ?_
                  refine .qF (i := 21) rfl (by kernel_rfl) rfl rfl ?_
                  refine .qF (i := 22) rfl (by kernel_rfl) rfl rfl ?_
                  refine .qF (i := 23) rfl (by kernel_rfl) rfl rfl ?_
                  refine .qF (i := 24) rfl (by kernel_rfl) rfl rfl ?_
                  refine .qF (i := 25) rfl (by kernel_rfl) rfl rfl ?_
                  refine .z 26 rfl zpF ?_
                  refine .done (by kernel_rfl) hs ?_ (hp := by repeat (first | exact .nil | refine .cons (by first | exact HLe.bot _ | exact HLe.refl _ | assumption) (by first | exact .nil | (refine Sub.one ?_; repeat (first | exact .here | assumption | exact Mem.row (by omega) (by omega) | refine .there ?_ | refine Mem.app2 ?_))) ?_))
                  exact nT ⟨_, by repeat (first | exact .nil rfl rfl | refine .cons rfl ?_), by
                    intro hp
                    first
                      | (cases hp; done)
                      | exact ⟨hb117, of_decide_eq_true hp⟩, by
                    intro hp
                    first
                      | (cases hp; done)
                      | exact .inl hb117
                      | exact .inr (of_decide_eq_false hp), hs⟩
              · rintro fs w ⟨p, hfs, hp1, hp2, hs⟩
                refine WE.sub ?_ hfs
                refine (.cond rfl (fun hc135 => ?_) (fun hc135 => ?_))
                · refine .seq (.draw mix rfl hs ?_); intro w hs
                  obtain ⟨hpos, hlt⟩ := hp1 hc135
                  obtain ⟨x, hx, e1, e2⟩ := hC.pos hb ha hpos
                  have e3 : gi (gr Ms b) a = x.c := by
                    have h2 := (hT.ok x hx).2.2.2.1
                    rw [e1, e2] at h2; exact h2
                  have hxc := harc x hx
                  have hab : a ≠ b := fun e => (hT.ok x hx).2.2.1 (by rw [e1, e2, e])
                  have hxl : ¬ x.back.l < 0 := by have := (hT.at hx).2; show ¬ x.l < 0; omega
                  have e4 : x.back.f = a := e2
                  have e5 : x.back.t = b := e1
                  have hstp : stepC es x.back = [I (a : Int), .bool true] := by
                    unfold stepC
                    rw [if_neg hxl, e4]
                    simp [(hT.fwd_iff hx).2]
                  have hset : setL (StepsC es s'.by_) (b * 2) [I (a : Int), Value.bool true] = StepsC es (s'.by_.set b x.back) := by rw [← hstp]; exact setL_two (by have := hV'.lb; omega) x.back
                  have hsr : s'.rlx x.back = ⟨s'.cost.set b (gi s'.cost a - gi (gr Ms b) a), s'.by_.set b x.back⟩ := by
                    unfold BS.rlx
                    rw [e4, e5, e3]; rfl
                  have hcan : s'.can x.back := by
                    unfold BS.can
                    rw [e4, e5]
                    show gi s'.cost a + -x.c < _
                    rw [← e3]
                    exact hlt
                  have hxm : x.back ∈ resid es ts := (resid_iff hT hC).2 (.inr ⟨x, hx, by rw [e1, e2]; exact hpos, rfl⟩)
                  have hlb := hV'.lb
                  refine .z 0 rfl zm ?_; refine .z 1 rfl zm ?_; refine .z 2 rfl zm ?_; refine .z 3 rfl zm ?_
                  first | (refine .ixv 4 rfl hs Tryz.runUnderlying25 Tryz.sizeOf3 ?_; intro b140 o140 hc140) | refine .z 4 rfl (zix Tryz.runUnderlying25 Tryz.sizeOf3) ?_
                  first | refine .load (i := 5) hs rfl (by kernel_rfl) .none rfl Tryz.isAgg3 ?_ (by repeat (first | exact .here | assumption | exact Mem.row (by omega) (by omega) | refine .there ?_ | refine Mem.app2 ?_)) (by first | rfl | exact ptr_get (by omega) | exact Is_gt (by assumption) (by omega) (by omega) | exact Is_gi (by first | assumption | omega)) | refine .r (i := 5) hs rfl (by kernel_rfl) .none (q_loadR rfl Tryz.isAgg3 (by assumption)) ?_
                  refine .z 6 rfl zm ?_; refine .z 7 rfl zm ?_
                  refine .ixT (i := 8) hs rfl (by kernel_rfl) .none hM rfl rfl Tryz.runUnderlying29 Tryz.sizeOf25 hb rfl ?_; intro b144 o144 a144 c144 hc144 hR144
                  refine .r (i := 9) hs rfl (by kernel_rfl) .none (q_loadR rfl Tryz.isAgg25 hc144) ?_
                  refine .z 10 rfl zm ?_
                  refine .ixX (enc := fun x => [I x]) (i := 11) hs rfl (by kernel_rfl) .none hR144 rfl rfl Tryz.runUnderlying25 Tryz.sizeOf3 (gi_get (l := _) (i := a) (by omega)) rfl ?_; intro b147 o147 hc147; replace hc147 := CellsAt.one hc147
                  refine .r (i := 12) hs rfl (by kernel_rfl) .none (q_loadR rfl Tryz.isAgg3 hc147) ?_
                  refine .z 13 rfl zsub ?_
                  first | (refine .ixv 14 rfl hs Tryz.runUnderlying25 Tryz.sizeOf3 ?_; intro b150 o150 hc150) | refine .z 14 rfl (zix Tryz.runUnderlying25 Tryz.sizeOf3) ?_
                  refine .e1 (i := 15) (by kernel_rfl) rfl rfl .none hs ?_ (hp := by repeat (first | exact .nil | refine .cons (by first | exact HLe.bot _ | exact HLe.refl _ | assumption) (by first | exact .nil | (refine Sub.one ?_; repeat (first | exact .here | assumption | exact Mem.row (by omega) (by omega) | refine .there ?_ | refine Mem.app2 ?_))) ?_))
                  refine .store hs rfl rfl Tryz.sizeOf3 ?_; intro w hs
                  refine .go ?_
                  refine .done (by kernel_rfl) hs ?_ (hp := by repeat (first | exact .nil | refine .cons (by first | exact HLe.bot _ | exact HLe.refl _ | assumption) (by first | exact .nil | (refine Sub.one ?_; repeat (first | exact .here | assumption | exact Mem.row (by omega) (by omega) | refine .there ?_ | refine Mem.app2 ?_))) ?_))
                  refine .regSeq (.z zm (.z zm (.z zm (.z (zbd [_, _] bld_moorsomref02_step) ?_))))
                  first | (refine .ixw hs Tryz.runUnderlying221 Tryz.sizeOf226 ?_; intro b155 o155 hc155) | refine .z (zixm Tryz.runUnderlying221 Tryz.sizeOf226) ?_
                  refine .o (.stores (vs := [I (a : Int), Value.bool true]) hs rfl rfl Tryz.sizeOf226 ?_ (by repeat constructor) (by rw [StepsC_length]; simp <;> omega) hset); intro w hs
                  refine .nil (.region (.z zg (.nil ?_)))
                  refine nB (nT ?_)
                  have hR := hV'.relax (Dn' := Upto a (b + 1)) hg hxm (by rw [e4]; exact hfa) hcan
                  have hL := hV'.less hg hxm (by rw [e4]; exact hfa) hcan
                  rw [hsr] at hR hL
                  exact .mk ⟨true, _, rfl, hR, ⟨by omega, fun _ => by omega⟩, by dsimp only; rw [gi_set (by omega), if_neg hab]; exact hfa, hs⟩
                · refine .skip ?_
                  refine nB (nT ?_)
                  exact .mk ⟨ag', s', rfl, hV'.noB hT hC (fun x hx e1 e2 hpos hc => by
                    have h2 := (hT.ok x hx).2.2.2.1
                    rw [e1, e2] at h2
                    rcases hp2 hc135 with h | h
                    · exact h hpos
                    · exact h (by rw [h2]; exact hc.2)), hW, hfa, hs⟩
          · rintro fr w ⟨ag', s', rfl, hV', hW, -, hs⟩
            refine nB (nT ?_)
            exact .mk ⟨ag', s', rfl, hV'.row hg, hW, hs⟩
      · rintro fr w ⟨ag', s', rfl, hV', hW, hs⟩
        refine nB (nT ?_)
        exact ⟨(ag', s'), by repeat (first | exact .nil rfl rfl | refine .cons rfl ?_), ⟨hV'.all hg, hs⟩, by
          subst hc41
          dsimp only
          cases ag' with
          | true => have := hW.2 rfl; simp only [if_true]; omega
          | false => have := hW.1; simp; omega⟩
    · refine .exit ?_
      refine xT (xT (xB (nT ?_)))
      refine .regSeq (.z zm (.z zm (.z zg (.z zg (.nil ?_)))))
      refine .ret (Fin.ret2 Tryz.results207 rfl rfl ?_)
      subst hc41
      obtain ⟨H2, g1, g2, hs⟩ := OwnS.publish (m := 2) (v := .slice (some ⟨b19, 0, none⟩) Ms.length Ms.length) (cs := s.by_.map (stepC es)) (en := .blk b19 (StepsC es s.by_)) (.full (by show (StepsC es s.by_).length = _; rw [StepsC_length, hV.lb])) (fun c hc => by simp only [List.mem_map] at hc; obtain ⟨x, _, rfl⟩ := hc; exact stepC_length es x) (by omega) (by rw [List.length_map, hV.lb]; omega) hs .here
      obtain ⟨H3, g3, g4, hs⟩ := OwnS.publishI (v := .slice (some ⟨b16, 0, none⟩) Ms.length Ms.length) (xs := s.cost) (.full (by simp [hV.lc])) (by rw [hV.lc]; omega) hs .here
      exact ⟨H3, _, _, s, g1.trans g3, rfl, g4, RS.mono g2 g3, hV, hs⟩
end Go.Proofs.YtiiokdeehlfeeaaGreat
